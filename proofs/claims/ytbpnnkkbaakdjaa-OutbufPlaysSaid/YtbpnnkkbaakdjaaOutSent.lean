/- What Sent, Came and Lost of outbuf.Buffer do, each as a contract. Conditions: numbers fit their types, no more bytes than a buffer holds. -/
import Derived.Test.YtbpnnkkbaakdjaaOutNext
namespace Go.Proofs.Ytbpnnkkbaakdjaa
open Go Go.Sl Go.Proofs
set_option maxRecDepth 20000
set_option linter.unusedVariables false
set_option linter.unusedSimpArgs false

/-- a part was sent -/
def BufM.sent (m : BufM) (at_ : Int) (len : Int) (fin : Bool) : BufM :=
  { m with pend := if at_ < m.base + m.data.length then cutE m.pend ⟨at_, at_ + min len (m.base + m.data.length - at_)⟩ else m.pend, waits := if fin = true then false else m.waits }
theorem outSent_c {B : Nat} {w0 : World} {G : List Hp} {R : Hp → List Hp} {m : BufM} {b : Nat} {c : Hp} {p : PartV} (hsel : Sel G c R) (hO : OutAt m b c) (hw : m.WF) (hp : 0 ≤ p.at_ ∧ p.at_ ≤ 18446744073709551615) (hn : (p.n : Int) ≤ 1000000) :
    Go.Sl.Fn Try.prog 40 #[.pointer (some ⟨b, 0, none⟩), enP.val p] B w0 G fun u G' => ∃ c' : Hp, u = .tuple #[] ∧ OutAt (m.sent p.at_ p.n p.fin) b c' ∧ G' = R c' := by
  refine Fn.sel0 hsel fun F hR hF => ?_
  have hO' := hO
  obtain ⟨ao, cap, bp, bc, cd, cp, cc, rfl, hL, hP, hC⟩ := hO
  have h1 := hw.low
  have h2 := hw.top
  have hrg : p.at_ < m.base + m.data.length → RgIn ⟨p.at_, p.at_ + min (p.n : Int) (m.base + m.data.length - p.at_)⟩ := fun h => ⟨by dsimp only; omega, by dsimp only; omega⟩
  have hcu := fun h => cut_fits (v := 65536) hw.gp (hrg h) (by omega) (fun n hn => by have := hw.ip n hn; omega)
  refine fn_enter Try.func40 rfl (by kernel_rfl) Try.ntmps40 (by simp) ?_
  refine cw_split4 ?_
  refine Go.Sl.cw_seq ?_
  refine Go.Sl.cw_region ?_
  (refine Go.Sl.ow_box rfl rfl rfl rfl ?_; intro b3)
  refine Go.Sl.ow_nil ?_
  refine Go.Sl.xw_then ?_
  refine Go.Sl.cw_seq ?_
  refine Go.Sl.cw_seq ?_
  refine Go.Sl.cw_region ?_
  refine Go.Sl.ow_val rfl rfl (Go.Sl.v_move rfl) ?_
  refine Go.Sl.ow_val rfl rfl (Go.Sl.v_eql_nil_some Try.underlying58 rfl) ?_
  refine Go.Sl.ow_nil ?_
  refine Go.Sl.xw_then ?_
  refine Go.Sl.cw_false rfl ?_
  refine Go.Sl.cw_skip ?_
  refine Go.Sl.xw_then ?_
  refine Go.Sl.cw_cut2 (ι := (Hp)) [(0, _), (3, _)] ⟨rfl, rfl, trivial⟩ ((fun _ => [])) ((fun x => SetAt ⟨65536, (m.sent p.at_ p.n p.fin).pend⟩ bp x)) ((fun x => [(b3, .cells (enP.f p).toArray 64 (0, 0))] :: [(b, .cells [.slice ao m.data.length cap, .int .u64 m.base, .pointer (some ⟨bp, 0, none⟩), .pointer (some ⟨bc, 0, none⟩), .bool m.fin, .bool m.waits, .bool m.endCame].toArray 133 (0, 0))] :: cd :: x :: cc :: F)) ?_ ?_
  · refine Go.Sl.cw_seq ?_
    refine Go.Sl.cw_region ?_
    refine Go.Sl.ow_val rfl rfl (Go.Sl.v_move rfl) ?_
    refine Go.Sl.ow_val rfl rfl (Go.Sl.v_call rfl rfl (outStop_c hO' (Sub.app (by repeat (first | exact Go.Sl.Sub.here | assumption | refine Go.Sl.Sub.there ?_)) (Sub.app (by repeat (first | exact Go.Sl.Sub.here | assumption | refine Go.Sl.Sub.there ?_)) (Sub.app (by repeat (first | exact Go.Sl.Sub.here | assumption | refine Go.Sl.Sub.there ?_)) (by repeat (first | exact Go.Sl.Sub.here | assumption | refine Go.Sl.Sub.there ?_))))) hw)) ?_
    refine Go.Sl.ow_val rfl rfl (Go.Sl.v_assign rfl) ?_
    refine Go.Sl.ow_nil ?_
    refine Go.Sl.xw_then ?_
    refine Go.Sl.cw_seq ?_
    refine Go.Sl.cw_region ?_
    refine Go.Sl.ow_val rfl rfl (Go.Sl.v_fieldAddr0 Ty.fd64_0 rfl) ?_
    refine Go.Sl.ow_val rfl rfl (Go.Sl.v_load rfl (Go.Sl.Var.at1 Ty.sc23 .here (Go.Sl.GetN.lit rfl))) ?_
    refine Go.Sl.ow_val rfl rfl (Go.Sl.v_move rfl) ?_
    refine Go.Sl.ow_val rfl rfl (Go.Sl.v_lss rfl rfl) ?_
    refine Go.Sl.ow_nil ?_
    refine Go.Sl.xw_then ?_
    refine Go.Sl.cw_dec rfl (fun hc13 => ?_) (fun hc13 => ?_)
    refine Go.Sl.cw_seq ?_
    refine Go.Sl.cw_region ?_
    refine Go.Sl.ow_val rfl rfl (Go.Sl.v_fieldAddr0 Ty.fd64_0 rfl) ?_
    refine Go.Sl.ow_val rfl rfl (Go.Sl.v_load rfl (Go.Sl.Var.at1 Ty.sc23 .here (Go.Sl.GetN.lit rfl))) ?_
    refine Go.Sl.ow_val rfl rfl (Go.Sl.v_fieldAddr0 Ty.fd64_1 rfl) ?_
    refine Go.Sl.ow_val rfl rfl (Go.Sl.v_load rfl (Go.Sl.Var.at1 Ty.sc57 .here (Go.Sl.GetN.lit rfl))) ?_
    refine Go.Sl.ow_val rfl rfl (Go.Sl.v_len rfl Try.underlying57 rfl) ?_
    refine Go.Sl.ow_val rfl rfl (Go.Sl.v_convert Try.underlying3 Try.underlying23 rfl (Go.Sl.nw_u64 (by omega) (by omega))) ?_
    refine Go.Sl.ow_val rfl rfl (Go.Sl.v_move rfl) ?_
    refine Go.Sl.ow_val rfl rfl (Go.Sl.v_fieldAddr0 Ty.fd64_0 rfl) ?_
    refine Go.Sl.ow_val rfl rfl (Go.Sl.v_load rfl (Go.Sl.Var.at1 Ty.sc23 .here (Go.Sl.GetN.lit rfl))) ?_
    refine Go.Sl.ow_val rfl rfl (Go.Sl.v_sub rfl rfl (Go.Sl.nw_u64 (by omega) (by omega))) ?_
    refine Go.Sl.ow_val rfl rfl (Go.Sl.v_min rfl rfl) ?_
    refine Go.Sl.ow_val rfl rfl (Go.Sl.v_add rfl rfl (Go.Sl.nw_u64 (by omega) (by omega))) ?_
    refine Go.Sl.ow_val rfl rfl (Go.Sl.v_assign rfl) ?_
    refine Go.Sl.ow_nil ?_
    refine Go.Sl.xw_then ?_
    refine Go.Sl.cw_mix [] [8] [0, 1, 2, 3, 4, 5, 6, 7] Ty.mixed rfl rfl rfl rfl (by decide +kernel) ?_
    refine Go.Sl.hw_pure rfl rfl (Go.Sl.v_move rfl) rfl ?_
    refine Go.Sl.hw_pure rfl rfl (Go.Sl.v_nilCheck rfl) rfl ?_
    refine Go.Sl.hw_pure rfl rfl (Go.Sl.v_fieldAddr0 Ty.fd133_2 rfl) rfl ?_
    refine Go.Sl.hw_read rfl rfl rfl (Go.Sl.v_load rfl (Go.Sl.Var.at1 Ty.sc25 (.there .here) (Go.Sl.GetN.lit rfl))) ?_
    refine Go.Sl.hw_pure rfl rfl (Go.Sl.v_fieldAddr0 Ty.fd64_0 rfl) rfl ?_
    refine Go.Sl.hw_read rfl rfl rfl (Go.Sl.v_load rfl (Go.Sl.Var.at1 Ty.sc23 .here (Go.Sl.GetN.lit rfl))) ?_
    refine Go.Sl.hw_pure rfl rfl (Go.Sl.v_move rfl) rfl ?_
    refine Go.Sl.hw_pure rfl rfl (Go.Sl.v_build rfl (b_rng)) rfl ?_
    refine Go.Sl.hw_nil ?_
    refine Go.Sl.sw_nil ?_
    (refine Go.Sl.ow_call rfl rfl rfl rfl (setCutOk_l (r := ⟨p.at_, p.at_ + min (p.n : Int) (m.base + m.data.length - p.at_)⟩) (by repeat (first | exact Go.Sl.Sel.here | apply Go.Sl.Sel.there)) hP hw.sp (hrg (by omega)) (by have := (hcu (by omega)).2.2; omega)) ?_; rintro _ _ ⟨x34, rfl, hq34, rfl⟩)
    refine Go.Sl.ow_nil ?_
    refine Go.Sl.xw_np ?_
    rotate_left
    refine Go.Sl.cw_skip ?_
    rotate_left
    · have hpe : (m.sent p.at_ p.n p.fin).pend = cutE m.pend ⟨p.at_, p.at_ + min (p.n : Int) (m.base + m.data.length - p.at_)⟩ := if_pos hc13
      rw [hpe]
      exact xw_joint x34 hq34 (by first | exact Go.Sl.Cov.refl _ | (intro p; simp only [List.flatten_cons, List.flatten_nil, List.flatten_append, List.append_nil, List.nil_append, Go.Sl.cnt_append, Go.Sl.cnt_cons, Go.Sl.cnt_nil, List.set_cons_zero, List.set_cons_succ, List.length_nil, List.length_cons, Nat.zero_add, List.append]; omega)) (by repeat (first | exact True.intro | refine And.intro rfl ?_))
    · have hpe : (m.sent p.at_ p.n p.fin).pend = m.pend := if_neg hc13
      rw [hpe]
      exact xw_joint cp hP (by first | exact Go.Sl.Cov.refl _ | (intro p; simp only [List.flatten_cons, List.flatten_nil, List.flatten_append, List.append_nil, List.nil_append, Go.Sl.cnt_append, Go.Sl.cnt_cons, Go.Sl.cnt_nil, List.set_cons_zero, List.set_cons_succ, List.length_nil, List.length_cons, Nat.zero_add, List.append]; omega)) (by repeat (first | exact True.intro | refine And.intro rfl ?_))
  · rintro cp2 hP2
    refine Go.Sl.cw_seq ?_
    refine Go.Sl.cw_region ?_
    refine Go.Sl.ow_val rfl rfl (Go.Sl.v_fieldAddr0 Ty.fd64_2 rfl) ?_
    refine Go.Sl.ow_val rfl rfl (Go.Sl.v_load rfl (Go.Sl.Var.at1 Ty.sc4 .here (Go.Sl.GetN.lit rfl))) ?_
    refine Go.Sl.ow_nil ?_
    refine Go.Sl.xw_then ?_
    refine Go.Sl.cw_bool rfl (fun hc36 => ?_) (fun hc36 => ?_)
    refine Go.Sl.cw_region ?_
    refine Go.Sl.ow_val rfl rfl (Go.Sl.v_move rfl) ?_
    refine Go.Sl.ow_val rfl rfl (Go.Sl.v_nilCheck rfl) ?_
    refine Go.Sl.ow_val rfl rfl (Go.Sl.v_fieldAddr0 Ty.fd133_5 rfl) ?_
    refine Go.Sl.ow_store1 rfl rfl rfl rfl Ty.sc4 (.there .here) (Go.Sl.SetN.one (by first | decide | exact Nat.le_of_ble_eq_true rfl)) ?_
    refine Go.Sl.ow_nil ?_
    refine Go.Sl.ret0n rfl ?_
    rotate_left
    refine Go.Sl.cw_skip ?_
    refine Go.Sl.ret0n rfl ?_
    rotate_left
    · rw [show m.sent p.at_ p.n p.fin = ⟨m.data, m.base, (m.sent p.at_ p.n p.fin).pend, m.came, m.fin, false, m.endCame⟩ from by rw [hc36]; rfl]
      exact ⟨_, rfl, OutAt.of hL hP2 hC rfl, (by first | exact Go.Sl.Cov.refl _ | (intro p; simp only [List.flatten_cons, List.flatten_nil, List.flatten_append, List.append_nil, List.nil_append, Go.Sl.cnt_append, Go.Sl.cnt_cons, Go.Sl.cnt_nil, List.set_cons_zero, List.set_cons_succ, List.length_nil, List.length_cons, Nat.zero_add, List.append]; omega))⟩
    · rw [show m.sent p.at_ p.n p.fin = ⟨m.data, m.base, (m.sent p.at_ p.n p.fin).pend, m.came, m.fin, m.waits, m.endCame⟩ from by rw [hc36]; rfl]
      exact ⟨_, rfl, OutAt.of hL hP2 hC rfl, (by first | exact Go.Sl.Cov.refl _ | (intro p; simp only [List.flatten_cons, List.flatten_nil, List.flatten_append, List.append_nil, List.nil_append, Go.Sl.cnt_append, Go.Sl.cnt_cons, Go.Sl.cnt_nil, List.set_cons_zero, List.set_cons_succ, List.length_nil, List.length_cons, Nat.zero_add, List.append]; omega))⟩

/-! ### written, release, Came, Lost -/
def BufM.written (m : BufM) (at_ size : Int) : Bool := decide (0 ≤ size) && (decide (at_ ≤ m.base + m.data.length) && decide (size ≤ m.base + m.data.length - at_))
theorem outWritten_c {B : Nat} {w0 : World} {G : List Hp} {m : BufM} {b : Nat} {c : Hp} {at_ size : Int} (hO : OutAt m b c) (hs : Sub c G) (hw : m.WF) (ha : 0 ≤ at_ ∧ at_ ≤ 18446744073709551615) (hz : -9223372036854775808 ≤ size ∧ size ≤ 9223372036854775807) :
    Go.Sl.Fn Try.prog 82 #[.pointer (some ⟨b, 0, none⟩), .int .u64 at_, .int .i64 size] B w0 G fun u G' => u = .bool (m.written at_ size) ∧ G' = G := by
  refine Fn.pure ?_
  have h1 := hw.low
  have h2 := hw.top
  refine fn_enter Try.func82 rfl (by kernel_rfl) Try.ntmps82 (by simp) ?_
  refine Go.Sl.cw_seq ?_
  refine Go.Sl.cw_region ?_
  refine Go.Sl.ow_val rfl rfl (Go.Sl.v_assign rfl) ?_
  refine Go.Sl.ow_nil ?_
  refine Go.Sl.xw_then ?_
  refine Go.Sl.cw_seq ?_
  refine Go.Sl.cw_region ?_
  refine Go.Sl.ow_val rfl rfl (Go.Sl.v_move rfl) ?_
  refine Go.Sl.ow_val rfl rfl (Go.Sl.v_call rfl rfl (outStop_c hO hs hw)) ?_
  refine Go.Sl.ow_val rfl rfl (Go.Sl.v_assign rfl) ?_
  refine Go.Sl.ow_nil ?_
  refine Go.Sl.xw_then ?_
  refine Go.Sl.cw_seq ?_
  refine Go.Sl.cw_region ?_
  refine Go.Sl.ow_val rfl rfl (Go.Sl.v_move rfl) ?_
  refine Go.Sl.ow_val rfl rfl (Go.Sl.v_geq rfl rfl) ?_
  refine Go.Sl.ow_val rfl rfl (Go.Sl.v_move rfl) ?_
  refine Go.Sl.ow_dec 12 rfl (fun hc12 => ?_) (fun hc12 => ?_)
  refine Go.Sl.ow_val rfl rfl (Go.Sl.v_move rfl) ?_
  refine Go.Sl.ow_val rfl rfl (Go.Sl.v_move rfl) ?_
  refine Go.Sl.ow_val rfl rfl (Go.Sl.v_leq rfl rfl) ?_
  refine Go.Sl.ow_val rfl rfl (Go.Sl.v_pick_true rfl rfl) ?_
  refine Go.Sl.ow_val rfl rfl (Go.Sl.v_move rfl) ?_
  refine Go.Sl.ow_dec 17 rfl (fun hc17 => ?_) (fun hc17 => ?_)
  refine Go.Sl.ow_val rfl rfl (Go.Sl.v_move rfl) ?_
  refine Go.Sl.ow_val rfl rfl (Go.Sl.v_convert Try.underlying3 Try.underlying23 rfl (Go.Sl.nw_u64 (by omega) (by omega))) ?_
  refine Go.Sl.ow_val rfl rfl (Go.Sl.v_move rfl) ?_
  refine Go.Sl.ow_val rfl rfl (Go.Sl.v_move rfl) ?_
  refine Go.Sl.ow_val rfl rfl (Go.Sl.v_sub rfl rfl (Go.Sl.nw_u64 (by omega) (by omega))) ?_
  refine Go.Sl.ow_val rfl rfl (Go.Sl.v_leq rfl rfl) ?_
  refine Go.Sl.ow_val rfl rfl (Go.Sl.v_pick_true rfl rfl) ?_
  refine Go.Sl.ow_val rfl rfl (Go.Sl.v_assign rfl) ?_
  refine Go.Sl.ow_nil ?_
  refine Go.Sl.xw_then ?_
  refine Go.Sl.cw_ret ?_
  refine Go.Sl.ret1 rfl (Go.Sl.res_tmp rfl) ?_
  rotate_left
  refine Go.Sl.ow_skip rfl rfl ?_
  refine Go.Sl.ow_skip rfl rfl ?_
  refine Go.Sl.ow_skip rfl rfl ?_
  refine Go.Sl.ow_skip rfl rfl ?_
  refine Go.Sl.ow_skip rfl rfl ?_
  refine Go.Sl.ow_skip rfl rfl ?_
  refine Go.Sl.ow_val rfl rfl (Go.Sl.v_pick_false rfl rfl) ?_
  refine Go.Sl.ow_val rfl rfl (Go.Sl.v_assign rfl) ?_
  refine Go.Sl.ow_nil ?_
  refine Go.Sl.xw_then ?_
  refine Go.Sl.cw_ret ?_
  refine Go.Sl.ret1 rfl (Go.Sl.res_tmp rfl) ?_
  rotate_left
  refine Go.Sl.ow_skip rfl rfl ?_
  refine Go.Sl.ow_skip rfl rfl ?_
  refine Go.Sl.ow_skip rfl rfl ?_
  refine Go.Sl.ow_val rfl rfl (Go.Sl.v_pick_false rfl rfl) ?_
  refine Go.Sl.ow_val rfl rfl (Go.Sl.v_move rfl) ?_
  refine Go.Sl.ow_skip rfl rfl ?_
  refine Go.Sl.ow_skip rfl rfl ?_
  refine Go.Sl.ow_skip rfl rfl ?_
  refine Go.Sl.ow_skip rfl rfl ?_
  refine Go.Sl.ow_skip rfl rfl ?_
  refine Go.Sl.ow_skip rfl rfl ?_
  refine Go.Sl.ow_val rfl rfl (Go.Sl.v_pick_false rfl rfl) ?_
  refine Go.Sl.ow_val rfl rfl (Go.Sl.v_assign rfl) ?_
  refine Go.Sl.ow_nil ?_
  refine Go.Sl.xw_then ?_
  refine Go.Sl.cw_ret ?_
  refine Go.Sl.ret1 rfl (Go.Sl.res_tmp rfl) ?_
  rotate_left
  · exact ⟨by rw [BufM.written, decide_eq_true hc12, decide_eq_true hc17]; rfl, (by first | exact Go.Sl.Cov.refl _ | (intro p; simp only [List.flatten_cons, List.flatten_nil, List.flatten_append, List.append_nil, List.nil_append, Go.Sl.cnt_append, Go.Sl.cnt_cons, Go.Sl.cnt_nil, List.set_cons_zero, List.set_cons_succ, List.length_nil, List.length_cons, Nat.zero_add, List.append]; omega))⟩
  · exact ⟨by rw [BufM.written, decide_eq_true hc12, decide_eq_false hc17]; rfl, (by first | exact Go.Sl.Cov.refl _ | (intro p; simp only [List.flatten_cons, List.flatten_nil, List.flatten_append, List.append_nil, List.nil_append, Go.Sl.cnt_append, Go.Sl.cnt_cons, Go.Sl.cnt_nil, List.set_cons_zero, List.set_cons_succ, List.length_nil, List.length_cons, Nat.zero_add, List.append]; omega))⟩
  · exact ⟨by rw [BufM.written, decide_eq_false hc12]; rfl, (by first | exact Go.Sl.Cov.refl _ | (intro p; simp only [List.flatten_cons, List.flatten_nil, List.flatten_append, List.append_nil, List.nil_append, Go.Sl.cnt_append, Go.Sl.cnt_cons, Go.Sl.cnt_nil, List.set_cons_zero, List.set_cons_succ, List.length_nil, List.length_cons, Nat.zero_add, List.append]; omega))⟩
theorem OutAt.of2 {m : BufM} {b bp bc cap n : Nat} {ao : Option Addr} {d : List UInt8} {base : Int} {p k : List Rg} {f w e : Bool} {cd cp cc : Hp} (hn : d.length = n) (hL : Ls enB 5 (.slice ao n cap) cd d) (hP : SetAt ⟨65536, p⟩ bp cp) (hC : SetAt ⟨65536, k⟩ bc cc) (h : m = ⟨d, base, p, k, f, w, e⟩) : OutAt m b ([(b, .cells [.slice ao n cap, .int .u64 base, .pointer (some ⟨bp, 0, none⟩), .pointer (some ⟨bc, 0, none⟩), .bool f, .bool w, .bool e].toArray 133 (0, 0))] ++ (cd ++ (cp ++ cc))) := by
  subst h hn
  exact ⟨ao, cap, bp, bc, cd, cp, cc, rfl, hL, hP, hC⟩
def BufM.release (m : BufM) : BufM := if (firstR m.came 0).2 = false ∨ 0 < (firstR m.came 0).1.a ∨ (firstR m.came 0).1.b ≤ m.base then m else { m with data := m.data.drop ((firstR m.came 0).1.b - m.base).toNat, base := (firstR m.came 0).1.b }
theorem outRelease_c {B : Nat} {w0 : World} {G : List Hp} {R : Hp → List Hp} {m : BufM} {b : Nat} {c : Hp} (hsel : Sel G c R) (hO : OutAt m b c) (hlow : 0 ≤ m.base) (htop : m.base + m.data.length ≤ 65536) (hgc : Good m.came) (hic : ∀ n, InR m.came n → 0 ≤ n ∧ n < m.base + m.data.length) :
    Go.Sl.Fn Try.prog 83 #[.pointer (some ⟨b, 0, none⟩)] B w0 G fun u G' => ∃ c' : Hp, u = .tuple #[] ∧ OutAt m.release b c' ∧ G' = R c' := by
  refine Fn.sel0 hsel fun F hR hF => ?_
  obtain ⟨ao, cap, bp, bc, cd, cp, cc, rfl, hL, hP, hC⟩ := hO
  have hsc : (⟨65536, m.came⟩ : SetM).WF := ⟨hgc, by have := good_len' (u := 0) hgc (by omega) hic; dsimp only; omega, by dsimp only; omega⟩
  have hfo : enR.ok (firstR m.came 0).1 := by
    unfold firstR
    split
    · rename_i h
      have h3 := hgc.1 _ (List.getElem_mem h)
      exact ⟨by have := h3.1; have := h3.2.1; have := h3.2.2; dsimp only; omega, by have := h3.1; have := h3.2.1; have := h3.2.2; dsimp only; omega⟩
    · exact ok_z
  have hf2 := len2 _ hfo
  have hf3 := one2 _ hfo
  have hcap := capLe hL
  have hfb : (firstR m.came 0).1.b ≤ m.base + m.data.length := by
    rcases first_low (n := 0) hgc with ⟨h3, _⟩ | ⟨_, h3, h4, h5, _, _⟩
    · have : (firstR m.came 0).1.b = 0 := by
        unfold firstR at h3 ⊢
        split at h3
        · cases h3
        · rename_i h; rw [dif_neg h]
      omega
    · have h6 := hic _ (h5 ((firstR m.came 0).1.b - 1) (by omega) (by omega))
      omega
  refine fn_enter Try.func83 rfl (by kernel_rfl) Try.ntmps83 (by simp) ?_
  refine cw_split4 ?_
  refine Go.Sl.cw_seq ?_
  refine Go.Sl.cw_region ?_
  refine Go.Sl.ow_val rfl rfl (Go.Sl.v_move rfl) ?_
  refine Go.Sl.ow_val rfl rfl (Go.Sl.v_nilCheck rfl) ?_
  refine Go.Sl.ow_val rfl rfl (Go.Sl.v_fieldAddr0 Ty.fd133_3 rfl) ?_
  refine Go.Sl.ow_val rfl rfl (Go.Sl.v_load rfl (Go.Sl.Var.at1 Ty.sc25 .here (Go.Sl.GetN.lit rfl))) ?_
  refine Go.Sl.ow_val rfl rfl (Go.Sl.v_call rfl rfl (setFirst_l hC (by repeat (first | exact Go.Sl.Sub.here | assumption | refine Go.Sl.Sub.there ?_)) hsc)) ?_
  refine Go.Sl.ow_val rfl rfl (Go.Sl.v_move rfl) ?_
  refine Go.Sl.ow_val rfl rfl (Go.Sl.v_extract rfl rfl) ?_
  refine Go.Sl.ow_val rfl rfl (Go.Sl.v_extract rfl rfl) ?_
  (refine Go.Sl.ow_alloc rfl rfl Ty.ze28 ?_; intro b2)
  refine Go.Sl.ow_storeN rfl rfl rfl Ty.ag28 (by first | rfl | assumption) (by first | assumption | simp) .here (Go.Sl.SetN.all (by first | rfl | assumption | simp_all)) ?_
  refine Go.Sl.ow_val rfl rfl (Go.Sl.v_assign rfl) ?_
  refine Go.Sl.ow_nil ?_
  refine Go.Sl.xw_then ?_
  refine Go.Sl.cw_seq ?_
  refine Go.Sl.cw_seq ?_
  refine Go.Sl.cw_quiet Ty.mixed (by decide +kernel) ?_
  refine Go.Sl.kw_val rfl rfl (Go.Sl.v_move rfl) ?_
  refine Go.Sl.kw_val rfl rfl (Go.Sl.v_not_bool rfl) ?_
  refine Go.Sl.kw_val rfl rfl (Go.Sl.v_move rfl) ?_
  refine Go.Sl.kw_bool 14 rfl (fun hc14 => ?_) (fun hc14 => ?_)
  refine Go.Sl.kw_skip rfl rfl ?_
  refine Go.Sl.kw_skip rfl rfl ?_
  refine Go.Sl.kw_skip rfl rfl ?_
  refine Go.Sl.kw_val rfl rfl (Go.Sl.v_pick_true rfl rfl) ?_
  refine Go.Sl.kw_val rfl rfl (Go.Sl.v_move rfl) ?_
  refine Go.Sl.kw_skip rfl rfl ?_
  refine Go.Sl.kw_skip rfl rfl ?_
  refine Go.Sl.kw_skip rfl rfl ?_
  refine Go.Sl.kw_skip rfl rfl ?_
  refine Go.Sl.kw_skip rfl rfl ?_
  refine Go.Sl.kw_skip rfl rfl ?_
  refine Go.Sl.kw_skip rfl rfl ?_
  refine Go.Sl.kw_val rfl rfl (Go.Sl.v_pick_true rfl rfl) ?_
  refine Go.Sl.kw_nil ?_
  refine Go.Sl.xw_then ?_
  refine Go.Sl.cw_true rfl ?_
  refine Go.Sl.cw_ret ?_
  refine Go.Sl.xw_then_ret ?_
  refine Go.Sl.ret0 rfl ?_
  rotate_left
  refine Go.Sl.kw_val rfl rfl (Go.Sl.v_fieldAddr0 Ty.fd28_0 rfl) ?_
  refine Go.Sl.kw_val rfl rfl (Go.Sl.v_load rfl (Go.Sl.Var.at1 Ty.sc23 .here (Go.Sl.GetN.lit rfl))) ?_
  refine Go.Sl.kw_val rfl rfl (Go.Sl.v_gtr rfl rfl) ?_
  refine Go.Sl.kw_val rfl rfl (Go.Sl.v_pick_false rfl rfl) ?_
  refine Go.Sl.kw_val rfl rfl (Go.Sl.v_move rfl) ?_
  refine Go.Sl.kw_dec 19 rfl (fun hc19 => ?_) (fun hc19 => ?_)
  refine Go.Sl.kw_skip rfl rfl ?_
  refine Go.Sl.kw_skip rfl rfl ?_
  refine Go.Sl.kw_skip rfl rfl ?_
  refine Go.Sl.kw_skip rfl rfl ?_
  refine Go.Sl.kw_skip rfl rfl ?_
  refine Go.Sl.kw_skip rfl rfl ?_
  refine Go.Sl.kw_skip rfl rfl ?_
  refine Go.Sl.kw_val rfl rfl (Go.Sl.v_pick_true rfl rfl) ?_
  refine Go.Sl.kw_nil ?_
  refine Go.Sl.xw_then ?_
  refine Go.Sl.cw_true rfl ?_
  refine Go.Sl.cw_ret ?_
  refine Go.Sl.xw_then_ret ?_
  refine Go.Sl.ret0 rfl ?_
  rotate_left
  refine Go.Sl.kw_val rfl rfl (Go.Sl.v_fieldAddr0 Ty.fd28_1 rfl) ?_
  refine Go.Sl.kw_val rfl rfl (Go.Sl.v_load rfl (Go.Sl.Var.at1 Ty.sc23 .here (Go.Sl.GetN.lit rfl))) ?_
  refine Go.Sl.kw_val rfl rfl (Go.Sl.v_move rfl) ?_
  refine Go.Sl.kw_val rfl rfl (Go.Sl.v_nilCheck rfl) ?_
  refine Go.Sl.kw_val rfl rfl (Go.Sl.v_fieldAddr0 Ty.fd133_1 rfl) ?_
  refine Go.Sl.kw_val rfl rfl (Go.Sl.v_load rfl (Go.Sl.Var.at1 Ty.sc23 (.there .here) (Go.Sl.GetN.lit rfl))) ?_
  refine Go.Sl.kw_val rfl rfl (Go.Sl.v_leq rfl rfl) ?_
  refine Go.Sl.kw_val rfl rfl (Go.Sl.v_pick_false rfl rfl) ?_
  refine Go.Sl.kw_nil ?_
  refine Go.Sl.xw_then ?_
  refine Go.Sl.cw_dec rfl (fun hc27 => ?_) (fun hc27 => ?_)
  refine Go.Sl.cw_ret ?_
  refine Go.Sl.xw_then_ret ?_
  refine Go.Sl.ret0 rfl ?_
  rotate_left
  refine Go.Sl.cw_skip ?_
  refine Go.Sl.xw_then ?_
  refine Go.Sl.cw_seq ?_
  refine Go.Sl.cw_mix [] [15] [0, 1, 2, 3, 4, 5, 6, 7, 8, 9, 10, 11, 12, 13, 14] Ty.mixed rfl rfl rfl rfl (by decide +kernel) ?_
  refine Go.Sl.hw_pure rfl rfl (Go.Sl.v_move rfl) rfl ?_
  refine Go.Sl.hw_pure rfl rfl (Go.Sl.v_move rfl) rfl ?_
  refine Go.Sl.hw_pure rfl rfl (Go.Sl.v_nilCheck rfl) rfl ?_
  refine Go.Sl.hw_pure rfl rfl (Go.Sl.v_fieldAddr0 Ty.fd133_0 rfl) rfl ?_
  refine Go.Sl.hw_read rfl rfl rfl (Go.Sl.v_load rfl (Go.Sl.Var.at1 Ty.sc57 (.there .here) (Go.Sl.GetN.lit rfl))) ?_
  refine Go.Sl.hw_pure rfl rfl (Go.Sl.v_fieldAddr0 Ty.fd28_1 rfl) rfl ?_
  refine Go.Sl.hw_read rfl rfl rfl (Go.Sl.v_load rfl (Go.Sl.Var.at1 Ty.sc23 .here (Go.Sl.GetN.lit rfl))) ?_
  refine Go.Sl.hw_pure rfl rfl (Go.Sl.v_move rfl) rfl ?_
  refine Go.Sl.hw_pure rfl rfl (Go.Sl.v_nilCheck rfl) rfl ?_
  refine Go.Sl.hw_pure rfl rfl (Go.Sl.v_fieldAddr0 Ty.fd133_1 rfl) rfl ?_
  refine Go.Sl.hw_read rfl rfl rfl (Go.Sl.v_load rfl (Go.Sl.Var.at1 Ty.sc23 (.there .here) (Go.Sl.GetN.lit rfl))) ?_
  refine Go.Sl.hw_pure rfl rfl (Go.Sl.v_sub rfl rfl (Go.Sl.nw_u64 (by omega) (by omega))) rfl ?_
  refine Go.Sl.hw_pure rfl rfl (Go.Sl.v_slice_ln Try.underlying57 Ty.el57 rfl rfl (Int.toNat_of_nonneg (by omega)).symm (by omega)) rfl ?_
  refine Go.Sl.hw_pure rfl rfl (Go.Sl.v_nilCheck rfl) rfl ?_
  refine Go.Sl.hw_pure rfl rfl (Go.Sl.v_fieldAddr0 Ty.fd133_0 rfl) rfl ?_
  refine Go.Sl.hw_nil ?_
  refine Go.Sl.sw_nil ?_
  refine Go.Sl.ow_store1 rfl rfl rfl rfl Ty.sc57 (.there .here) (Go.Sl.SetN.one (by first | decide | exact Nat.le_of_ble_eq_true rfl)) ?_
  refine Go.Sl.ow_nil ?_
  refine Go.Sl.xw_np ?_
  refine Go.Sl.xw_then ?_
  refine Go.Sl.cw_region ?_
  refine Go.Sl.ow_val rfl rfl (Go.Sl.v_move rfl) ?_
  refine Go.Sl.ow_val rfl rfl (Go.Sl.v_fieldAddr0 Ty.fd28_1 rfl) ?_
  refine Go.Sl.ow_val rfl rfl (Go.Sl.v_load rfl (Go.Sl.Var.at1 Ty.sc23 .here (Go.Sl.GetN.lit rfl))) ?_
  refine Go.Sl.ow_val rfl rfl (Go.Sl.v_nilCheck rfl) ?_
  refine Go.Sl.ow_val rfl rfl (Go.Sl.v_fieldAddr0 Ty.fd133_1 rfl) ?_
  refine Go.Sl.ow_store1 rfl rfl rfl rfl Ty.sc23 (.there .here) (Go.Sl.SetN.one (by first | decide | exact Nat.le_of_ble_eq_true rfl)) ?_
  refine Go.Sl.ow_nil ?_
  refine Go.Sl.ret0n rfl ?_
  rotate_left
  · rw [show m.release = m from if_pos (.inl (by simpa using hc14))]
    exact ⟨_, rfl, ⟨ao, cap, bp, bc, cd, cp, cc, rfl, hL, hP, hC⟩, (by first | exact Go.Sl.Cov.refl _ | (intro p; simp only [List.flatten_cons, List.flatten_nil, List.flatten_append, List.append_nil, List.nil_append, Go.Sl.cnt_append, Go.Sl.cnt_cons, Go.Sl.cnt_nil, List.set_cons_zero, List.set_cons_succ, List.length_nil, List.length_cons, Nat.zero_add, List.append]; omega))⟩
  · rw [show m.release = m from if_pos (.inr (.inl hc19))]
    exact ⟨_, rfl, ⟨ao, cap, bp, bc, cd, cp, cc, rfl, hL, hP, hC⟩, (by first | exact Go.Sl.Cov.refl _ | (intro p; simp only [List.flatten_cons, List.flatten_nil, List.flatten_append, List.append_nil, List.nil_append, Go.Sl.cnt_append, Go.Sl.cnt_cons, Go.Sl.cnt_nil, List.set_cons_zero, List.set_cons_succ, List.length_nil, List.length_cons, Nat.zero_add, List.append]; omega))⟩
  · rw [show m.release = m from if_pos (.inr (.inr hc27))]
    exact ⟨_, rfl, ⟨ao, cap, bp, bc, cd, cp, cc, rfl, hL, hP, hC⟩, (by first | exact Go.Sl.Cov.refl _ | (intro p; simp only [List.flatten_cons, List.flatten_nil, List.flatten_append, List.append_nil, List.nil_append, Go.Sl.cnt_append, Go.Sl.cnt_cons, Go.Sl.cnt_nil, List.set_cons_zero, List.set_cons_succ, List.length_nil, List.length_cons, Nat.zero_add, List.append]; omega))⟩
  · rw [show m.release = ⟨m.data.drop ((firstR m.came 0).1.b - m.base).toNat, (firstR m.came 0).1.b, m.pend, m.came, m.fin, m.waits, m.endCame⟩ from if_neg (fun h => by
      rcases h with h | h | h
      · rw [h] at hc14; cases hc14
      · exact hc19 h
      · exact hc27 h)]
    have hLd : Ls enB 5 (.slice (cutA ao cap ((firstR m.came 0).1.b - m.base).toNat 1) (m.data.length - ((firstR m.came 0).1.b - m.base).toNat) (cap - ((firstR m.came 0).1.b - m.base).toNat)) cd (m.data.drop ((firstR m.came 0).1.b - m.base).toNat) := Ls.drop u8Ty hL (by omega)
    exact ⟨_, rfl, OutAt.of2 (List.length_drop ..) hLd hP hC rfl, (by first | exact Go.Sl.Cov.refl _ | (intro p; simp only [List.flatten_cons, List.flatten_nil, List.flatten_append, List.append_nil, List.nil_append, Go.Sl.cnt_append, Go.Sl.cnt_cons, Go.Sl.cnt_nil, List.set_cons_zero, List.set_cons_succ, List.length_nil, List.length_cons, Nat.zero_add, List.append]; omega))⟩

end Go.Proofs.Ytbpnnkkbaakdjaa
