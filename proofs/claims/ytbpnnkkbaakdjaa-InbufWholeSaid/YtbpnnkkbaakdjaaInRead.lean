/- What Read of inbuf.Buffer does, as a contract. Conditions: numbers fit their types. -/
import Derived.Test.YtbpnnkkbaakdjaaInAdd
namespace Go.Proofs.Ytbpnnkkbaakdjaa
open Go Go.Sl Go.Proofs
set_option maxRecDepth 20000
set_option linter.unusedVariables false
set_option linter.unusedSimpArgs false

/-! ### Read -/
theorem cut_low {l : List Rg} {r : Rg} (hg : Good l) (hr : RgIn r) (hx : ∀ x ∈ l, r.a ≤ x.a) : (cutE l r).length ≤ l.length := by
  unfold cutE
  by_cases h0 : r.a < r.b
  · rw [if_pos h0]
    unfold cutL
    have hc := @cutAt_le (fun x => decide (r.a < x.b)) l
    have hB := hg.drop (cutAt (fun x => decide (r.a < x.b)) l)
    obtain ⟨h1, h2, _⟩ := cutT (r := r) (hr.ok h0) hB fun x h => hx x (List.mem_of_mem_drop h)
    have h3 := h1.le
    rw [List.length_drop] at h3
    simp only [List.length_append, List.length_take, List.length_drop]
    omega
  · rw [if_neg h0]
    exact Nat.le_refl _
def gone (f : Int → Option UInt8) (a : Int) (n : Int) (k : Int) : Option UInt8 := if a ≤ k ∧ k < a + n then none else f k
theorem gone_step {f : Int → Option UInt8} {a r : Int} (h : a ≤ r) : (fun k => if k = r then none else mv (gone f a (r - a)) k) = mv (gone f a (r + 1 - a)) := by
  funext k
  unfold mv gone
  by_cases hk : k = r
  · rw [if_pos hk, if_pos (by omega)]; rfl
  · rw [if_neg hk]
    by_cases h3 : a ≤ k ∧ k < a + (r - a)
    · rw [if_pos h3, if_pos (by omega)]
    · rw [if_neg h3, if_neg (by omega)]
theorem gone_nil {f : Int → Option UInt8} {a n : Int} (h : n ≤ 0) : gone f a n = f := by
  funext k
  unfold gone
  rw [if_neg (by omega)]
/-- so many bytes are read -/
def InM.off (m : InM) (n : Nat) : InM := { m with read := m.read + n, l := cutE m.l ⟨m.read, m.read + n⟩, f := gone m.f m.read n }
theorem InM.off_zero {m : InM} : m.off 0 = m := by
  unfold InM.off cutE
  rw [if_neg (by simp), gone_nil (by simp)]
  cases m
  simp
set_option maxHeartbeats 4000000 in
theorem inRead_c {B : Nat} {w0 : World} {G : List Hp} {R : Hp → List Hp} {m : InM} {b : Nat} {c : Hp} {many : Int} (hsel : Sel G c R) (hO : InAt m b c) (hw : m.WF) (hm : -9223372036854775808 ≤ many ∧ many ≤ 1000000) :
    Go.Sl.Fn Try.prog 46 #[.pointer (some ⟨b, 0, none⟩), .int .i64 many] B w0 G fun u G' => ∃ x : Option Addr × Nat × Hp × Hp, u = .tuple #[.slice x.1 (m.bytes (m.many many)).length x.2.1, .bool (m.known && decide (m.read + (m.many many : Int) = m.final))] ∧ (Ls enB 5 (.slice x.1 (m.bytes (m.many many)).length x.2.1) x.2.2.1 (m.bytes (m.many many)) ∧ InAt (m.off (m.many many)) b x.2.2.2) ∧ G' = [x.2.2.1] ++ R x.2.2.2 := by
  refine Fn.sel hsel fun F hR hF => ?_
  have hO' := hO
  obtain ⟨bp, bm, cp, cm, rfl, hP, hM⟩ := hO
  have hrd := hw.rd
  obtain ⟨r1, r2, r3⟩ := InM.ready_spec hw
  have hmr : m.read + m.ready ≤ m.high := by
    rcases Int.lt_or_le 0 m.ready with h | h
    · have := hw.low _ (r2 (m.read + m.ready - 1) (by omega) (by omega)); omega
    · omega
  have hmm : (m.many many : Int) ≤ m.ready ∧ (m.many many : Int) ≤ 1000000 := by unfold InM.many; omega
  have hpk := fun {G : List Hp} (hs : Go.Sl.Sub ([(b, Obj.cells #[.int .u64 m.read, .int .u64 m.high, .int .u64 m.final, .bool m.known, .pointer (some ⟨bp, 0, none⟩), .map (some bm)] 137 (0, 0))] ++ (cp ++ cm)) G) => inPeek_c (B := B) (w0 := w0) (many := many) hO' hs hw hm
  rw [InM.bytes_len] at hpk ⊢
  generalize m.many many = n at *
  refine fn_enter Try.func46 rfl (by kernel_rfl) Try.ntmps46 (by simp) ?_
  refine cw_split3' ?_
  refine Go.Sl.cw_seq ?_
  refine Go.Sl.cw_region ?_
  refine Go.Sl.ow_val rfl rfl (Go.Sl.v_assign rfl) ?_
  refine Go.Sl.ow_val rfl rfl (Go.Sl.v_assign rfl) ?_
  refine Go.Sl.ow_nil ?_
  refine Go.Sl.xw_then ?_
  refine Go.Sl.cw_seq ?_
  refine Go.Sl.cw_seq ?_
  refine Go.Sl.cw_region ?_
  refine Go.Sl.ow_val rfl rfl (Go.Sl.v_move rfl) ?_
  refine Go.Sl.ow_val rfl rfl (Go.Sl.v_eql_nil_some Try.underlying72 rfl) ?_
  refine Go.Sl.ow_nil ?_
  refine Go.Sl.xw_then ?_
  refine Go.Sl.cw_false rfl ?_
  refine Go.Sl.cw_skip ?_
  refine Go.Sl.xw_then ?_
  refine Go.Sl.cw_seq ?_
  refine Go.Sl.cw_region ?_
  refine Go.Sl.ow_val rfl rfl (Go.Sl.v_move rfl) ?_
  refine Go.Sl.ow_val rfl rfl (Go.Sl.v_move rfl) ?_
  (refine Go.Sl.ow_call rfl rfl rfl rfl (hpk (Sub.app (by repeat (first | exact Go.Sl.Sub.here | assumption | refine Go.Sl.Sub.there ?_)) (Sub.app (by repeat (first | exact Go.Sl.Sub.here | assumption | refine Go.Sl.Sub.there ?_)) (by repeat (first | exact Go.Sl.Sub.here | assumption | refine Go.Sl.Sub.there ?_))))) ?_; rintro _ _ ⟨x12, rfl, hq12, rfl⟩)
  refine Go.Sl.ow_val rfl rfl (Go.Sl.v_assign rfl) ?_
  refine Go.Sl.ow_nil ?_
  refine Go.Sl.xw_then ?_
  have hrg : RgIn ⟨m.read, m.read + n⟩ := ⟨by dsimp only; omega, by dsimp only; omega⟩
  have hcl := cut_low hw.gl hrg (fun x hx => (hw.low x.a ⟨x, hx, Int.le_refl _, (hw.gl.1 x hx).2.1⟩).1)
  have hl32 := hw.len
  refine Go.Sl.cw_cut2 (ι := (Hp)) [(0, _), (4, _), (5, _), (6, _)] ⟨rfl, rfl, rfl, rfl, trivial⟩ ((fun _ => [])) ((fun x => InAt (m.off n) b x)) ((fun x => x12.2.2 :: x :: F)) ?_ ?_
  · refine Go.Sl.cw_seq ?_
    refine Go.Sl.cw_region ?_
    refine Go.Sl.ow_val rfl rfl (Go.Sl.v_move rfl) ?_
    refine Go.Sl.ow_val rfl rfl (Go.Sl.v_len rfl Try.underlying57 rfl) ?_
    refine Go.Sl.ow_val rfl rfl (Go.Sl.v_gtr rfl rfl) ?_
    refine Go.Sl.ow_nil ?_
    refine Go.Sl.xw_then ?_
    refine Go.Sl.cw_dec rfl (fun hc15 => ?_) (fun hc15 => ?_)
    refine Go.Sl.cw_seq ?_
    refine Go.Sl.cw_region ?_
    refine Go.Sl.ow_val rfl rfl (Go.Sl.v_move rfl) ?_
    refine Go.Sl.ow_val rfl rfl (Go.Sl.v_nilCheck rfl) ?_
    refine Go.Sl.ow_val rfl rfl (Go.Sl.v_fieldAddr0 Ty.fd137_0 rfl) ?_
    refine Go.Sl.ow_val rfl rfl (Go.Sl.v_load rfl (Go.Sl.Var.at1 Ty.sc23 (.there .here) (Go.Sl.GetN.lit rfl))) ?_
    refine Go.Sl.ow_val rfl rfl (Go.Sl.v_move rfl) ?_
    refine Go.Sl.ow_val rfl rfl (Go.Sl.v_len rfl Try.underlying57 rfl) ?_
    refine Go.Sl.ow_val rfl rfl (Go.Sl.v_convert Try.underlying3 Try.underlying23 rfl (Go.Sl.nw_u64 (by omega) (by omega))) ?_
    refine Go.Sl.ow_val rfl rfl (Go.Sl.v_add rfl rfl (Go.Sl.nw_u64 (by omega) (by omega))) ?_
    refine Go.Sl.ow_val rfl rfl (Go.Sl.v_assign rfl) ?_
    refine Go.Sl.ow_nil ?_
    refine Go.Sl.xw_then ?_
    refine Go.Sl.cw_seq ?_
    refine Go.Sl.cw_mix [] [10] [0, 1, 2, 3, 4, 5, 6, 7, 8, 9] Ty.mixed rfl rfl rfl rfl (by decide +kernel) ?_
    refine Go.Sl.hw_pure rfl rfl (Go.Sl.v_move rfl) rfl ?_
    refine Go.Sl.hw_pure rfl rfl (Go.Sl.v_nilCheck rfl) rfl ?_
    refine Go.Sl.hw_pure rfl rfl (Go.Sl.v_fieldAddr0 Ty.fd137_4 rfl) rfl ?_
    refine Go.Sl.hw_read rfl rfl rfl (Go.Sl.v_load rfl (Go.Sl.Var.at1 Ty.sc25 (.there .here) (Go.Sl.GetN.lit rfl))) ?_
    refine Go.Sl.hw_pure rfl rfl (Go.Sl.v_move rfl) rfl ?_
    refine Go.Sl.hw_pure rfl rfl (Go.Sl.v_nilCheck rfl) rfl ?_
    refine Go.Sl.hw_pure rfl rfl (Go.Sl.v_fieldAddr0 Ty.fd137_0 rfl) rfl ?_
    refine Go.Sl.hw_read rfl rfl rfl (Go.Sl.v_load rfl (Go.Sl.Var.at1 Ty.sc23 (.there .here) (Go.Sl.GetN.lit rfl))) ?_
    refine Go.Sl.hw_pure rfl rfl (Go.Sl.v_move rfl) rfl ?_
    refine Go.Sl.hw_pure rfl rfl (Go.Sl.v_build rfl (b_rng)) rfl ?_
    refine Go.Sl.hw_nil ?_
    refine Go.Sl.sw_nil ?_
    (refine Go.Sl.ow_call rfl rfl rfl rfl (setCutOk_l (r := ⟨m.read, m.read + n⟩) (by repeat (first | exact Go.Sl.Sel.here | apply Go.Sl.Sel.there)) hP hw.sp hrg (by omega)) ?_; rintro _ _ ⟨x34, rfl, hq34, rfl⟩)
    refine Go.Sl.ow_nil ?_
    refine Go.Sl.xw_np ?_
    refine Go.Sl.xw_then ?_
    refine Go.Sl.cw_block ?_
    rotate_left
    refine Go.Sl.cw_skip ?_
    rotate_left
    · refine Go.Sl.cw_loop2 (ι := ((Int × Hp))) [(0, _), (4, _), (5, _), (6, _), (7, _)] ⟨rfl, rfl, rfl, rfl, rfl, trivial⟩ ((fun _ => [])) ((fun x => m.read ≤ x.1 ∧ x.1 ≤ m.read + n ∧ MapF .u64 (mv (gone m.f m.read (x.1 - m.read))) bm x.2)) ((fun x => (m.read + n - x.1).toNat)) ((fun x => x12.2.2 :: [(b, .cells [.int .u64 x.1, .int .u64 m.high, .int .u64 m.final, .bool m.known, .pointer (some ⟨bp, 0, none⟩), .map (some bm)].toArray 137 (0, 0))] :: x34 :: x.2 :: F)) (((m.read, cm) : Int × Hp)) (by repeat (first | exact True.intro | refine And.intro rfl ?_)) (by first | exact Go.Sl.Cov.refl _ | (intro p; simp only [List.flatten_cons, List.flatten_nil, List.flatten_append, List.append_nil, List.nil_append, Go.Sl.cnt_append, Go.Sl.cnt_cons, Go.Sl.cnt_nil, List.set_cons_zero, List.set_cons_succ, List.length_nil, List.length_cons, Nat.zero_add, List.append]; omega)) ?_ ?_
      · exact ⟨Int.le_refl _, by dsimp only; omega, by dsimp only; rw [Int.sub_self, gone_nil (Int.le_refl _)]; exact hM⟩
      rintro ⟨r, cj⟩ ⟨hr1, hr2, hMj⟩
      dsimp only at hr1 hr2 hMj ⊢
      refine Go.Sl.cw_seq ?_
      refine Go.Sl.cw_seq ?_
      refine Go.Sl.cw_region ?_
      refine Go.Sl.ow_val rfl rfl (Go.Sl.v_move rfl) ?_
      refine Go.Sl.ow_val rfl rfl (Go.Sl.v_nilCheck rfl) ?_
      refine Go.Sl.ow_val rfl rfl (Go.Sl.v_fieldAddr0 Ty.fd137_0 rfl) ?_
      refine Go.Sl.ow_val rfl rfl (Go.Sl.v_load rfl (Go.Sl.Var.at1 Ty.sc23 (.there .here) (Go.Sl.GetN.lit rfl))) ?_
      refine Go.Sl.ow_val rfl rfl (Go.Sl.v_move rfl) ?_
      refine Go.Sl.ow_val rfl rfl (Go.Sl.v_lss rfl rfl) ?_
      refine Go.Sl.ow_nil ?_
      refine Go.Sl.xw_then ?_
      refine Go.Sl.cw_dec rfl (fun hc40 => ?_) (fun hc40 => ?_)
      refine Go.Sl.cw_skip ?_
      refine Go.Sl.xw_then ?_
      rotate_left
      refine Go.Sl.cw_exit ?_
      refine Go.Sl.xw_then_exit ?_
      refine Go.Sl.xw_round_exit ?_
      refine Go.Sl.xw_block_exit ?_
      rotate_left
      · refine Go.Sl.cw_seq ?_
        refine Go.Sl.cw_block ?_
        refine Go.Sl.cw_mix [] [8] [0, 1, 2, 3, 4, 5, 6, 7] Ty.mixed rfl rfl rfl rfl (by decide +kernel) ?_
        refine Go.Sl.hw_pure rfl rfl (Go.Sl.v_move rfl) rfl ?_
        refine Go.Sl.hw_pure rfl rfl (Go.Sl.v_nilCheck rfl) rfl ?_
        refine Go.Sl.hw_pure rfl rfl (Go.Sl.v_fieldAddr0 Ty.fd137_5 rfl) rfl ?_
        refine Go.Sl.hw_read rfl rfl rfl (Go.Sl.v_load rfl (Go.Sl.Var.at1 Ty.sc135 (.there .here) (Go.Sl.GetN.lit rfl))) ?_
        refine Go.Sl.hw_pure rfl rfl (Go.Sl.v_move rfl) rfl ?_
        refine Go.Sl.hw_pure rfl rfl (Go.Sl.v_nilCheck rfl) rfl ?_
        refine Go.Sl.hw_pure rfl rfl (Go.Sl.v_fieldAddr0 Ty.fd137_0 rfl) rfl ?_
        refine Go.Sl.hw_read rfl rfl rfl (Go.Sl.v_load rfl (Go.Sl.Var.at1 Ty.sc23 (.there .here) (Go.Sl.GetN.lit rfl))) ?_
        refine Go.Sl.hw_nil ?_
        refine Go.Sl.sw_nil ?_
        refine Go.Sl.ow_delete (kd := .u64) rfl rfl Try.underlying135 Try.underlying23 rfl rfl (by repeat (first | exact Go.Sl.Sel.here | apply Go.Sl.Sel.there)) hMj ?_
        intro cm3 hM3
        rw [gone_step hr1] at hM3
        refine Go.Sl.ow_nil ?_
        refine Go.Sl.xw_np ?_
        refine Go.Sl.xw_block ?_
        refine Go.Sl.xw_then ?_
        refine Go.Sl.cw_region ?_
        refine Go.Sl.ow_val rfl rfl (Go.Sl.v_move rfl) ?_
        refine Go.Sl.ow_val rfl rfl (Go.Sl.v_nilCheck rfl) ?_
        refine Go.Sl.ow_val rfl rfl (Go.Sl.v_fieldAddr0 Ty.fd137_0 rfl) ?_
        refine Go.Sl.ow_val rfl rfl (Go.Sl.v_load rfl (Go.Sl.Var.at1 Ty.sc23 (.there .here) (Go.Sl.GetN.lit rfl))) ?_
        refine Go.Sl.ow_val rfl rfl (Go.Sl.v_add rfl rfl (Go.Sl.nw_u64 (by omega) (by omega))) ?_
        refine Go.Sl.ow_val rfl rfl (Go.Sl.v_nilCheck rfl) ?_
        refine Go.Sl.ow_val rfl rfl (Go.Sl.v_fieldAddr0 Ty.fd137_0 rfl) ?_
        refine Go.Sl.ow_store1 rfl rfl rfl rfl Ty.sc23 (.there .here) (Go.Sl.SetN.one (by first | decide | exact Nat.le_of_ble_eq_true rfl)) ?_
        refine Go.Sl.ow_nil ?_
        exact xw_round ((r + 1, cm3) : Int × Hp) ⟨by dsimp only; omega, by dsimp only; omega, hM3⟩ (by dsimp only; omega) (by first | exact Go.Sl.Cov.refl _ | (intro p; simp only [List.flatten_cons, List.flatten_nil, List.flatten_append, List.append_nil, List.nil_append, Go.Sl.cnt_append, Go.Sl.cnt_cons, Go.Sl.cnt_nil, List.set_cons_zero, List.set_cons_succ, List.length_nil, List.length_cons, Nat.zero_add, List.append]; omega)) (by repeat (first | exact True.intro | refine And.intro rfl ?_))
      · have hrn : r = m.read + n := by omega
        subst hrn
        rw [show m.read + (n : Int) - m.read = n from by omega] at hMj
        exact xw_joint _ (InAt.of (by assumption) hMj rfl) (by first | exact Go.Sl.Cov.refl _ | (intro p; simp only [List.flatten_cons, List.flatten_nil, List.flatten_append, List.append_nil, List.nil_append, Go.Sl.cnt_append, Go.Sl.cnt_cons, Go.Sl.cnt_nil, List.set_cons_zero, List.set_cons_succ, List.length_nil, List.length_cons, Nat.zero_add, List.append]; omega)) (by repeat (first | exact True.intro | refine And.intro rfl ?_))
    · have h0 : n = 0 := by omega
      subst h0
      rw [InM.off_zero]
      exact xw_joint _ hO' (by first | exact Go.Sl.Cov.refl _ | (intro p; simp only [List.flatten_cons, List.flatten_nil, List.flatten_append, List.append_nil, List.nil_append, Go.Sl.cnt_append, Go.Sl.cnt_cons, Go.Sl.cnt_nil, List.set_cons_zero, List.set_cons_succ, List.length_nil, List.length_cons, Nat.zero_add, List.append]; omega)) (by repeat (first | exact True.intro | refine And.intro rfl ?_))
  rintro c2 hO2
  have hO3 := hO2
  obtain ⟨bp2, bm2, cp2, cm2, rfl, hP2, hM2⟩ := hO2
  refine cw_flat (x12.2.2 :: [(b, .cells [.int .u64 (m.off n).read, .int .u64 (m.off n).high, .int .u64 (m.off n).final, .bool (m.off n).known, .pointer (some ⟨bp2, 0, none⟩), .map (some bm2)].toArray 137 (0, 0))] :: cp2 :: cm2 :: F) (.of_eq (by simp)) ?_
  have e1 : (m.off n).read = m.read + n := rfl
  have e2 : (m.off n).final = m.final := rfl
  have e3 : (m.off n).known = m.known := rfl
  refine Go.Sl.cw_seq ?_
  refine Go.Sl.cw_quiet Ty.mixed (by decide +kernel) ?_
  refine Go.Sl.kw_val rfl rfl (Go.Sl.v_move rfl) ?_
  refine Go.Sl.kw_val rfl rfl (Go.Sl.v_move rfl) ?_
  refine Go.Sl.kw_val rfl rfl (Go.Sl.v_nilCheck rfl) ?_
  refine Go.Sl.kw_val rfl rfl (Go.Sl.v_fieldAddr0 Ty.fd137_3 rfl) ?_
  refine Go.Sl.kw_val rfl rfl (Go.Sl.v_load rfl (Go.Sl.Var.at1 Ty.sc4 (.there .here) (Go.Sl.GetN.lit rfl))) ?_
  refine Go.Sl.kw_val rfl rfl (Go.Sl.v_move rfl) ?_
  refine Go.Sl.kw_bool 61 rfl (fun hc61 => ?_) (fun hc61 => ?_)
  refine Go.Sl.kw_val rfl rfl (Go.Sl.v_move rfl) ?_
  refine Go.Sl.kw_val rfl rfl (Go.Sl.v_nilCheck rfl) ?_
  refine Go.Sl.kw_val rfl rfl (Go.Sl.v_fieldAddr0 Ty.fd137_0 rfl) ?_
  refine Go.Sl.kw_val rfl rfl (Go.Sl.v_load rfl (Go.Sl.Var.at1 Ty.sc23 (.there .here) (Go.Sl.GetN.lit rfl))) ?_
  refine Go.Sl.kw_val rfl rfl (Go.Sl.v_move rfl) ?_
  refine Go.Sl.kw_val rfl rfl (Go.Sl.v_nilCheck rfl) ?_
  refine Go.Sl.kw_val rfl rfl (Go.Sl.v_fieldAddr0 Ty.fd137_2 rfl) ?_
  refine Go.Sl.kw_val rfl rfl (Go.Sl.v_load rfl (Go.Sl.Var.at1 Ty.sc23 (.there .here) (Go.Sl.GetN.lit rfl))) ?_
  refine Go.Sl.kw_val rfl rfl (Go.Sl.v_eql rfl rfl) ?_
  refine Go.Sl.kw_val rfl rfl (Go.Sl.v_pick_true rfl rfl) ?_
  refine Go.Sl.kw_val rfl rfl (Go.Sl.v_assign rfl) ?_
  refine Go.Sl.kw_val rfl rfl (Go.Sl.v_assign rfl) ?_
  refine Go.Sl.kw_nil ?_
  refine Go.Sl.xw_then ?_
  refine Go.Sl.cw_ret ?_
  refine Go.Sl.ret2 rfl (Go.Sl.res_tmp rfl) (Go.Sl.res_tmp rfl) ?_
  rotate_left
  refine Go.Sl.kw_skip rfl rfl ?_
  refine Go.Sl.kw_skip rfl rfl ?_
  refine Go.Sl.kw_skip rfl rfl ?_
  refine Go.Sl.kw_skip rfl rfl ?_
  refine Go.Sl.kw_skip rfl rfl ?_
  refine Go.Sl.kw_skip rfl rfl ?_
  refine Go.Sl.kw_skip rfl rfl ?_
  refine Go.Sl.kw_skip rfl rfl ?_
  refine Go.Sl.kw_skip rfl rfl ?_
  refine Go.Sl.kw_val rfl rfl (Go.Sl.v_pick_false rfl rfl) ?_
  refine Go.Sl.kw_val rfl rfl (Go.Sl.v_assign rfl) ?_
  refine Go.Sl.kw_val rfl rfl (Go.Sl.v_assign rfl) ?_
  refine Go.Sl.kw_nil ?_
  refine Go.Sl.xw_then ?_
  refine Go.Sl.cw_ret ?_
  refine Go.Sl.ret2 rfl (Go.Sl.res_tmp rfl) (Go.Sl.res_tmp rfl) ?_
  rotate_left
  · have h1 : m.known = true := hc61
    rw [h1]
    exact ⟨(x12.1, x12.2.1, x12.2.2, _), by rw [e1, e2]; rfl, ⟨hq12, hO3⟩, (by first | exact Go.Sl.Cov.refl _ | (intro p; simp only [List.flatten_cons, List.flatten_nil, List.flatten_append, List.append_nil, List.nil_append, Go.Sl.cnt_append, Go.Sl.cnt_cons, Go.Sl.cnt_nil, List.set_cons_zero, List.set_cons_succ, List.length_nil, List.length_cons, Nat.zero_add, List.append]; omega))⟩
  · have h1 : m.known = false := hc61
    rw [h1]
    exact ⟨(x12.1, x12.2.1, x12.2.2, _), rfl, ⟨hq12, hO3⟩, (by first | exact Go.Sl.Cov.refl _ | (intro p; simp only [List.flatten_cons, List.flatten_nil, List.flatten_append, List.append_nil, List.nil_append, Go.Sl.cnt_append, Go.Sl.cnt_cons, Go.Sl.cnt_nil, List.set_cons_zero, List.set_cons_succ, List.length_nil, List.length_cons, Nat.zero_add, List.append]; omega))⟩

/-! ### What the methods keep -/
theorem InM.off_wf {m : InM} {n : Nat} (hw : m.WF) (hn : (n : Int) ≤ m.ready) : (m.off n).WF := by
  have hrd := hw.rd
  obtain ⟨r1, r2, r3⟩ := InM.ready_spec hw
  have hmr : m.read + m.ready ≤ m.high := by
    rcases Int.lt_or_le 0 m.ready with h | h
    · have := hw.low _ (r2 (m.read + m.ready - 1) (by omega) (by omega)); omega
    · omega
  have hrg : RgIn ⟨m.read, m.read + n⟩ := ⟨by dsimp only; omega, by dsimp only; omega⟩
  have hcl := cut_low hw.gl hrg (fun x hx => (hw.low x.a ⟨x, hx, Int.le_refl _, (hw.gl.1 x hx).2.1⟩).1)
  obtain ⟨g1, g2, _⟩ := cutE_spec hw.gl hrg
  have hl := hw.len
  unfold InM.off
  refine ⟨g1, by dsimp only; omega, by dsimp only; omega, fun k => ?_, fun k hk => ?_, hw.fin⟩
  · rw [g2, hw.mem]
    dsimp only
    unfold gone
    by_cases h : m.read ≤ k ∧ k < m.read + n
    · rw [if_pos h]; simp [h]
    · rw [if_neg h]; simp [h]
  · obtain ⟨h1, h2⟩ := (g2 k).1 hk
    have := hw.low k h1
    dsimp only at h2 ⊢
    omega
theorem InM.rise_wf {m : InM} {stop : Int} (hw : m.WF) (h1 : stop ≤ 4611686018427387903) (h2 : m.known = true → stop ≤ m.final) : (m.rise stop).WF := by
  have hrd := hw.rd
  unfold InM.rise
  split
  · exact hw
  · rename_i h
    refine ⟨hw.gl, hw.len, by dsimp only; omega, hw.mem, fun k hk => ?_, fun hk => ?_⟩
    · have := hw.low k hk; dsimp only; omega
    · have := hw.fin hk; have := h2 hk; dsimp only; omega
theorem InM.stop_wf {m : InM} {fin : Int} (hw : m.WF) (h0 : 0 ≤ fin) : (m.stop fin).WF := by
  have hrd := hw.rd
  unfold InM.stop
  split
  · rename_i h
    unfold InM.stopE at h
    split at h
    · cases h
    · split at h
      · cases h
      · rename_i h1 h2
        have h3 : m.high ≤ fin := by
          rcases Int.lt_or_le fin m.high with h4 | h4
          · exact absurd (.inr h4) h2
          · exact h4
        exact InM.rise_wf ⟨hw.gl, hw.len, hw.rd, hw.mem, hw.low, fun _ => by dsimp only; omega⟩ (by omega) (fun _ => by dsimp only; omega)
  · exact hw
/-- what came by Add: all that is new, from the place on to which all was read -/
theorem InM.add_mem {m : InM} {a : Int} {d : List UInt8} {last : Bool} (ha : 0 ≤ a) (h0 : m.addE a d last = 0) (hb : ¬ m.addBad a d.length last) (hfl : ¬ m.read + 65536 < a + d.length) (k : Int) : (m.add a d last).f k = if max a m.read ≤ k ∧ k < a + d.length then d[(k - a).toNat]? else m.f k := by
  have h1 : (m.add a d last).f = (m.add1 a d).f := by
    rw [show m.add a d last = (m.add2 a d last).rise (a + d.length) from if_pos h0]
    unfold InM.rise InM.add2
    split <;> split <;> rfl
  rw [h1]
  unfold InM.add1
  unfold InM.addE at h0
  rw [if_neg hb, if_neg hfl] at h0
  by_cases h2 : max a m.read < a + d.length
  · rw [if_pos h2] at h0 ⊢
    have hl : (m.fresh a d).length = d.length - (max a m.read - a).toNat := List.length_drop ..
    rw [show m.store (max a m.read) (m.fresh a d) = { m with l := Go.Proofs.Ytbpnnkkbaakdjaa.addE m.l ⟨max a m.read, max a m.read + (m.fresh a d).length⟩, f := upd m.f (max a m.read) (m.fresh a d) } from if_pos h0]
    dsimp only
    unfold upd
    rw [hl]
    by_cases h3 : max a m.read ≤ k ∧ k < a + d.length
    · rw [if_pos (by omega), if_pos h3]
      unfold InM.fresh
      rw [List.getElem?_drop]
      congr 1
      omega
    · rw [if_neg (by omega), if_neg h3]
  · rw [if_neg h2, if_neg (by omega)]
theorem InM.add_same {m : InM} {a : Int} {d : List UInt8} {last : Bool} (h0 : m.addE a d last = 0) : (m.add a d last).read = m.read ∧ (m.add a d last).high = max m.high (a + d.length) ∧ (m.add a d last).known = (m.known || last) ∧ (m.add a d last).final = if last = true then a + d.length else m.final := by
  rw [show m.add a d last = (m.add2 a d last).rise (a + d.length) from if_pos h0]
  obtain ⟨e1, e2, e3, e4⟩ := InM.add1_same (m := m) (a := a) (d := d)
  cases last with
  | true =>
    rw [show m.add2 a d true = { m.add1 a d with final := a + d.length, known := true } from if_pos rfl]
    unfold InM.rise
    dsimp only
    split
    · exact ⟨e1, by rw [e2] at *; omega, by simp, rfl⟩
    · exact ⟨e1, by dsimp only; rw [e2] at *; omega, by simp, rfl⟩
  | false =>
    rw [show m.add2 a d false = m.add1 a d from if_neg (by decide)]
    unfold InM.rise
    split
    · exact ⟨e1, by rw [e2] at *; omega, by simp [e4], by simp [e3]⟩
    · exact ⟨e1, by dsimp only; rw [e2] at *; omega, by simp [e4], by simp [e3]⟩
theorem InM.add_wf {m : InM} {a : Int} {d : List UInt8} {last : Bool} (hw : m.WF) (ha : 0 ≤ a ∧ a + d.length ≤ 4611686018427387903) : (m.add a d last).WF := by
  have hrd := hw.rd
  by_cases h0 : m.addE a d last = 0
  · have h0' := h0
    unfold InM.addE at h0'
    split at h0'
    · cases h0'
    rename_i hb
    split at h0'
    · cases h0'
    rename_i hfl
    have hbk : m.known = true → a + d.length ≤ m.final ∧ (last = true → a + d.length = m.final) := fun hk => by
      refine ⟨?_, fun hl => ?_⟩
      · rcases Int.lt_or_le m.final (a + d.length) with h | h
        · exact absurd (.inl ⟨hk, .inl h⟩) hb
        · exact h
      · by_cases h : a + (d.length : Int) = m.final
        · exact h
        · exact absurd (.inl ⟨hk, .inr ⟨hl, h⟩⟩) hb
    have hbh : last = true → m.high ≤ a + d.length := fun hl => by
      rcases Int.lt_or_le (a + (d.length : Int)) m.high with h | h
      · exact absurd (.inr ⟨hl, h⟩) hb
      · exact h
    -- the store
    have h1 : Good (m.add1 a d).l ∧ (m.add1 a d).l.length ≤ 32 ∧ (∀ k, InR (m.add1 a d).l k ↔ ((m.add1 a d).f k).isSome = true) ∧ (∀ k, InR (m.add1 a d).l k → m.read ≤ k ∧ k < max m.high (a + d.length)) := by
      unfold InM.add1
      by_cases h2 : max a m.read < a + d.length
      · rw [if_pos h2] at h0' ⊢
        have hl : (m.fresh a d).length = d.length - (max a m.read - a).toNat := List.length_drop ..
        rw [show m.store (max a m.read) (m.fresh a d) = { m with l := Go.Proofs.Ytbpnnkkbaakdjaa.addE m.l ⟨max a m.read, max a m.read + (m.fresh a d).length⟩, f := upd m.f (max a m.read) (m.fresh a d) } from if_pos h0']
        have hrg : RgIn ⟨max a m.read, max a m.read + (m.fresh a d).length⟩ := ⟨by dsimp only; omega, by dsimp only; omega⟩
        obtain ⟨g1, g2, _⟩ := addE_spec hw.gl hrg
        refine ⟨g1, ?_, fun k => ?_, fun k hk => ?_⟩
        · unfold InM.storeE at h0'
          split at h0'
          · cases h0'
          · dsimp only; omega
        · rw [g2, hw.mem]
          dsimp only
          unfold upd
          by_cases h3 : max a m.read ≤ k ∧ k < max a m.read + (m.fresh a d).length
          · rw [if_pos h3, List.getElem?_eq_getElem (by omega)]
            simp [h3]
          · rw [if_neg h3]
            simp [h3]
        · rcases (g2 k).1 hk with h3 | h3
          · have := hw.low k h3; omega
          · dsimp only at h3; omega
      · rw [if_neg h2]
        exact ⟨hw.gl, hw.len, hw.mem, fun k hk => by have := hw.low k hk; omega⟩
    obtain ⟨e1, e2, e3, e4⟩ := InM.add_same h0
    have el : (m.add a d last).l = (m.add1 a d).l := by
      rw [show m.add a d last = (m.add2 a d last).rise (a + d.length) from if_pos h0]
      unfold InM.rise InM.add2
      split <;> split <;> rfl
    have ef : (m.add a d last).f = (m.add1 a d).f := by
      rw [show m.add a d last = (m.add2 a d last).rise (a + d.length) from if_pos h0]
      unfold InM.rise InM.add2
      split <;> split <;> rfl
    refine ⟨by rw [el]; exact h1.1, by rw [el]; exact h1.2.1, by rw [e1, e2]; omega, by rw [el, ef]; exact h1.2.2.1, by rw [el, e1, e2]; exact h1.2.2.2, fun hk => ?_⟩
    rw [e2, e4]
    rw [e3] at hk
    cases last with
    | true => have := hbh rfl; rw [if_pos rfl]; omega
    | false =>
      have hk2 : m.known = true := by simpa using hk
      have := hw.fin hk2
      have := hbk hk2
      rw [if_neg (by decide)]
      omega
  · rw [show m.add a d last = m from if_neg h0]
    exact hw
end Go.Proofs.Ytbpnnkkbaakdjaa
