/- What Came and Lost of outbuf.Buffer do, each as a contract. Conditions: numbers fit their types, no more bytes than a buffer holds. -/
import Derived.Test.YtbpnnkkbaakdjaaOutSent
namespace Go.Proofs.Ytbpnnkkbaakdjaa
open Go Go.Sl Go.Proofs
set_option maxRecDepth 20000
set_option linter.unusedVariables false
set_option linter.unusedSimpArgs false

/-- a part came -/
def BufM.take (m : BufM) (at_ size : Int) : BufM := if 0 < size then ({ m with pend := cutE m.pend ⟨at_, at_ + size⟩, came := addE m.came ⟨at_, at_ + size⟩ } : BufM).release else m
def BufM.gotIt (m : BufM) (at_ size : Int) (fin : Bool) : BufM :=
  if m.written at_ size = true then
    (if fin = true ∧ (m.take at_ size).fin = true ∧ at_ + size = (m.take at_ size).base + (m.take at_ size).data.length then { m.take at_ size with endCame := true, waits := false } else m.take at_ size)
  else m
/-- a part was lost -/
def BufM.lose (m : BufM) (at_ size : Int) : BufM := if 0 < size then { m with pend := m.came.foldl cutE (addE m.pend ⟨at_, at_ + size⟩) } else m
def BufM.lostIt (m : BufM) (at_ size : Int) (fin : Bool) : BufM :=
  if m.written at_ size = true then (if fin = true ∧ m.fin = true ∧ m.endCame = false then { m.lose at_ size with waits := true } else m.lose at_ size) else m

theorem BufM.release_stop {m : BufM} (h : (firstR m.came 0).1.b ≤ m.base + m.data.length) : m.release.base + m.release.data.length = m.base + m.data.length := by
  unfold BufM.release
  split
  · rfl
  · rename_i h2
    have h3 : m.base < (firstR m.came 0).1.b := by
      rcases Int.lt_or_le m.base (firstR m.came 0).1.b with h4 | h4
      · exact h4
      · exact absurd (.inr (.inr h4)) h2
    dsimp only
    rw [List.length_drop]
    omega
theorem firstR_top {l : List Rg} {v : Int} (hg : Good l) (hv : 0 ≤ v) (hi : ∀ n, InR l n → 0 ≤ n ∧ n < v) : (firstR l 0).1.b ≤ v := by
  rcases first_low (n := 0) hg with ⟨h3, _⟩ | ⟨_, h3, h4, h5, _, _⟩
  · have : (firstR l 0).1.b = 0 := by
      unfold firstR at h3 ⊢
      split at h3
      · cases h3
      · rename_i h; rw [dif_neg h]
    omega
  · have h6 := hi _ (h5 ((firstR l 0).1.b - 1) (by omega) (by omega))
    omega
theorem BufM.written_iff {m : BufM} {at_ size : Int} : m.written at_ size = true ↔ 0 ≤ size ∧ at_ ≤ m.base + m.data.length ∧ at_ + size ≤ m.base + m.data.length := by
  unfold BufM.written
  simp
  omega

/-- what came is behind nothing that is missing -/
theorem BufM.release_wf {m : BufM} (low : 0 ≤ m.base) (top : m.base + m.data.length ≤ 65536) (gp : Good m.pend) (gc : Good m.came) (ip : ∀ n, InR m.pend n → 0 ≤ n ∧ n < m.base + m.data.length) (ic : ∀ n, InR m.came n → 0 ≤ n ∧ n < m.base + m.data.length) (dis : ∀ n, InR m.pend n → ¬ InR m.came n) (gone : ∀ n, 0 ≤ n → n < m.base → InR m.came n) : m.release.WF := by
  have htop := firstR_top gc (by omega) ic
  have hst := BufM.release_stop htop
  unfold BufM.release at hst ⊢
  split
  · rename_i h
    refine ⟨low, top, gp, gc, ip, ic, dis, gone, fun hb => ?_⟩
    rcases first_low (n := 0) gc with ⟨h3, h4⟩ | ⟨h3, h4, h5, h6, h7, h8⟩
    · have := h4 _ hb; omega
    · rcases h with h | h | h
      · rw [h] at h3; cases h3
      · have h9 := h7 _ hb low
        have h10 := gone 0 (Int.le_refl _) (by omega)
        have := h7 _ h10 (Int.le_refl _)
        omega
      · rcases Int.lt_or_le (firstR m.came 0).1.b m.base with h9 | h9
        · exact h8 (gone _ (by omega) h9)
        · have : (firstR m.came 0).1.b = m.base := by omega
          exact h8 (this ▸ hb)
  · rename_i h
    rw [if_neg h] at hst
    dsimp only at hst ⊢
    rcases first_low (n := 0) gc with ⟨h3, h4⟩ | ⟨h3, h4, h5, h6, h7, h8⟩
    · exact absurd (.inl h3) h
    · have ha : (firstR m.came 0).1.a = 0 := by
        rcases Int.lt_or_le 0 (firstR m.came 0).1.a with h9 | h9
        · exact absurd (.inr (.inl h9)) h
        · omega
      refine ⟨by dsimp only; omega, by dsimp only; omega, gp, gc, fun n hn => by have := ip n hn; dsimp only; omega, fun n hn => by have := ic n hn; dsimp only; omega, dis, fun n h9 h10 => h6 n (by omega) h10, h8⟩
theorem BufM.take_wf {m : BufM} {at_ size : Int} (hw : m.WF) (ha : 0 ≤ at_) (hz : 0 ≤ size) (ht : at_ + size ≤ m.base + m.data.length) : (m.take at_ size).WF := by
  have h1 := hw.top
  have h2 := hw.low
  have hrg : RgIn ⟨at_, at_ + size⟩ := ⟨by dsimp only; omega, by dsimp only; omega⟩
  obtain ⟨g1, g2, g3⟩ := cutE_spec hw.gp hrg
  obtain ⟨k1, k2, k3⟩ := addE_spec hw.gc hrg
  unfold BufM.take
  split
  · refine BufM.release_wf hw.low hw.top g1 k1 (fun n hn => hw.ip n ((g2 n).1 hn).1) (fun n hn => ?_) (fun n hn h => ?_) (fun n h3 h4 => (k2 n).2 (.inl (hw.gone n h3 h4)))
    · rcases (k2 n).1 hn with h | h
      · exact hw.ic n h
      · dsimp only at h ⊢; omega
    · rcases (k2 n).1 h with h | h
      · exact hw.dis n ((g2 n).1 hn).1 h
      · exact ((g2 n).1 hn).2 h
  · exact hw
theorem BufM.take_stop {m : BufM} {at_ size : Int} (hw : m.WF) (ha : 0 ≤ at_) (hz : 0 ≤ size) (ht : at_ + size ≤ m.base + m.data.length) : (m.take at_ size).base + (m.take at_ size).data.length = m.base + m.data.length := by
  have h1 := hw.top
  have h2 := hw.low
  have hrg : RgIn ⟨at_, at_ + size⟩ := ⟨by dsimp only; omega, by dsimp only; omega⟩
  obtain ⟨k1, k2, k3⟩ := addE_spec hw.gc hrg
  unfold BufM.take
  split
  · refine BufM.release_stop (m := { m with pend := cutE m.pend ⟨at_, at_ + size⟩, came := addE m.came ⟨at_, at_ + size⟩ }) (firstR_top k1 (by dsimp only; omega) fun n hn => ?_)
    rcases (k2 n).1 hn with h | h
    · exact hw.ic n h
    · dsimp only at h ⊢; omega
  · rfl
theorem BufM.release_fin {m : BufM} : m.release.fin = m.fin ∧ m.release.waits = m.waits ∧ m.release.endCame = m.endCame ∧ m.release.pend = m.pend ∧ m.release.came = m.came := by
  unfold BufM.release
  split <;> exact ⟨rfl, rfl, rfl, rfl, rfl⟩
theorem BufM.take_fin {m : BufM} {at_ size : Int} : (m.take at_ size).fin = m.fin ∧ (m.take at_ size).waits = m.waits ∧ (m.take at_ size).endCame = m.endCame := by
  unfold BufM.take
  split
  · exact ⟨BufM.release_fin.1, BufM.release_fin.2.1, BufM.release_fin.2.2.1⟩
  · exact ⟨rfl, rfl, rfl⟩

theorem ow_join4 {P : Program} {ops : Array Oper} {Q : Exit → Act → World → Prop} {B : Nat} {w0 : World} {N : Nat} {E : Env} {rest : List Oper} {a b d e : Hp} {F : List Hp} (h : OW P ops Q B w0 N ((a ++ (b ++ (d ++ e))) :: F) E rest) : OW P ops Q B w0 N (a :: b :: d :: e :: F) E rest := ow_flat ((a ++ (b ++ (d ++ e))) :: F) (.of_eq (by simp)) h

theorem outCame_c {B : Nat} {w0 : World} {G : List Hp} {R : Hp → List Hp} {m : BufM} {b : Nat} {c : Hp} {at_ size : Int} {fin : Bool} (hsel : Sel G c R) (hO : OutAt m b c) (hw : m.WF) (ha : 0 ≤ at_ ∧ at_ ≤ 18446744073709551615) (hz : -9223372036854775808 ≤ size ∧ size ≤ 9223372036854775807) :
    Go.Sl.Fn Try.prog 62 #[.pointer (some ⟨b, 0, none⟩), .int .u64 at_, .int .i64 size, .bool fin] B w0 G fun u G' => ∃ c' : Hp, u = .tuple #[] ∧ OutAt (m.gotIt at_ size fin) b c' ∧ G' = R c' := by
  refine Fn.sel0 hsel fun F hR hF => ?_
  have hO' := hO
  obtain ⟨ao, cap, bp, bc, cd, cp, cc, rfl, hL, hP, hC⟩ := hO
  have h1 := hw.low
  have h2 := hw.top
  refine fn_enter Try.func62 rfl (by kernel_rfl) Try.ntmps62 (by simp) ?_
  refine cw_split4 ?_
  refine Go.Sl.cw_seq ?_
  refine Go.Sl.cw_seq ?_
  refine Go.Sl.cw_region ?_
  refine Go.Sl.ow_val rfl rfl (Go.Sl.v_move rfl) ?_
  refine Go.Sl.ow_val rfl rfl (Go.Sl.v_eql_nil_some Try.underlying58 rfl) ?_
  refine Go.Sl.ow_val rfl rfl (Go.Sl.v_move rfl) ?_
  refine Go.Sl.ow_val rfl rfl (Go.Sl.v_move rfl) ?_
  refine Go.Sl.ow_val rfl rfl (Go.Sl.v_move rfl) ?_
  refine Go.Sl.ow_val rfl rfl (Go.Sl.v_move rfl) ?_
  refine Go.Sl.ow_val rfl rfl (Go.Sl.v_call rfl rfl (outWritten_c hO' (Sub.app (by repeat (first | exact Go.Sl.Sub.here | assumption | refine Go.Sl.Sub.there ?_)) (Sub.app (by repeat (first | exact Go.Sl.Sub.here | assumption | refine Go.Sl.Sub.there ?_)) (Sub.app (by repeat (first | exact Go.Sl.Sub.here | assumption | refine Go.Sl.Sub.there ?_)) (by repeat (first | exact Go.Sl.Sub.here | assumption | refine Go.Sl.Sub.there ?_))))) hw ha hz)) ?_
  refine Go.Sl.ow_val rfl rfl (Go.Sl.v_not_bool rfl) ?_
  refine Go.Sl.ow_val rfl rfl (Go.Sl.v_pick_false rfl rfl) ?_
  refine Go.Sl.ow_nil ?_
  refine Go.Sl.xw_then ?_
  refine Go.Sl.cw_bool rfl (fun hc17 => ?_) (fun hc17 => ?_)
  refine Go.Sl.cw_ret ?_
  refine Go.Sl.xw_then_ret ?_
  refine Go.Sl.ret0 rfl ?_
  rotate_left
  refine Go.Sl.cw_skip ?_
  refine Go.Sl.xw_then ?_
  rotate_left
  · rw [show m.gotIt at_ size fin = m from if_neg (by simpa using hc17)]
    exact ⟨_, rfl, ⟨ao, cap, bp, bc, cd, cp, cc, rfl, hL, hP, hC⟩, (by first | exact Go.Sl.Cov.refl _ | (intro p; simp only [List.flatten_cons, List.flatten_nil, List.flatten_append, List.append_nil, List.nil_append, Go.Sl.cnt_append, Go.Sl.cnt_cons, Go.Sl.cnt_nil, List.set_cons_zero, List.set_cons_succ, List.length_nil, List.length_cons, Nat.zero_add, List.append]; omega))⟩
  obtain ⟨h3, h4, h5⟩ := BufM.written_iff.1 (by simpa using hc17)
  have hrg : RgIn ⟨at_, at_ + size⟩ := ⟨ha, by dsimp only; omega⟩
  obtain ⟨g1, g2, g3⟩ := cut_fits (v := 65536) hw.gp hrg (by omega) (fun n hn => by have := hw.ip n hn; omega)
  obtain ⟨k1, k2, k3⟩ := add_fits (v := 65536) hw.gc hrg (by omega) (fun n hn => by have := hw.ic n hn; omega) (by dsimp only; omega)
  have hic : ∀ n, InR (addE m.came ⟨at_, at_ + size⟩) n → 0 ≤ n ∧ n < m.base + m.data.length := fun n hn => by
    rcases (k2 n).1 hn with h | h
    · exact hw.ic n h
    · dsimp only at h; omega
  have htk := BufM.take_wf hw ha.1 h3 h5
  have htf := BufM.take_fin (m := m) (at_ := at_) (size := size)
  refine Go.Sl.cw_seq ?_
  refine Go.Sl.cw_region ?_
  refine Go.Sl.ow_val rfl rfl (Go.Sl.v_move rfl) ?_
  refine Go.Sl.ow_val rfl rfl (Go.Sl.v_move rfl) ?_
  refine Go.Sl.ow_val rfl rfl (Go.Sl.v_convert Try.underlying3 Try.underlying23 rfl (Go.Sl.nw_u64 (by omega) (by omega))) ?_
  refine Go.Sl.ow_val rfl rfl (Go.Sl.v_add rfl rfl (Go.Sl.nw_u64 (by omega) (by omega))) ?_
  refine Go.Sl.ow_val rfl rfl (Go.Sl.v_assign rfl) ?_
  refine Go.Sl.ow_nil ?_
  refine Go.Sl.xw_then ?_
  refine Go.Sl.cw_cut2 (ι := (Hp)) [(0, _), (1, _), (3, _), (8, _)] ⟨rfl, rfl, rfl, rfl, trivial⟩ ((fun _ => [])) ((fun x => OutAt (m.take at_ size) b x)) ((fun x => x :: F)) ?_ ?_
  · refine Go.Sl.cw_seq ?_
    refine Go.Sl.cw_region ?_
    refine Go.Sl.ow_val rfl rfl (Go.Sl.v_move rfl) ?_
    refine Go.Sl.ow_val rfl rfl (Go.Sl.v_gtr rfl rfl) ?_
    refine Go.Sl.ow_nil ?_
    refine Go.Sl.xw_then ?_
    refine Go.Sl.cw_dec rfl (fun hc23 => ?_) (fun hc23 => ?_)
    refine Go.Sl.cw_seq ?_
    refine Go.Sl.cw_region ?_
    refine Go.Sl.ow_val rfl rfl (Go.Sl.v_move rfl) ?_
    refine Go.Sl.ow_val rfl rfl (Go.Sl.v_nilCheck rfl) ?_
    refine Go.Sl.ow_val rfl rfl (Go.Sl.v_fieldAddr0 Ty.fd133_2 rfl) ?_
    refine Go.Sl.ow_val rfl rfl (Go.Sl.v_load rfl (Go.Sl.Var.at1 Ty.sc25 .here (Go.Sl.GetN.lit rfl))) ?_
    refine Go.Sl.ow_val rfl rfl (Go.Sl.v_move rfl) ?_
    refine Go.Sl.ow_val rfl rfl (Go.Sl.v_move rfl) ?_
    refine Go.Sl.ow_val rfl rfl (Go.Sl.v_build rfl (b_rng)) ?_
    (refine Go.Sl.ow_call rfl rfl rfl rfl (setCutOk_l (r := ⟨at_, at_ + size⟩) (by repeat (first | exact Go.Sl.Sel.here | apply Go.Sl.Sel.there)) hP hw.sp hrg (by omega)) ?_; rintro _ _ ⟨x31, rfl, hq31, rfl⟩)
    refine Go.Sl.ow_nil ?_
    refine Go.Sl.xw_then ?_
    refine Go.Sl.cw_seq ?_
    refine Go.Sl.cw_region ?_
    refine Go.Sl.ow_val rfl rfl (Go.Sl.v_move rfl) ?_
    refine Go.Sl.ow_val rfl rfl (Go.Sl.v_nilCheck rfl) ?_
    refine Go.Sl.ow_val rfl rfl (Go.Sl.v_fieldAddr0 Ty.fd133_3 rfl) ?_
    refine Go.Sl.ow_val rfl rfl (Go.Sl.v_load rfl (Go.Sl.Var.at1 Ty.sc25 .here (Go.Sl.GetN.lit rfl))) ?_
    refine Go.Sl.ow_val rfl rfl (Go.Sl.v_move rfl) ?_
    refine Go.Sl.ow_val rfl rfl (Go.Sl.v_move rfl) ?_
    refine Go.Sl.ow_val rfl rfl (Go.Sl.v_build rfl (b_rng)) ?_
    (refine Go.Sl.ow_call rfl rfl rfl rfl (setAddOk_l (r := ⟨at_, at_ + size⟩) (by repeat (first | exact Go.Sl.Sel.here | apply Go.Sl.Sel.there)) hC hw.sc hrg (by omega)) ?_; rintro _ _ ⟨x39, rfl, hq39, rfl⟩)
    refine Go.Sl.ow_nil ?_
    refine Go.Sl.xw_then ?_
    refine Go.Sl.cw_region ?_
    refine Go.Sl.ow_val rfl rfl (Go.Sl.v_move rfl) ?_
    rotate_left
    refine Go.Sl.cw_skip ?_
    rotate_left
    · refine ow_join4 ?_
      (refine Go.Sl.ow_call rfl rfl rfl rfl (outRelease_c (m := { m with pend := cutE m.pend ⟨at_, at_ + size⟩, came := addE m.came ⟨at_, at_ + size⟩ }) (by repeat (first | exact Go.Sl.Sel.here | apply Go.Sl.Sel.there)) (OutAt.of hL (by assumption) (by assumption) rfl) h1 h2 k1 hic) ?_; rintro _ _ ⟨x41, rfl, hq41, rfl⟩)
      refine Go.Sl.ow_nil ?_
      rw [show m.take at_ size = _ from if_pos hc23]
      exact xw_joint x41 hq41 (by first | exact Go.Sl.Cov.refl _ | (intro p; simp only [List.flatten_cons, List.flatten_nil, List.flatten_append, List.append_nil, List.nil_append, Go.Sl.cnt_append, Go.Sl.cnt_cons, Go.Sl.cnt_nil, List.set_cons_zero, List.set_cons_succ, List.length_nil, List.length_cons, Nat.zero_add, List.append]; omega)) (by repeat (first | exact True.intro | refine And.intro rfl ?_))
    · rw [show m.take at_ size = m from if_neg hc23]
      exact xw_joint _ hO' (by first | exact Go.Sl.Cov.refl _ | (intro p; simp only [List.flatten_cons, List.flatten_nil, List.flatten_append, List.append_nil, List.nil_append, Go.Sl.cnt_append, Go.Sl.cnt_cons, Go.Sl.cnt_nil, List.set_cons_zero, List.set_cons_succ, List.length_nil, List.length_cons, Nat.zero_add, List.append]; omega)) (by repeat (first | exact True.intro | refine And.intro rfl ?_))
  · rintro c2 hO2
    have hO3 := hO2
    obtain ⟨ao2, cap2, bp2, bc2, cd2, cp2, cc2, rfl, hL2, hP2, hC2⟩ := hO2
    refine cw_split4 ?_
    refine Go.Sl.cw_seq ?_
    refine Go.Sl.cw_region ?_
    refine Go.Sl.ow_val rfl rfl (Go.Sl.v_move rfl) ?_
    refine Go.Sl.ow_val rfl rfl (Go.Sl.v_move rfl) ?_
    refine Go.Sl.ow_bool 43 rfl (fun hc43 => ?_) (fun hc43 => ?_)
    refine Go.Sl.ow_val rfl rfl (Go.Sl.v_move rfl) ?_
    refine Go.Sl.ow_val rfl rfl (Go.Sl.v_nilCheck rfl) ?_
    refine Go.Sl.ow_val rfl rfl (Go.Sl.v_fieldAddr0 Ty.fd133_4 rfl) ?_
    refine Go.Sl.ow_val rfl rfl (Go.Sl.v_load rfl (Go.Sl.Var.at1 Ty.sc4 .here (Go.Sl.GetN.lit rfl))) ?_
    refine Go.Sl.ow_val rfl rfl (Go.Sl.v_pick_true rfl rfl) ?_
    refine Go.Sl.ow_val rfl rfl (Go.Sl.v_move rfl) ?_
    refine Go.Sl.ow_bool 49 rfl (fun hc49 => ?_) (fun hc49 => ?_)
    refine Go.Sl.ow_val rfl rfl (Go.Sl.v_move rfl) ?_
    refine Go.Sl.ow_val rfl rfl (Go.Sl.v_move rfl) ?_
    refine Go.Sl.ow_val rfl rfl (Go.Sl.v_call rfl rfl (outStop_c hO3 (Sub.app (by repeat (first | exact Go.Sl.Sub.here | assumption | refine Go.Sl.Sub.there ?_)) (Sub.app (by repeat (first | exact Go.Sl.Sub.here | assumption | refine Go.Sl.Sub.there ?_)) (Sub.app (by repeat (first | exact Go.Sl.Sub.here | assumption | refine Go.Sl.Sub.there ?_)) (by repeat (first | exact Go.Sl.Sub.here | assumption | refine Go.Sl.Sub.there ?_))))) htk)) ?_
    refine Go.Sl.ow_val rfl rfl (Go.Sl.v_eql rfl rfl) ?_
    refine Go.Sl.ow_val rfl rfl (Go.Sl.v_pick_true rfl rfl) ?_
    refine Go.Sl.ow_nil ?_
    refine Go.Sl.xw_then ?_
    refine Go.Sl.cw_dec rfl (fun hc54 => ?_) (fun hc54 => ?_)
    refine Go.Sl.cw_region ?_
    refine Go.Sl.ow_val rfl rfl (Go.Sl.v_move rfl) ?_
    refine Go.Sl.ow_val rfl rfl (Go.Sl.v_move rfl) ?_
    refine Go.Sl.ow_val rfl rfl (Go.Sl.v_nilCheck rfl) ?_
    refine Go.Sl.ow_val rfl rfl (Go.Sl.v_fieldAddr0 Ty.fd133_6 rfl) ?_
    refine Go.Sl.ow_store1 rfl rfl rfl rfl Ty.sc4 .here (Go.Sl.SetN.one (by first | decide | exact Nat.le_of_ble_eq_true rfl)) ?_
    refine Go.Sl.ow_val rfl rfl (Go.Sl.v_nilCheck rfl) ?_
    refine Go.Sl.ow_val rfl rfl (Go.Sl.v_fieldAddr0 Ty.fd133_5 rfl) ?_
    refine Go.Sl.ow_store1 rfl rfl rfl rfl Ty.sc4 .here (Go.Sl.SetN.one (by first | decide | exact Nat.le_of_ble_eq_true rfl)) ?_
    refine Go.Sl.ow_nil ?_
    refine Go.Sl.ret0n rfl ?_
    rotate_left
    refine Go.Sl.cw_skip ?_
    refine Go.Sl.ret0n rfl ?_
    rotate_left
    refine Go.Sl.ow_skip rfl rfl ?_
    refine Go.Sl.ow_skip rfl rfl ?_
    refine Go.Sl.ow_skip rfl rfl ?_
    refine Go.Sl.ow_skip rfl rfl ?_
    refine Go.Sl.ow_val rfl rfl (Go.Sl.v_pick_false rfl rfl) ?_
    refine Go.Sl.ow_nil ?_
    refine Go.Sl.xw_then ?_
    refine Go.Sl.cw_false rfl ?_
    refine Go.Sl.cw_skip ?_
    refine Go.Sl.ret0n rfl ?_
    rotate_left
    refine Go.Sl.ow_skip rfl rfl ?_
    refine Go.Sl.ow_skip rfl rfl ?_
    refine Go.Sl.ow_skip rfl rfl ?_
    refine Go.Sl.ow_skip rfl rfl ?_
    refine Go.Sl.ow_val rfl rfl (Go.Sl.v_pick_false rfl rfl) ?_
    refine Go.Sl.ow_val rfl rfl (Go.Sl.v_move rfl) ?_
    refine Go.Sl.ow_skip rfl rfl ?_
    refine Go.Sl.ow_skip rfl rfl ?_
    refine Go.Sl.ow_skip rfl rfl ?_
    refine Go.Sl.ow_skip rfl rfl ?_
    refine Go.Sl.ow_val rfl rfl (Go.Sl.v_pick_false rfl rfl) ?_
    refine Go.Sl.ow_nil ?_
    refine Go.Sl.xw_then ?_
    refine Go.Sl.cw_false rfl ?_
    refine Go.Sl.cw_skip ?_
    refine Go.Sl.ret0n rfl ?_
    rotate_left
    have hwt : m.written at_ size = true := by simpa using hc17
    · rw [show m.gotIt at_ size fin = _ from (if_pos hwt).trans (if_pos ⟨hc43, hc49, hc54⟩)]
      exact ⟨_, rfl, OutAt.of hL2 hP2 hC2 rfl, (by first | exact Go.Sl.Cov.refl _ | (intro p; simp only [List.flatten_cons, List.flatten_nil, List.flatten_append, List.append_nil, List.nil_append, Go.Sl.cnt_append, Go.Sl.cnt_cons, Go.Sl.cnt_nil, List.set_cons_zero, List.set_cons_succ, List.length_nil, List.length_cons, Nat.zero_add, List.append]; omega))⟩
    · rw [show m.gotIt at_ size fin = m.take at_ size from (if_pos (by simpa using hc17)).trans (if_neg fun h => hc54 h.2.2)]
      exact ⟨_, rfl, hO3, (by first | exact Go.Sl.Cov.refl _ | (intro p; simp only [List.flatten_cons, List.flatten_nil, List.flatten_append, List.append_nil, List.nil_append, Go.Sl.cnt_append, Go.Sl.cnt_cons, Go.Sl.cnt_nil, List.set_cons_zero, List.set_cons_succ, List.length_nil, List.length_cons, Nat.zero_add, List.append]; omega))⟩
    · rw [show m.gotIt at_ size fin = m.take at_ size from (if_pos (by simpa using hc17)).trans (if_neg fun h => by rw [hc49] at h; exact absurd h.2.1 (by decide))]
      exact ⟨_, rfl, hO3, (by first | exact Go.Sl.Cov.refl _ | (intro p; simp only [List.flatten_cons, List.flatten_nil, List.flatten_append, List.append_nil, List.nil_append, Go.Sl.cnt_append, Go.Sl.cnt_cons, Go.Sl.cnt_nil, List.set_cons_zero, List.set_cons_succ, List.length_nil, List.length_cons, Nat.zero_add, List.append]; omega))⟩
    · rw [show m.gotIt at_ size fin = m.take at_ size from (if_pos (by simpa using hc17)).trans (if_neg fun h => by rw [hc43] at h; exact absurd h.1 (by decide))]
      exact ⟨_, rfl, hO3, (by first | exact Go.Sl.Cov.refl _ | (intro p; simp only [List.flatten_cons, List.flatten_nil, List.flatten_append, List.append_nil, List.nil_append, Go.Sl.cnt_append, Go.Sl.cnt_cons, Go.Sl.cnt_nil, List.set_cons_zero, List.set_cons_succ, List.length_nil, List.length_cons, Nat.zero_add, List.append]; omega))⟩

/-! ### Lost -/
/-- cutting a list of ranges -/
theorem cuts_fits {v : Int} (hv : 0 ≤ v) : ∀ {k l : List Rg}, Good l → (∀ r ∈ k, RgIn r) → (∀ n, InR l n → 0 ≤ n ∧ n < v) → Good (k.foldl cutE l) ∧ (∀ n, InR (k.foldl cutE l) n ↔ InR l n ∧ ¬ InR k n) ∧ ((k.foldl cutE l).length : Int) ≤ v := by
  intro k
  induction k with
  | nil =>
    intro l hg _ hi
    refine ⟨hg, fun n => ⟨fun h => ⟨h, InR.nil⟩, fun h => h.1⟩, ?_⟩
    have := good_len' (u := 0) hg hv hi
    simpa using this
  | cons r k ih =>
    intro l hg hr hi
    obtain ⟨g1, g2, _⟩ := cut_fits (v := v) hg (hr r (List.mem_cons_self)) hv hi
    obtain ⟨h1, h2, h3⟩ := ih g1 (fun x hx => hr x (List.mem_cons_of_mem _ hx)) (fun n hn => hi n ((g2 n).1 hn).1)
    refine ⟨h1, fun n => ?_, h3⟩
    rw [List.foldl_cons, h2, g2, InR.cons]
    constructor
    · rintro ⟨⟨h4, h5⟩, h6⟩
      exact ⟨h4, fun h => h.elim h5 h6⟩
    · rintro ⟨h4, h5⟩
      exact ⟨⟨h4, fun h => h5 (.inl h)⟩, fun h => h5 (.inr h)⟩
theorem Good.inn {l : List Rg} (h : Good l) : ∀ r ∈ l, RgIn r := fun r hr => (h.1 r hr).inn
theorem outLost_c {B : Nat} {w0 : World} {G : List Hp} {R : Hp → List Hp} {m : BufM} {b : Nat} {c : Hp} {at_ size : Int} {fin : Bool} (hsel : Sel G c R) (hO : OutAt m b c) (hw : m.WF) (ha : 0 ≤ at_ ∧ at_ ≤ 18446744073709551615) (hz : -9223372036854775808 ≤ size ∧ size ≤ 9223372036854775807) :
    Go.Sl.Fn Try.prog 61 #[.pointer (some ⟨b, 0, none⟩), .int .u64 at_, .int .i64 size, .bool fin] B w0 G fun u G' => ∃ c' : Hp, u = .tuple #[] ∧ OutAt (m.lostIt at_ size fin) b c' ∧ G' = R c' := by
  refine Fn.sel0 hsel fun F hR hF => ?_
  have hO' := hO
  obtain ⟨ao, cap, bp, bc, cd, cp, cc, rfl, hL, hP, hC⟩ := hO
  have h1 := hw.low
  have h2 := hw.top
  refine fn_enter Try.func61 rfl (by kernel_rfl) Try.ntmps61 (by simp) ?_
  refine cw_split4 ?_
  refine Go.Sl.cw_seq ?_
  refine Go.Sl.cw_seq ?_
  refine Go.Sl.cw_region ?_
  refine Go.Sl.ow_val rfl rfl (Go.Sl.v_move rfl) ?_
  refine Go.Sl.ow_val rfl rfl (Go.Sl.v_eql_nil_some Try.underlying58 rfl) ?_
  refine Go.Sl.ow_val rfl rfl (Go.Sl.v_move rfl) ?_
  refine Go.Sl.ow_val rfl rfl (Go.Sl.v_move rfl) ?_
  refine Go.Sl.ow_val rfl rfl (Go.Sl.v_move rfl) ?_
  refine Go.Sl.ow_val rfl rfl (Go.Sl.v_move rfl) ?_
  refine Go.Sl.ow_val rfl rfl (Go.Sl.v_call rfl rfl (outWritten_c hO' (Sub.app (by repeat (first | exact Go.Sl.Sub.here | assumption | refine Go.Sl.Sub.there ?_)) (Sub.app (by repeat (first | exact Go.Sl.Sub.here | assumption | refine Go.Sl.Sub.there ?_)) (Sub.app (by repeat (first | exact Go.Sl.Sub.here | assumption | refine Go.Sl.Sub.there ?_)) (by repeat (first | exact Go.Sl.Sub.here | assumption | refine Go.Sl.Sub.there ?_))))) hw ha hz)) ?_
  refine Go.Sl.ow_val rfl rfl (Go.Sl.v_not_bool rfl) ?_
  refine Go.Sl.ow_val rfl rfl (Go.Sl.v_pick_false rfl rfl) ?_
  refine Go.Sl.ow_nil ?_
  refine Go.Sl.xw_then ?_
  refine Go.Sl.cw_bool rfl (fun hc18 => ?_) (fun hc18 => ?_)
  refine Go.Sl.cw_ret ?_
  refine Go.Sl.xw_then_ret ?_
  refine Go.Sl.ret0 rfl ?_
  rotate_left
  refine Go.Sl.cw_skip ?_
  refine Go.Sl.xw_then ?_
  rotate_left
  · rw [show m.lostIt at_ size fin = m from if_neg (by simpa using hc18)]
    exact ⟨_, rfl, ⟨ao, cap, bp, bc, cd, cp, cc, rfl, hL, hP, hC⟩, (by first | exact Go.Sl.Cov.refl _ | (intro p; simp only [List.flatten_cons, List.flatten_nil, List.flatten_append, List.append_nil, List.nil_append, Go.Sl.cnt_append, Go.Sl.cnt_cons, Go.Sl.cnt_nil, List.set_cons_zero, List.set_cons_succ, List.length_nil, List.length_cons, Nat.zero_add, List.append]; omega))⟩
  have hwt : m.written at_ size = true := by simpa using hc18
  obtain ⟨h3, h4, h5⟩ := BufM.written_iff.1 hwt
  have hrg : RgIn ⟨at_, at_ + size⟩ := ⟨ha, by dsimp only; omega⟩
  obtain ⟨k1, k2, k3⟩ := add_fits (v := 65536) hw.gp hrg (by omega) (fun n hn => by have := hw.ip n hn; omega) (by dsimp only; omega)
  have hip : ∀ n, InR (addE m.pend ⟨at_, at_ + size⟩) n → 0 ≤ n ∧ n < 65536 := fun n hn => by
    rcases (k2 n).1 hn with h | h
    · have := hw.ip n h; omega
    · dsimp only at h; omega
  refine Go.Sl.cw_cut2 (ι := (Hp)) [(0, _), (1, _), (3, _)] ⟨rfl, rfl, rfl, trivial⟩ ((fun _ => [])) ((fun x => SetAt ⟨65536, (m.lose at_ size).pend⟩ bp x)) ((fun x => [(b, .cells [.slice ao m.data.length cap, .int .u64 m.base, .pointer (some ⟨bp, 0, none⟩), .pointer (some ⟨bc, 0, none⟩), .bool m.fin, .bool m.waits, .bool m.endCame].toArray 133 (0, 0))] :: cd :: x :: cc :: F)) ?_ ?_
  · refine Go.Sl.cw_seq ?_
    refine Go.Sl.cw_region ?_
    refine Go.Sl.ow_val rfl rfl (Go.Sl.v_move rfl) ?_
    refine Go.Sl.ow_val rfl rfl (Go.Sl.v_gtr rfl rfl) ?_
    refine Go.Sl.ow_nil ?_
    refine Go.Sl.xw_then ?_
    refine Go.Sl.cw_dec rfl (fun hc20 => ?_) (fun hc20 => ?_)
    refine Go.Sl.cw_seq ?_
    refine Go.Sl.cw_region ?_
    refine Go.Sl.ow_val rfl rfl (Go.Sl.v_move rfl) ?_
    refine Go.Sl.ow_val rfl rfl (Go.Sl.v_nilCheck rfl) ?_
    refine Go.Sl.ow_val rfl rfl (Go.Sl.v_fieldAddr0 Ty.fd133_2 rfl) ?_
    refine Go.Sl.ow_val rfl rfl (Go.Sl.v_load rfl (Go.Sl.Var.at1 Ty.sc25 .here (Go.Sl.GetN.lit rfl))) ?_
    refine Go.Sl.ow_val rfl rfl (Go.Sl.v_move rfl) ?_
    refine Go.Sl.ow_val rfl rfl (Go.Sl.v_move rfl) ?_
    refine Go.Sl.ow_val rfl rfl (Go.Sl.v_move rfl) ?_
    refine Go.Sl.ow_val rfl rfl (Go.Sl.v_convert Try.underlying3 Try.underlying23 rfl (Go.Sl.nw_u64 (by omega) (by omega))) ?_
    refine Go.Sl.ow_val rfl rfl (Go.Sl.v_add rfl rfl (Go.Sl.nw_u64 (by omega) (by omega))) ?_
    refine Go.Sl.ow_val rfl rfl (Go.Sl.v_build rfl (b_rng)) ?_
    (refine Go.Sl.ow_call rfl rfl rfl rfl (setAddOk_l (r := ⟨at_, at_ + size⟩) (by repeat (first | exact Go.Sl.Sel.here | apply Go.Sl.Sel.there)) hP hw.sp hrg (by omega)) ?_; rintro _ _ ⟨x31, rfl, hq31, rfl⟩)
    refine Go.Sl.ow_nil ?_
    refine Go.Sl.xw_then ?_
    refine Go.Sl.cw_seq ?_
    refine Go.Sl.cw_region ?_
    refine Go.Sl.ow_val rfl rfl (Go.Sl.v_move rfl) ?_
    refine Go.Sl.ow_val rfl rfl (Go.Sl.v_nilCheck rfl) ?_
    refine Go.Sl.ow_val rfl rfl (Go.Sl.v_fieldAddr0 Ty.fd133_3 rfl) ?_
    refine Go.Sl.ow_val rfl rfl (Go.Sl.v_load rfl (Go.Sl.Var.at1 Ty.sc25 .here (Go.Sl.GetN.lit rfl))) ?_
    (refine Go.Sl.ow_call rfl rfl rfl rfl (setList_l hC (by repeat (first | exact Go.Sl.Sub.here | assumption | refine Go.Sl.Sub.there ?_)) hw.sc) ?_; rintro _ _ ⟨x36, rfl, hq36, rfl⟩)
    refine Go.Sl.ow_val rfl rfl (Go.Sl.v_len rfl Try.underlying34 rfl) ?_
    refine Go.Sl.ow_val rfl rfl (Go.Sl.v_move rfl) ?_
    refine Go.Sl.ow_nil ?_
    refine Go.Sl.xw_then ?_
    refine Go.Sl.cw_block ?_
    rotate_left
    refine Go.Sl.cw_skip ?_
    rotate_left
    · have hlo : (m.lose at_ size).pend = m.came.foldl cutE (addE m.pend ⟨at_, at_ + size⟩) := by rw [show m.lose at_ size = _ from if_pos hc20]
      rw [hlo]
      refine Go.Sl.cw_loop2 (ι := ((Nat × Hp))) [(0, _), (1, _), (3, _), (36, _), (37, _)] ⟨rfl, rfl, rfl, rfl, rfl, trivial⟩ ((fun x => [(38, .int .i64 x.1)])) ((fun x => x.1 ≤ m.came.length ∧ SetAt ⟨65536, (m.came.take x.1).foldl cutE (addE m.pend ⟨at_, at_ + size⟩)⟩ bp x.2)) ((fun x => m.came.length - x.1)) ((fun x => x36.2.2 :: [(b, .cells [.slice ao m.data.length cap, .int .u64 m.base, .pointer (some ⟨bp, 0, none⟩), .pointer (some ⟨bc, 0, none⟩), .bool m.fin, .bool m.waits, .bool m.endCame].toArray 133 (0, 0))] :: cd :: x.2 :: cc :: F)) (((0, x31) : Nat × Hp)) (by repeat (first | exact True.intro | refine And.intro rfl ?_)) (by first | exact Go.Sl.Cov.refl _ | (intro p; simp only [List.flatten_cons, List.flatten_nil, List.flatten_append, List.append_nil, List.nil_append, Go.Sl.cnt_append, Go.Sl.cnt_cons, Go.Sl.cnt_nil, List.set_cons_zero, List.set_cons_succ, List.length_nil, List.length_cons, Nat.zero_add, List.append]; omega)) ?_ ?_
      · exact ⟨Nat.zero_le _, by assumption⟩
      rintro ⟨j, cj⟩ ⟨hj, hPj⟩
      dsimp only at hj hPj ⊢
      obtain ⟨q1, q2, q3⟩ := cuts_fits (v := 65536) (by omega) (k := m.came.take j) k1 (fun r hr => hw.gc.inn r (List.mem_of_mem_take hr)) hip
      have hwj : (⟨65536, (m.came.take j).foldl cutE (addE m.pend ⟨at_, at_ + size⟩)⟩ : SetM).WF := ⟨q1, by dsimp only; omega, by dsimp only; omega⟩
      have hlc := hw.lc
      refine Go.Sl.cw_seq ?_
      refine Go.Sl.cw_region ?_
      refine Go.Sl.ow_val rfl rfl (Go.Sl.v_lss rfl rfl) ?_
      refine Go.Sl.ow_nil ?_
      refine Go.Sl.xw_then ?_
      refine Go.Sl.cw_seq ?_
      refine Go.Sl.cw_dec rfl (fun hc39 => ?_) (fun hc39 => ?_)
      refine Go.Sl.cw_skip ?_
      refine Go.Sl.xw_then ?_
      rotate_left
      refine Go.Sl.cw_exit ?_
      refine Go.Sl.xw_then_exit ?_
      refine Go.Sl.xw_round_exit ?_
      refine Go.Sl.xw_block_exit ?_
      rotate_left
      · have hj2 : j < m.came.length := by omega
        have hoki := hq36.ok _ (List.getElem_mem hj2)
        obtain ⟨p1, p2, p3⟩ := cut_fits (v := 65536) q1 (hw.gc.inn _ (List.getElem_mem hj2)) (by omega) (fun n hn => hip n ((q2 n).1 hn).1)
        have hsu : (m.came.take (j + 1)).foldl cutE (addE m.pend ⟨at_, at_ + size⟩) = cutE ((m.came.take j).foldl cutE (addE m.pend ⟨at_, at_ + size⟩)) m.came[j] := by rw [List.take_succ_eq_append_getElem hj2, List.foldl_append]; rfl
        refine Go.Sl.cw_seq ?_
        refine Go.Sl.cw_block ?_
        refine Go.Sl.cw_seq ?_
        refine Go.Sl.cw_region ?_
        refine Go.Sl.ow_val rfl rfl (Go.Sl.v_indexAddr_ls Try.underlying34 (rTy) rfl rfl (by assumption) rfl (by omega)) ?_
        refine Go.Sl.ow_val rfl rfl (Go.Sl.v_load rfl (Go.Sl.Vw.var (rTy) ((hq36.vw (by repeat (first | exact Go.Sl.Sub.here | assumption | refine Go.Sl.Sub.there ?_)))) (by omega))) ?_
        (refine Go.Sl.ow_alloc rfl rfl Ty.ze28 ?_; intro b9)
        refine Go.Sl.ow_storeE rfl (rTy) rfl rfl .here (by first | rfl | assumption) (by assumption) ?_
        refine Go.Sl.ow_nil ?_
        refine Go.Sl.xw_then ?_
        refine Go.Sl.cw_mix [] [5] [0, 1, 2, 3, 4] Ty.mixed rfl rfl rfl rfl (by decide +kernel) ?_
        refine Go.Sl.hw_pure rfl rfl (Go.Sl.v_move rfl) rfl ?_
        refine Go.Sl.hw_pure rfl rfl (Go.Sl.v_nilCheck rfl) rfl ?_
        refine Go.Sl.hw_pure rfl rfl (Go.Sl.v_fieldAddr0 Ty.fd133_2 rfl) rfl ?_
        refine Go.Sl.hw_read rfl rfl rfl (Go.Sl.v_load rfl (Go.Sl.Var.at1 Ty.sc25 (.there (.there .here)) (Go.Sl.GetN.lit rfl))) ?_
        refine Go.Sl.hw_read rfl rfl rfl (Go.Sl.v_load rfl (Go.Sl.Var.atN Ty.ag28 .here Go.Sl.GetN.all (by first | rfl | assumption))) ?_
        refine Go.Sl.hw_nil ?_
        refine Go.Sl.sw_nil ?_
        (refine Go.Sl.ow_call rfl rfl rfl rfl (setCutOk_l (by repeat (first | exact Go.Sl.Sel.here | apply Go.Sl.Sel.there)) hPj hwj (hw.gc.inn _ (List.getElem_mem hj2)) (by omega)) ?_; rintro _ _ ⟨x47, rfl, hq47, rfl⟩)
        refine Go.Sl.ow_nil ?_
        refine Go.Sl.xw_np ?_
        refine Go.Sl.xw_block ?_
        refine Go.Sl.xw_then ?_
        refine Go.Sl.cw_region ?_
        refine Go.Sl.ow_val rfl rfl (Go.Sl.v_add rfl rfl (Go.Sl.nw_i64 (by omega) (by omega))) ?_
        refine Go.Sl.ow_val rfl rfl (Go.Sl.v_move rfl) ?_
        refine Go.Sl.ow_nil ?_
        exact xw_round ((j + 1, x47) : Nat × Hp) ⟨by dsimp only; omega, by dsimp only; rw [hsu]; exact hq47⟩ (by dsimp only; omega) (by first | exact Go.Sl.Cov.refl _ | (intro p; simp only [List.flatten_cons, List.flatten_nil, List.flatten_append, List.append_nil, List.nil_append, Go.Sl.cnt_append, Go.Sl.cnt_cons, Go.Sl.cnt_nil, List.set_cons_zero, List.set_cons_succ, List.length_nil, List.length_cons, Nat.zero_add, List.append]; omega)) (by repeat (first | exact True.intro | refine And.intro rfl ?_))
      · have hx : m.came.take j = m.came := List.take_of_length_le (by omega)
        rw [hx] at hPj
        exact xw_joint cj hPj (by first | exact Go.Sl.Cov.refl _ | (intro p; simp only [List.flatten_cons, List.flatten_nil, List.flatten_append, List.append_nil, List.nil_append, Go.Sl.cnt_append, Go.Sl.cnt_cons, Go.Sl.cnt_nil, List.set_cons_zero, List.set_cons_succ, List.length_nil, List.length_cons, Nat.zero_add, List.append]; omega)) (by repeat (first | exact True.intro | refine And.intro rfl ?_))
    · rw [show (m.lose at_ size).pend = m.pend from by rw [show m.lose at_ size = m from if_neg hc20]]
      exact xw_joint cp hP (by first | exact Go.Sl.Cov.refl _ | (intro p; simp only [List.flatten_cons, List.flatten_nil, List.flatten_append, List.append_nil, List.nil_append, Go.Sl.cnt_append, Go.Sl.cnt_cons, Go.Sl.cnt_nil, List.set_cons_zero, List.set_cons_succ, List.length_nil, List.length_cons, Nat.zero_add, List.append]; omega)) (by repeat (first | exact True.intro | refine And.intro rfl ?_))
  · rintro cp2 hP2
    have hlo : m.lose at_ size = ⟨m.data, m.base, (m.lose at_ size).pend, m.came, m.fin, m.waits, m.endCame⟩ := by unfold BufM.lose; split <;> rfl
    refine Go.Sl.cw_seq ?_
    refine Go.Sl.cw_region ?_
    refine Go.Sl.ow_val rfl rfl (Go.Sl.v_move rfl) ?_
    refine Go.Sl.ow_val rfl rfl (Go.Sl.v_move rfl) ?_
    refine Go.Sl.ow_bool 50 rfl (fun hc50 => ?_) (fun hc50 => ?_)
    refine Go.Sl.ow_val rfl rfl (Go.Sl.v_move rfl) ?_
    refine Go.Sl.ow_val rfl rfl (Go.Sl.v_nilCheck rfl) ?_
    refine Go.Sl.ow_val rfl rfl (Go.Sl.v_fieldAddr0 Ty.fd133_4 rfl) ?_
    refine Go.Sl.ow_val rfl rfl (Go.Sl.v_load rfl (Go.Sl.Var.at1 Ty.sc4 .here (Go.Sl.GetN.lit rfl))) ?_
    refine Go.Sl.ow_val rfl rfl (Go.Sl.v_pick_true rfl rfl) ?_
    refine Go.Sl.ow_val rfl rfl (Go.Sl.v_move rfl) ?_
    refine Go.Sl.ow_bool 56 rfl (fun hc56 => ?_) (fun hc56 => ?_)
    refine Go.Sl.ow_val rfl rfl (Go.Sl.v_move rfl) ?_
    refine Go.Sl.ow_val rfl rfl (Go.Sl.v_nilCheck rfl) ?_
    refine Go.Sl.ow_val rfl rfl (Go.Sl.v_fieldAddr0 Ty.fd133_6 rfl) ?_
    refine Go.Sl.ow_val rfl rfl (Go.Sl.v_load rfl (Go.Sl.Var.at1 Ty.sc4 .here (Go.Sl.GetN.lit rfl))) ?_
    refine Go.Sl.ow_val rfl rfl (Go.Sl.v_not_bool rfl) ?_
    refine Go.Sl.ow_val rfl rfl (Go.Sl.v_pick_true rfl rfl) ?_
    refine Go.Sl.ow_nil ?_
    refine Go.Sl.xw_then ?_
    refine Go.Sl.cw_bool rfl (fun hc62 => ?_) (fun hc62 => ?_)
    refine Go.Sl.cw_region ?_
    refine Go.Sl.ow_val rfl rfl (Go.Sl.v_move rfl) ?_
    refine Go.Sl.ow_val rfl rfl (Go.Sl.v_nilCheck rfl) ?_
    refine Go.Sl.ow_val rfl rfl (Go.Sl.v_fieldAddr0 Ty.fd133_5 rfl) ?_
    refine Go.Sl.ow_store1 rfl rfl rfl rfl Ty.sc4 .here (Go.Sl.SetN.one (by first | decide | exact Nat.le_of_ble_eq_true rfl)) ?_
    refine Go.Sl.ow_nil ?_
    refine Go.Sl.ret0n rfl ?_
    rotate_left
    refine Go.Sl.cw_skip ?_
    refine Go.Sl.ret0n rfl ?_
    rotate_left
    refine Go.Sl.ow_skip rfl rfl ?_
    refine Go.Sl.ow_skip rfl rfl ?_
    refine Go.Sl.ow_skip rfl rfl ?_
    refine Go.Sl.ow_skip rfl rfl ?_
    refine Go.Sl.ow_skip rfl rfl ?_
    refine Go.Sl.ow_val rfl rfl (Go.Sl.v_pick_false rfl rfl) ?_
    refine Go.Sl.ow_nil ?_
    refine Go.Sl.xw_then ?_
    refine Go.Sl.cw_false rfl ?_
    refine Go.Sl.cw_skip ?_
    refine Go.Sl.ret0n rfl ?_
    rotate_left
    refine Go.Sl.ow_skip rfl rfl ?_
    refine Go.Sl.ow_skip rfl rfl ?_
    refine Go.Sl.ow_skip rfl rfl ?_
    refine Go.Sl.ow_skip rfl rfl ?_
    refine Go.Sl.ow_val rfl rfl (Go.Sl.v_pick_false rfl rfl) ?_
    refine Go.Sl.ow_val rfl rfl (Go.Sl.v_move rfl) ?_
    refine Go.Sl.ow_skip rfl rfl ?_
    refine Go.Sl.ow_skip rfl rfl ?_
    refine Go.Sl.ow_skip rfl rfl ?_
    refine Go.Sl.ow_skip rfl rfl ?_
    refine Go.Sl.ow_skip rfl rfl ?_
    refine Go.Sl.ow_val rfl rfl (Go.Sl.v_pick_false rfl rfl) ?_
    refine Go.Sl.ow_nil ?_
    refine Go.Sl.xw_then ?_
    refine Go.Sl.cw_false rfl ?_
    refine Go.Sl.cw_skip ?_
    refine Go.Sl.ret0n rfl ?_
    rotate_left
    · rw [show m.lostIt at_ size fin = _ from (if_pos hwt).trans (if_pos ⟨hc50, hc56, by simpa using hc62⟩), hlo]
      exact ⟨_, rfl, OutAt.of hL hP2 hC rfl, (by first | exact Go.Sl.Cov.refl _ | (intro p; simp only [List.flatten_cons, List.flatten_nil, List.flatten_append, List.append_nil, List.nil_append, Go.Sl.cnt_append, Go.Sl.cnt_cons, Go.Sl.cnt_nil, List.set_cons_zero, List.set_cons_succ, List.length_nil, List.length_cons, Nat.zero_add, List.append]; omega))⟩
    · rw [show m.lostIt at_ size fin = m.lose at_ size from (if_pos hwt).trans (if_neg fun h => by rw [h.2.2] at hc62; cases hc62), hlo]
      exact ⟨_, rfl, OutAt.of hL hP2 hC rfl, (by first | exact Go.Sl.Cov.refl _ | (intro p; simp only [List.flatten_cons, List.flatten_nil, List.flatten_append, List.append_nil, List.nil_append, Go.Sl.cnt_append, Go.Sl.cnt_cons, Go.Sl.cnt_nil, List.set_cons_zero, List.set_cons_succ, List.length_nil, List.length_cons, Nat.zero_add, List.append]; omega))⟩
    · rw [show m.lostIt at_ size fin = m.lose at_ size from (if_pos hwt).trans (if_neg fun h => by rw [hc56] at h; exact absurd h.2.1 (by decide)), hlo]
      exact ⟨_, rfl, OutAt.of hL hP2 hC rfl, (by first | exact Go.Sl.Cov.refl _ | (intro p; simp only [List.flatten_cons, List.flatten_nil, List.flatten_append, List.append_nil, List.nil_append, Go.Sl.cnt_append, Go.Sl.cnt_cons, Go.Sl.cnt_nil, List.set_cons_zero, List.set_cons_succ, List.length_nil, List.length_cons, Nat.zero_add, List.append]; omega))⟩
    · rw [show m.lostIt at_ size fin = m.lose at_ size from (if_pos hwt).trans (if_neg fun h => by rw [hc50] at h; exact absurd h.1 (by decide)), hlo]
      exact ⟨_, rfl, OutAt.of hL hP2 hC rfl, (by first | exact Go.Sl.Cov.refl _ | (intro p; simp only [List.flatten_cons, List.flatten_nil, List.flatten_append, List.append_nil, List.nil_append, Go.Sl.cnt_append, Go.Sl.cnt_cons, Go.Sl.cnt_nil, List.set_cons_zero, List.set_cons_succ, List.length_nil, List.length_cons, Nat.zero_add, List.append]; omega))⟩

/-! ### What the methods keep -/
theorem BufM.write_wf {m : BufM} {l : List UInt8} (hw : m.WF) (hl : m.base + m.data.length + l.length ≤ 65536) : (m.write l).WF := by
  have h1 := hw.low
  have hrg : RgIn ⟨m.base + m.data.length, m.base + m.data.length + l.length⟩ := ⟨by dsimp only; omega, by dsimp only; omega⟩
  obtain ⟨g1, g2, g3⟩ := addE_spec hw.gp hrg
  unfold BufM.write
  refine ⟨hw.low, by dsimp only; rw [List.length_append]; omega, g1, hw.gc, fun n hn => ?_, fun n hn => by have := hw.ic n hn; dsimp only; rw [List.length_append]; omega, fun n hn h => ?_, hw.gone, hw.max_⟩
  · dsimp only
    rw [List.length_append]
    rcases (g2 n).1 hn with h | h
    · have := hw.ip n h; omega
    · dsimp only at h; omega
  · rcases (g2 n).1 hn with h9 | h9
    · exact hw.dis n h9 h
    · have := hw.ic n h; dsimp only at h9; omega
theorem BufM.write_mem {m : BufM} {l : List UInt8} (hw : m.WF) (hl : m.base + m.data.length + l.length ≤ 65536) (n : Int) : InR (m.write l).pend n ↔ InR m.pend n ∨ (m.base + m.data.length ≤ n ∧ n < m.base + m.data.length + l.length) := by
  have h1 := hw.low
  exact (addE_spec hw.gp ⟨by dsimp only; omega, by dsimp only; omega⟩).2.1 n
theorem BufM.sent_mem {m : BufM} {at_ len : Int} {fin : Bool} (hw : m.WF) (ha : 0 ≤ at_) (hz : 0 ≤ len) (n : Int) : InR (m.sent at_ len fin).pend n ↔ InR m.pend n ∧ ¬ (at_ ≤ n ∧ n < at_ + len) := by
  have h1 := hw.low
  have h2 := hw.top
  unfold BufM.sent
  dsimp only
  split
  · rw [(cutE_spec hw.gp ⟨by dsimp only; omega, by dsimp only; omega⟩).2.1 n]
    dsimp only
    constructor
    · rintro ⟨h3, h4⟩; have := hw.ip n h3; exact ⟨h3, by omega⟩
    · rintro ⟨h3, h4⟩; exact ⟨h3, by omega⟩
  · constructor
    · intro h3; have := hw.ip n h3; exact ⟨h3, by omega⟩
    · exact fun h => h.1
theorem BufM.sent_wf {m : BufM} {at_ len : Int} {fin : Bool} (hw : m.WF) (ha : 0 ≤ at_) (hz : 0 ≤ len) : (m.sent at_ len fin).WF := by
  have h1 := hw.low
  have h2 := hw.top
  refine ⟨hw.low, hw.top, ?_, hw.gc, fun n hn => hw.ip n ((sent_mem hw ha hz n).1 hn).1, hw.ic, fun n hn => hw.dis n ((sent_mem hw ha hz n).1 hn).1, hw.gone, hw.max_⟩
  unfold BufM.sent
  dsimp only
  split
  · exact (cutE_spec hw.gp ⟨by dsimp only; omega, by dsimp only; omega⟩).1
  · exact hw.gp
theorem BufM.finish_wf {m : BufM} (hw : m.WF) : m.finish.WF := by
  unfold BufM.finish
  split
  · exact hw
  · exact ⟨hw.low, hw.top, hw.gp, hw.gc, hw.ip, hw.ic, hw.dis, hw.gone, hw.max_⟩
theorem BufM.take_mem {m : BufM} {at_ size : Int} (hw : m.WF) (ha : 0 ≤ at_) (hz : 0 ≤ size) (ht : at_ + size ≤ m.base + m.data.length) (n : Int) : (InR (m.take at_ size).pend n ↔ InR m.pend n ∧ ¬ (at_ ≤ n ∧ n < at_ + size)) ∧ (InR (m.take at_ size).came n ↔ InR m.came n ∨ (at_ ≤ n ∧ n < at_ + size)) := by
  have h1 := hw.top
  have h2 := hw.low
  have hrg : RgIn ⟨at_, at_ + size⟩ := ⟨by dsimp only; omega, by dsimp only; omega⟩
  unfold BufM.take
  split
  · rw [BufM.release_fin.2.2.2.1, BufM.release_fin.2.2.2.2]
    exact ⟨(cutE_spec hw.gp hrg).2.1 n, (addE_spec hw.gc hrg).2.1 n⟩
  · exact ⟨⟨fun h => ⟨h, by omega⟩, fun h => h.1⟩, ⟨.inl, fun h => h.elim id fun h => by omega⟩⟩
theorem BufM.gotIt_wf {m : BufM} {at_ size : Int} {fin : Bool} (hw : m.WF) (ha : 0 ≤ at_) : (m.gotIt at_ size fin).WF := by
  unfold BufM.gotIt
  split
  · rename_i h
    obtain ⟨h3, h4, h5⟩ := BufM.written_iff.1 h
    have ht := BufM.take_wf hw ha h3 h5
    split
    · exact ⟨ht.low, ht.top, ht.gp, ht.gc, ht.ip, ht.ic, ht.dis, ht.gone, ht.max_⟩
    · exact ht
  · exact hw
theorem BufM.lose_mem {m : BufM} {at_ size : Int} (hw : m.WF) (ha : 0 ≤ at_) (hz : 0 ≤ size) (ht : at_ + size ≤ m.base + m.data.length) (n : Int) : Good (m.lose at_ size).pend ∧ (InR (m.lose at_ size).pend n ↔ (InR m.pend n ∨ (at_ ≤ n ∧ n < at_ + size)) ∧ ¬ InR m.came n) := by
  have h1 := hw.top
  have h2 := hw.low
  have hrg : RgIn ⟨at_, at_ + size⟩ := ⟨by dsimp only; omega, by dsimp only; omega⟩
  unfold BufM.lose
  split
  · obtain ⟨k1, k2, _⟩ := addE_spec hw.gp hrg
    obtain ⟨q1, q2, _⟩ := cuts_fits (v := 65536) (by omega) (k := m.came) k1 hw.gc.inn fun n hn => by
      rcases (k2 n).1 hn with h | h
      · have := hw.ip n h; omega
      · dsimp only at h; omega
    exact ⟨q1, by dsimp only; rw [q2, k2]⟩
  · refine ⟨hw.gp, fun h => ⟨.inl h, hw.dis n h⟩, fun h => ?_⟩
    rcases h.1 with h3 | h3
    · exact h3
    · omega
theorem BufM.lose_wf {m : BufM} {at_ size : Int} (hw : m.WF) (ha : 0 ≤ at_) (hz : 0 ≤ size) (ht : at_ + size ≤ m.base + m.data.length) : (m.lose at_ size).WF := by
  have hm := BufM.lose_mem hw ha hz ht
  have hlo : m.lose at_ size = ⟨m.data, m.base, (m.lose at_ size).pend, m.came, m.fin, m.waits, m.endCame⟩ := by unfold BufM.lose; split <;> rfl
  rw [hlo]
  refine ⟨hw.low, hw.top, (hm 0).1, hw.gc, fun n hn => ?_, hw.ic, fun n hn => ((hm n).2.1 hn).2, hw.gone, hw.max_⟩
  rcases ((hm n).2.1 hn).1 with h | h
  · exact hw.ip n h
  · have := hw.low; dsimp only; omega
theorem BufM.lostIt_wf {m : BufM} {at_ size : Int} {fin : Bool} (hw : m.WF) (ha : 0 ≤ at_) : (m.lostIt at_ size fin).WF := by
  unfold BufM.lostIt
  split
  · rename_i h
    obtain ⟨h3, h4, h5⟩ := BufM.written_iff.1 h
    have ht := BufM.lose_wf hw ha h3 h5
    split
    · exact ⟨ht.low, ht.top, ht.gp, ht.gc, ht.ip, ht.ic, ht.dis, ht.gone, ht.max_⟩
    · exact ht
  · exact hw
end Go.Proofs.Ytbpnnkkbaakdjaa
