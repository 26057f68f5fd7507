/- Events of unlike spaces, or of a space and of none, go in either order: plainly; the law's small functions. Conditions: the second doesn't cut. -/
import Derived.Test.YtckdhelnafjddaaRpFo
namespace Go.Proofs.Ytckdhelnafjddaa
open Go Go.Sl Go.Proofs Go.RowKit Go.ChangeShapes Go.WideShapes Go.ChangeAt
set_option maxRecDepth 20000
set_option linter.unusedVariables false
set_option linter.unusedSimpArgs false

/-- of a space -/
def EvM.spc (e : EvM) : Bool := decide (2 ≤ e.k) && decide (e.k ≤ 7)
theorem spc_iff {e : EvM} : e.spc = true ↔ 2 ≤ e.k ∧ e.k ≤ 7 := by simp [EvM.spc]
theorem step_chk {s : StM} {e : EvM} (h : e.chk ≠ 0) : s.step e = (s, e.chk) := by unfold StM.step; rw [if_pos h]
theorem step_cut {s : StM} {e : EvM} (h : e.chk = 0) (hc : s.cut = true) : s.step e = (s, 11) := by unfold StM.step; rw [if_neg (by simp [h]), if_pos hc]
theorem step_far {s : StM} {e : EvM} (h : e.chk = 0) (hc : s.cut = false) (hk : 2 ≤ e.k ∧ e.k ≤ 7) (h3 : 3 ≤ e.at 0) : s.step e = (s, 2) := by
  unfold StM.step; rw [if_neg (by simp [h]), if_neg (by simp [hc]), if_pos hk, if_pos h3]
theorem step_bad {s : StM} {e : EvM} (h : e.chk = 0) (hc : s.cut = false) (hk : 2 ≤ e.k ∧ e.k ≤ 7) (h3 : ¬ 3 ≤ e.at 0) (hx : ((s.sp (e.at 0).toNat).step e).2 ≠ 0) : s.step e = (s, ((s.sp (e.at 0).toNat).step e).2) := by
  unfold StM.step; rw [if_neg (by simp [h]), if_neg (by simp [hc]), if_pos hk, if_neg h3, if_pos hx]
theorem step_ok {s : StM} {e : EvM} (h : e.chk = 0) (hc : s.cut = false) (hk : 2 ≤ e.k ∧ e.k ≤ 7) (h3 : ¬ 3 ≤ e.at 0) (hx : ((s.sp (e.at 0).toNat).step e).2 = 0) : s.step e = ({ s.setSp (e.at 0).toNat ((s.sp (e.at 0).toNat).step e).1 with ev := s.ev + 1 }, 0) := by
  unfold StM.step; rw [if_neg (by simp [h]), if_neg (by simp [hc]), if_pos hk, if_neg h3, if_neg (by simp [hx])]
theorem step_st {s : StM} {e : EvM} (h : e.chk = 0) (hc : s.cut = false) (hk : ¬ (2 ≤ e.k ∧ e.k ≤ 7)) : s.step e = ({ s.store e with ev := s.ev + 1 }, 0) := by
  unfold StM.step; rw [if_neg (by simp [h]), if_neg (by simp [hc]), if_neg hk]
theorem sp_set_ne {s : StM} {i j : Nat} {x : SpM} {v : Int} (hi : i < 3) (hj : j < 3) (h : i ≠ j) : ({ s.setSp i x with ev := v } : StM).sp j = s.sp j := by
  have h1 : i = 0 ∨ i = 1 ∨ i = 2 := by omega
  have h2 : j = 0 ∨ j = 1 ∨ j = 2 := by omega
  rcases h1 with rfl | rfl | rfl <;> rcases h2 with rfl | rfl | rfl <;> first | exact absurd rfl h | rfl
theorem cut_set {s : StM} {i : Nat} {x : SpM} {v : Int} : ({ s.setSp i x with ev := v } : StM).cut = s.cut := by
  unfold StM.setSp
  split <;> rfl
theorem set_comm {s : StM} {i j : Nat} {x y : SpM} {u v w : Int} (hi : i < 3) (hj : j < 3) (h : i ≠ j) :
    ({ ({ s.setSp i x with ev := u } : StM).setSp j y with ev := w } : StM) = { ({ s.setSp j y with ev := v } : StM).setSp i x with ev := w } := by
  have h1 : i = 0 ∨ i = 1 ∨ i = 2 := by omega
  have h2 : j = 0 ∨ j = 1 ∨ j = 2 := by omega
  rcases h1 with rfl | rfl | rfl <;> rcases h2 with rfl | rfl | rfl <;> first | exact absurd rfl h | rfl
theorem sp_store {s : StM} {e : EvM} {j : Nat} {v : Int} : ({ s.store e with ev := v } : StM).sp j = s.sp j := by
  unfold StM.store StM.sp
  split <;> (split <;> rfl)
theorem cut_store {s : StM} {e : EvM} {v : Int} (h : e.k.toNat ≠ 19) : ({ s.store e with ev := v } : StM).cut = s.cut := by
  unfold StM.store
  split <;> first | rfl | exact absurd (by assumption) h
theorem store_set {s : StM} {e : EvM} {i : Nat} {x : SpM} {u v w : Int} :
    ({ ({ s.setSp i x with ev := u } : StM).store e with ev := w } : StM) = { ({ s.store e with ev := v } : StM).setSp i x with ev := w } := by
  unfold StM.setSp StM.store
  split <;> (split <;> rfl)
structure Comm (s : StM) (a b : EvM) : Prop where
  ea : ((s.step b).1.step a).2 = (s.step a).2
  eb : ((s.step a).1.step b).2 = (s.step b).2
  es : ((s.step a).1.step b).1 = ((s.step b).1.step a).1
theorem Comm.left {s : StM} {a b : EvM} {e : Int} (h1 : s.step a = (s, e)) (h2 : (s.step b).1.step a = ((s.step b).1, e)) : Comm s a b := ⟨by rw [h2, h1], by rw [h1], by rw [h1, h2]⟩
theorem Comm.right {s : StM} {a b : EvM} {e : Int} (h1 : s.step b = (s, e)) (h2 : (s.step a).1.step b = ((s.step a).1, e)) : Comm s a b := ⟨by rw [h1], by rw [h2, h1], by rw [h1, h2]⟩
theorem step_cut_eq {s : StM} {e : EvM} (h : e.k.toNat ≠ 19) : (s.step e).1.cut = s.cut := by
  unfold StM.step
  split
  · rfl
  split
  · rfl
  split
  · split
    · rfl
    split
    · rfl
    exact cut_set
  · exact cut_store h
theorem comm {s : StM} {a b : EvM} (ha : 2 ≤ a.k ∧ a.k ≤ 7) (hb : b.k.toNat ≠ 19) (h : 2 ≤ b.k ∧ b.k ≤ 7 → a.at 0 ≠ b.at 0) (na : 0 ≤ a.at 0) (nb : 0 ≤ b.at 0) : Comm s a b := by
  by_cases ca : a.chk = 0
  case neg => exact .left (step_chk ca) (step_chk ca)
  by_cases cb : b.chk = 0
  case neg => exact .right (step_chk cb) (step_chk cb)
  have ha19 : a.k.toNat ≠ 19 := by omega
  cases hc : s.cut with
  | true => exact .left (step_cut ca hc) (step_cut ca ((step_cut_eq hb).trans hc))
  | false =>
    have cutA : (s.step a).1.cut = false := (step_cut_eq ha19).trans hc
    have cutB : (s.step b).1.cut = false := (step_cut_eq hb).trans hc
    by_cases fa : 3 ≤ a.at 0
    · exact .left (step_far ca hc ha fa) (step_far ca cutB ha fa)
    by_cases kb : 2 ≤ b.k ∧ b.k ≤ 7
    · by_cases fb : 3 ≤ b.at 0
      · exact .right (step_far cb hc kb fb) (step_far cb cutA kb fb)
      have hne := h kb
      have i1 : (a.at 0).toNat < 3 := by omega
      have i2 : (b.at 0).toNat < 3 := by omega
      have i3 : (a.at 0).toNat ≠ (b.at 0).toNat := by omega
      have spB : (s.step b).1.sp (a.at 0).toNat = s.sp (a.at 0).toNat := by
        by_cases xb : ((s.sp (b.at 0).toNat).step b).2 = 0
        · rw [step_ok cb hc kb fb xb]; exact sp_set_ne i2 i1 (Ne.symm i3)
        · rw [step_bad cb hc kb fb xb]
      have spA : (s.step a).1.sp (b.at 0).toNat = s.sp (b.at 0).toNat := by
        by_cases xa : ((s.sp (a.at 0).toNat).step a).2 = 0
        · rw [step_ok ca hc ha fa xa]; exact sp_set_ne i1 i2 i3
        · rw [step_bad ca hc ha fa xa]
      by_cases xa : ((s.sp (a.at 0).toNat).step a).2 = 0
      case neg =>
        refine .left (step_bad ca hc ha fa xa) ?_
        have h1 := step_bad (s := (s.step b).1) ca cutB ha fa (by rw [spB]; exact xa)
        rw [spB] at h1
        exact h1
      by_cases xb : ((s.sp (b.at 0).toNat).step b).2 = 0
      case neg =>
        refine .right (step_bad cb hc kb fb xb) ?_
        have h1 := step_bad (s := (s.step a).1) cb cutA kb fb (by rw [spA]; exact xb)
        rw [spA] at h1
        exact h1
      have h1 := step_ok (s := (s.step a).1) cb cutA kb fb (by rw [spA]; exact xb)
      have h2 := step_ok (s := (s.step b).1) ca cutB ha fa (by rw [spB]; exact xa)
      have h3 := step_ok ca hc ha fa xa
      have h4 := step_ok cb hc kb fb xb
      rw [spA] at h1
      rw [spB] at h2
      refine ⟨by rw [h2, h3], by rw [h1, h4], ?_⟩
      rw [h1, h2, h3, h4]
      exact set_comm i1 i2 i3
    · have spB : (s.step b).1.sp (a.at 0).toNat = s.sp (a.at 0).toNat := by
        rw [step_st cb hc kb]; exact sp_store
      by_cases xa : ((s.sp (a.at 0).toNat).step a).2 = 0
      case neg =>
        refine .left (step_bad ca hc ha fa xa) ?_
        have h1 := step_bad (s := (s.step b).1) ca cutB ha fa (by rw [spB]; exact xa)
        rw [spB] at h1
        exact h1
      have h1 := step_st (s := (s.step a).1) cb cutA kb
      have h2 := step_ok (s := (s.step b).1) ca cutB ha fa (by rw [spB]; exact xa)
      have h3 := step_ok ca hc ha fa xa
      have h4 := step_st cb hc kb
      rw [spB] at h2
      refine ⟨by rw [h2, h3], by rw [h1, h4], ?_⟩
      rw [h1, h2, h3, h4]
      exact store_set
set_option maxHeartbeats 4000000 in
theorem spaced_c {B : Nat} {w0 : World} {G : List Hp} {e : EvM} {p : EvP} :
    Go.Sl.Fn Try.prog 32 #[.agg (e.cells p).toArray] B w0 G fun u G' => u = .bool e.spc ∧ G' = G := by
  refine Fn.pure ?_
  have hcp : ∀ u ∈ e.cells p, u.oneCell' = true := EvM.cells_one
  have hclp : (e.cells p).length = 4 := rfl
  refine fn_enter Try.func32 rfl (by kernel_rfl) Try.ntmps32 (by simp) ?_
  refine Go.Sl.cw_seq ?_
  refine Go.Sl.cw_region ?_
  (refine Go.Sl.ow_box rfl rfl rfl rfl ?_; intro b1)
  refine Go.Sl.ow_val rfl rfl (Go.Sl.v_assign rfl) ?_
  refine Go.Sl.ow_nil ?_
  refine Go.Sl.xw_then ?_
  refine Go.Sl.cw_seq ?_
  refine Go.Sl.cw_region ?_
  refine Go.Sl.ow_val rfl rfl (Go.Sl.v_fieldAddr0 Ty.fd62_0 rfl) ?_
  refine Go.Sl.ow_val rfl rfl (Go.Sl.v_load rfl (Go.Sl.Var.at1 Ty.sc59 .here (Go.Sl.GetN.lit rfl))) ?_
  refine Go.Sl.ow_val rfl rfl (Go.Sl.v_geq rfl rfl) ?_
  refine Go.Sl.ow_val rfl rfl (Go.Sl.v_move rfl) ?_
  refine Go.Sl.ow_dec 6 rfl (fun hc6 => ?_) (fun hc6 => ?_)
  refine Go.Sl.ow_val rfl rfl (Go.Sl.v_fieldAddr0 Ty.fd62_0 rfl) ?_
  refine Go.Sl.ow_val rfl rfl (Go.Sl.v_load rfl (Go.Sl.Var.at1 Ty.sc59 .here (Go.Sl.GetN.lit rfl))) ?_
  refine Go.Sl.ow_val rfl rfl (Go.Sl.v_leq rfl rfl) ?_
  refine Go.Sl.ow_val rfl rfl (Go.Sl.v_pick_true rfl rfl) ?_
  refine Go.Sl.ow_val rfl rfl (Go.Sl.v_assign rfl) ?_
  refine Go.Sl.ow_nil ?_
  refine Go.Sl.xw_then ?_
  refine Go.Sl.cw_ret ?_
  refine Go.Sl.ret1 rfl (Go.Sl.res_tmp rfl) ?_
  rotate_left
  refine Go.Sl.ow_skip rfl rfl ?_
  refine Go.Sl.ow_skip rfl rfl ?_
  refine Go.Sl.ow_skip rfl rfl ?_
  refine Go.Sl.ow_val rfl rfl (Go.Sl.v_pick_false rfl rfl) ?_
  refine Go.Sl.ow_val rfl rfl (Go.Sl.v_assign rfl) ?_
  refine Go.Sl.ow_nil ?_
  refine Go.Sl.xw_then ?_
  refine Go.Sl.cw_ret ?_
  refine Go.Sl.ret1 rfl (Go.Sl.res_tmp rfl) ?_
  rotate_left
  · exact ⟨congrArg Value.bool (by unfold EvM.spc; rw [decide_eq_true hc6, Bool.true_and]), (by first | exact Go.Sl.Cov.refl _ | (intro p; simp only [List.flatten_cons, List.flatten_nil, List.flatten_append, List.append_nil, List.nil_append, Go.Sl.cnt_append, Go.Sl.cnt_cons, Go.Sl.cnt_nil, List.set_cons_zero, List.set_cons_succ, List.length_nil, List.length_cons, Nat.zero_add, List.append]; omega))⟩
  · exact ⟨congrArg Value.bool (by unfold EvM.spc; rw [decide_eq_false hc6, Bool.false_and]), (by first | exact Go.Sl.Cov.refl _ | (intro p; simp only [List.flatten_cons, List.flatten_nil, List.flatten_append, List.append_nil, List.nil_append, Go.Sl.cnt_append, Go.Sl.cnt_cons, Go.Sl.cnt_nil, List.set_cons_zero, List.set_cons_succ, List.length_nil, List.length_cons, Nat.zero_add, List.append]; omega))⟩
theorem open_event {H : Type} {enc : TypeId × Value → H} {W : World} {base : Nat} {v : Value} {d : DataW H} {p : List MemPlace} (hv : Value.okWide Try.prog W .any base 62 v) (h : DataW.Trod enc Try.prog W 0 (fun _ => true) true 62 v d p) :
    ∃ e : EvE, v = .agg (e.m.cells e.p).toArray ∧ e.m.ok ∧ EvDeep W.heap.size W e.m e.p [] := by
  obtain ⟨cs, rfl, _⟩ := okWide_struct Try.underlying62 hv
  obtain ⟨fuel, hf⟩ := h
  obtain ⟨e, h1, h2, h3⟩ := form_event hf
  refine ⟨e, ?_, h2, fun G _ => h3 G⟩
  congr 1
  apply Array.ext'
  simpa [Value.cells, enEv] using h1
end Go.Proofs.Ytckdhelnafjddaa
