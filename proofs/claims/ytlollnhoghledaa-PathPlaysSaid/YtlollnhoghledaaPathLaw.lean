/- What the models of a path keep, and what a nil path does. Conditions: none. -/
import Derived.Test.YtlollnhoghledaaPath
import Derived.Test.YtlollnhoghledaaArgs
namespace Go.Proofs.Ytlollnhoghledaa
open Go Go.Sl Go.Proofs
set_option linter.unusedVariables false
set_option linter.unusedSimpArgs false

theorem pathNew_wf {n : Int} {k : Bool} (h : 0 ≤ n ∧ n ≤ 18446744073709551615) : (pathNew n k).WF := ⟨by simp [pathNew], by simp [pathNew], rfl, by simp [pathNew], rfl, by simp [pathNew, zero8], by simp [pathNew], h⟩
theorem PathM.WF.came {m : PathM} (h : m.WF) {s : Int} (hs2 : s ≤ 9223372036854775807) : (m.came s).WF := by
  have h1 := h.inn
  refine ⟨?_, h.out, h.word, h.till, h.ws, h.each, h.many, h.num⟩
  simp only [PathM.came, plusF]
  split
  · exact h1
  · split <;> omega
theorem PathM.WF.sent {m : PathM} (h : m.WF) {s : Int} (hs2 : s ≤ 9223372036854775807) : (m.sent s).WF := by
  have h1 := h.out
  refine ⟨h.inn, ?_, h.word, h.till, h.ws, h.each, h.many, h.num⟩
  simp only [PathM.sent, plusF]
  split
  · exact h1
  · split <;> omega
theorem PathM.WF.know {m : PathM} (h : m.WF) : m.know.WF := ⟨h.inn, h.out, h.word, h.till, h.ws, h.each, h.many, h.num⟩
theorem PathM.WF.told {m : PathM} (h : m.WF) : m.told.WF := ⟨h.inn, h.out, h.word, h.till, h.ws, h.each, h.many, h.num⟩
theorem PathM.WF.ask {m : PathM} (h : m.WF) {w : List Int} {t : Int} (hw : w.length = 8) (ht : 0 ≤ t ∧ t ≤ 18446744073709551615) : (m.ask w t).WF := by
  unfold PathM.ask
  split
  · exact h
  · exact ⟨h.inn, h.out, hw, ht, h.ws, h.each, h.many, h.num⟩
theorem PathM.WF.lost {m : PathM} (h : m.WF) {w : List Int} : (m.lost w).WF := by
  unfold PathM.lost
  split
  · exact ⟨h.inn, h.out, h.word, h.till, h.ws, h.each, h.many, h.num⟩
  · exact h
theorem PathM.WF.tick {m : PathM} (h : m.WF) {now : Int} : (m.tick now).1.WF := by
  unfold PathM.tick
  split
  · exact h
  · exact ⟨h.inn, h.out, h.word, h.till, h.ws, h.each, h.many, h.num⟩
theorem PathM.WF.response {m : PathM} (h : m.WF) {w : List Int} : (m.response w).1.WF := by
  unfold PathM.response
  split
  · exact h
  · exact h.know
theorem PathM.WF.challenged {m : PathM} (h : m.WF) {w : List Int} (hw : w.length = 8) : (m.challenged w).WF := by
  unfold PathM.challenged
  split
  · refine ⟨h.inn, h.out, h.word, h.till, by simp [h.ws], fun x hm => ?_, by simp; omega, h.num⟩
    rcases List.mem_or_eq_of_mem_set hm with h1 | h1
    · exact h.each x h1
    · rw [h1, hw]
  · exact h
theorem PathM.WF.answered {m : PathM} (h : m.WF) : m.answered.WF := by
  have := h.many
  unfold PathM.answered
  split
  · exact h
  · refine ⟨h.inn, h.out, h.word, h.till, by simp [h.ws], fun x hm => ?_, by simp; omega, h.num⟩
    rcases List.mem_append.1 hm with h1 | h1
    · exact h.each x (List.mem_of_mem_drop h1)
    · exact h.each x (List.mem_of_mem_drop h1)

theorem awake_c {B : Nat} {w0 : World} : FnC Try.prog 7 #[] B w0 [] (R0 (.bool true)) := fun F => by
  refine fn_enter Try.func7 rfl (by kernel_rfl) Try.ntmps7 (by simp) ?_
  refine Go.Sl.cw_seq ?_
  refine Go.Sl.cw_region ?_
  refine Go.Sl.ow_val rfl rfl (Go.Sl.v_assign rfl) ?_
  refine Go.Sl.ow_nil ?_
  refine Go.Sl.xw_then ?_
  refine Go.Sl.cw_seq ?_
  refine Go.Sl.cw_region ?_
  refine ow_call rfl rfl rfl rfl (Fn.c0 new_c) ?_
  rintro _ _ ⟨_, ⟨b, rfl, rfl⟩, rfl⟩
  refine Go.Sl.ow_val rfl rfl (Go.Sl.v_assign rfl) ?_
  refine Go.Sl.ow_nil ?_
  refine Go.Sl.xw_then ?_
  refine Go.Sl.cw_seq ?_
  refine Go.Sl.cw_region ?_
  refine Go.Sl.ow_val rfl rfl (Go.Sl.v_move rfl) ?_
  (refine Go.Sl.ow_call rfl rfl rfl rfl (Go.Sl.Fn.c1q .here (came_c (pathNew_wf (by decide)) (by decide) (by decide))) ?_; rintro _ _ ⟨rfl, rfl⟩)
  refine Go.Sl.ow_nil ?_
  refine Go.Sl.xw_then ?_
  refine Go.Sl.cw_seq ?_
  refine Go.Sl.cw_region ?_
  refine Go.Sl.ow_val rfl rfl (Go.Sl.v_move rfl) ?_
  refine Go.Sl.ow_val rfl rfl (Go.Sl.v_call rfl rfl (Go.Sl.Fn.c1r .here (room_c (PathM.WF.came (pathNew_wf (by decide)) (by decide))))) ?_
  refine Go.Sl.ow_val rfl rfl (Go.Sl.v_eql rfl rfl) ?_
  refine Go.Sl.ow_val rfl rfl (Go.Sl.v_move rfl) ?_
  refine Go.Sl.ow_dec 8 rfl (fun hc8 => ?_) (fun hc8 => ?_)
  refine Go.Sl.ow_val rfl rfl (Go.Sl.v_move rfl) ?_
  refine Go.Sl.ow_val rfl rfl (Go.Sl.v_nilCheck rfl) ?_
  refine Go.Sl.ow_val rfl rfl (Go.Sl.v_fieldAddr0 Ty.fd42_1 rfl) ?_
  refine Go.Sl.ow_val rfl rfl (Go.Sl.v_load rfl (Go.Sl.Var.at1 Ty.sc39 .here (PathM.g_state))) ?_
  refine Go.Sl.ow_val rfl rfl (Go.Sl.v_eql rfl rfl) ?_
  refine Go.Sl.ow_val rfl rfl (Go.Sl.v_pick_true rfl rfl) ?_
  refine Go.Sl.ow_val rfl rfl (Go.Sl.v_assign rfl) ?_
  refine Go.Sl.ow_nil ?_
  refine Go.Sl.xw_then ?_
  refine Go.Sl.cw_ret ?_
  refine Go.Sl.ret1 rfl (Go.Sl.res_tmp rfl) ?_
  rotate_left
  refine Go.Sl.ow_skip rfl rfl ?_
  refine Go.Sl.ow_skip rfl rfl ?_
  refine Go.Sl.ow_skip rfl rfl ?_
  refine Go.Sl.ow_skip rfl rfl ?_
  refine Go.Sl.ow_skip rfl rfl ?_
  refine Go.Sl.ow_val rfl rfl (Go.Sl.v_pick_false rfl rfl) ?_
  refine Go.Sl.ow_val rfl rfl (Go.Sl.v_assign rfl) ?_
  refine Go.Sl.ow_nil ?_
  refine Go.Sl.xw_then ?_
  refine Go.Sl.cw_ret ?_
  refine Go.Sl.ret1 rfl (Go.Sl.res_tmp rfl) ?_
  rotate_left
  · exact done0 (congrArg Value.bool (by decide)) (by repeat (first | exact List.Sublist.refl _ | refine List.Sublist.cons_cons _ ?_ | refine List.Sublist.cons _ ?_))
  · exact absurd (by decide) hc8

def PathM.answerV (m : PathM) : List Int × Bool := if m.many = 0 then (zero8, false) else ((m.ws[0]?).getD zero8, true)
theorem answer_v {B : Nat} {w0 : World} {b : Nat} {m : PathM} (h : m.WF) :
    FnC Try.prog 17 #[.pointer (some ⟨b, 0, none⟩)] B w0 [[(b, m.obj)]] (R1 (.tuple #[.agg (by8 m.answerV.1).toArray, .bool m.answerV.2]) [(b, m.obj)]) := by
  have h4 := h.ws
  obtain ⟨u, hu⟩ : ∃ u, m.ws[0]? = some u := ⟨m.ws[0]'(by omega), by simp⟩
  have h1 := answer_c (B := B) (w0 := w0) (b := b) h hu
  have h2 : (if m.many = 0 then Value.tuple #[.agg (by8 zero8).toArray, .bool false] else .tuple #[.agg (by8 u).toArray, .bool true]) = .tuple #[.agg (by8 m.answerV.1).toArray, .bool m.answerV.2] := by
    unfold PathM.answerV
    by_cases h0 : m.many = 0 <;> simp [h0, hu]
  rwa [h2] at h1
theorem answerV_len {m : PathM} (h : m.WF) : m.answerV.1.length = 8 := by
  have h4 := h.ws
  unfold PathM.answerV
  split
  · rfl
  · have : m.ws[0]? = some (m.ws[0]'(by omega)) := by simp
    rw [this]
    exact h.each _ (List.getElem_mem _)
theorem asksV_len {m : PathM} (h : m.WF) : m.asksV.1.length = 8 := by
  unfold PathM.asksV
  split
  · exact h.word
  · rfl

theorem open_ints8 {H : Type} {enc : TypeId × Value → H} {W : World} {base : Nat} {v : Value} {d : DataW H} {p : List MemPlace} (hv : Value.okWide Try.prog W .any base 33 v) (h : DataW.Trod enc Try.prog W 0 (fun _ => true) true 33 v d p) :
    ∃ l : List Int, v = .agg (by8 l).toArray ∧ l.length = 8 ∧ ∀ x ∈ l, (Lit.int .u8 x).wf = true := by
  simp only [Value.okWide, Try.underlying33] at hv
  obtain ⟨cs, rfl, _, _⟩ := hv
  obtain ⟨fuel, hf⟩ := h
  obtain ⟨l, h1, h2, h3⟩ := form_ints Try.underlying33 Try.underlying5 (by kernel_rfl) (by kernel_rfl) hf
  refine ⟨l, ?_, h2, h3⟩
  congr 1
  apply Array.ext'
  simpa [Value.cells, by8] using h1

end Go.Proofs.Ytlollnhoghledaa
