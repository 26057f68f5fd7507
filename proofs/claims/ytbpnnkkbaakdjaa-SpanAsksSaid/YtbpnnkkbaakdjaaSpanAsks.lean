/- SpanAsks: whatever the input it returns true, and the input reads as it did. Conditions: none. -/
import Derived.Test.YtbpnnkkbaakdjaaSpanLaw
namespace Go.Proofs.Ytbpnnkkbaakdjaa.lawSpanAsks
open Go Go.Sl Go.Proofs Go.RowKit Go.ChangeShapes Go.WideShapes Go.ChangeAt Go.Proofs.Ytbpnnkkbaakdjaa
set_option maxRecDepth 20000
set_option linter.unusedVariables false
set_option linter.unusedSimpArgs false

structure Ix where
  i : Nat
  l : List Rg
  c : Hp
theorem nb2 {b : Bool} (h : (!b) = false) : b = true := by cases b <;> simp_all
theorem covers_add {l : List Rg} {r : Rg} (hl : Good l) (hr : RgIn r) : coversR (addE l r) r = true := by
  unfold coversR addE
  by_cases h : r.a < r.b
  · have hS := addS hl (hr.ok h)
    rw [if_pos h, decide_eq_false (by omega), Bool.false_or, List.any_eq_true]
    refine ⟨(mrg r (l.drop (cutAt (fun x => decide (r.a ≤ x.b)) l))).1, ?_, ?_⟩
    · unfold addL
      simp
    · have h1 := hS.lo
      have h2 := hS.hi
      simp
      omega
  · rw [decide_eq_true (by omega)]
    rfl
theorem cnt_addE {l : List Rg} {r : Rg} (hl : Good l) (hr : RgIn r) : cntR l ≤ cntR (addE l r) := by
  unfold addE
  split
  · rename_i h; exact cntR_add hl (hr.ok h)
  · exact Int.le_refl _
theorem has_cut {l : List Rg} {r : Rg} {n : Int} (hl : Good l) (hr : RgIn r) (h : r.a ≤ n ∧ n < r.b) : hasR (cutE l r) n = false := by
  rw [Bool.eq_false_iff, ne_eq, hasR_iff, (cutE_spec hl hr).2.1]
  exact fun h1 => h1.2 h
def emp (r : Rg) (l : List Rg) : Bool := l.all fun x => decide (x.b ≤ r.a) || decide (r.b ≤ x.a)
theorem emp_succ {r : Rg} {l : List Rg} {j : Nat} (h : j < l.length) : emp r (l.take (j + 1)) = (emp r (l.take j) && (decide ((l[j]).b ≤ r.a) || decide (r.b ≤ (l[j]).a))) := by
  unfold emp
  rw [List.take_succ_eq_append_getElem h, List.all_append]
  simp
theorem again {l : List Rg} {r : Rg} (hl : Good l) (hr : RgIn r) (h : r.a < r.b) (he : emp r l = true) : cutE (addE l r) r = l := by
  unfold cutE addE
  rw [if_pos h, if_pos h]
  refine cut_add hl (hr.ok h) fun x hx => ?_
  have := List.all_eq_true.1 he x hx
  simpa using this

set_option maxHeartbeats 8000000 in
theorem law {B : Nat} {w0 : World} {acts : List ActR} {r : Rg} {aoA : Option Addr} {capA : Nat} (hr : enR.ok r) (hl : acts.length ≤ 9223372036854775807) (hA : ∀ G, Vw enAc (St B w0 G) (.slice aoA acts.length capA) acts) :
    FnC Try.prog 4 #[.slice aoA acts.length capA, enR.val r] B w0 [] (R0 (.bool true)) := fun F => by
  have hr2 := len2 _ hr
  have hr3 := one2 _ hr
  refine fn_enter Try.func4 rfl (by kernel_rfl) Try.ntmps4 (by simp) ?_
  refine Go.Sl.cw_seq ?_
  refine Go.Sl.cw_region ?_
  (refine Go.Sl.ow_box rfl rfl rfl rfl ?_; intro b3)
  refine Go.Sl.ow_val rfl rfl (Go.Sl.v_assign rfl) ?_
  refine Go.Sl.ow_nil ?_
  refine Go.Sl.xw_then ?_
  refine Go.Sl.cw_seq ?_
  refine Go.Sl.cw_seq ?_
  refine Go.Sl.cw_region ?_
  refine Go.Sl.ow_val rfl rfl (Go.Sl.v_call rfl rfl (spanAwake_c)) ?_
  refine Go.Sl.ow_val rfl rfl (Go.Sl.v_not_true rfl) ?_
  refine Go.Sl.ow_nil ?_
  refine Go.Sl.xw_then ?_
  refine Go.Sl.cw_false rfl ?_
  refine Go.Sl.cw_skip ?_
  refine Go.Sl.xw_then ?_
  refine Go.Sl.cw_seq ?_
  refine Go.Sl.cw_region ?_
  (refine Go.Sl.ow_call rfl rfl rfl rfl (newSet_c) ?_; rintro _ _ ⟨x17, rfl, hq17, rfl⟩)
  refine Go.Sl.ow_val rfl rfl (Go.Sl.v_assign rfl) ?_
  refine Go.Sl.ow_nil ?_
  refine Go.Sl.xw_then ?_
  refine Go.Sl.cw_seq ?_
  refine Go.Sl.cw_seq ?_
  refine Go.Sl.cw_region ?_
  refine Go.Sl.ow_val rfl rfl (Go.Sl.v_move rfl) ?_
  refine Go.Sl.ow_val rfl rfl (Go.Sl.v_len rfl Try.underlying22 rfl) ?_
  refine Go.Sl.ow_val rfl rfl (Go.Sl.v_move rfl) ?_
  refine Go.Sl.ow_nil ?_
  refine Go.Sl.xw_then ?_
  refine Go.Sl.cw_block ?_
  refine Go.Sl.cw_loop2 (ι := (Ix)) [(1, _), (3, _), (4, _), (5, _), (18, _), (19, _)] ⟨rfl, rfl, rfl, rfl, rfl, rfl, trivial⟩ ((fun x => [(20, .int .i64 x.i)])) ((fun x => x.i ≤ acts.length ∧ Good x.l ∧ x.l.length ≤ 60 ∧ x.l.length ≤ x.i ∧ SetAt ⟨1000, x.l⟩ x17.1 x.c)) ((fun x => acts.length - x.i)) ((fun x => x.c :: [(b3, .cells r.cells.toArray 28 (0, 0))] :: F)) ((⟨0, [], x17.2⟩ : Ix)) (by repeat (first | exact True.intro | refine And.intro rfl ?_)) (by first | exact Go.Sl.Cov.refl _ | (intro p; simp only [List.flatten_cons, List.flatten_nil, List.flatten_append, List.append_nil, List.nil_append, Go.Sl.cnt_append, Go.Sl.cnt_cons, Go.Sl.cnt_nil, List.set_cons_zero, List.set_cons_succ, List.length_nil, List.length_cons, Nat.zero_add, List.append]; omega)) ?_ ?_
  · exact ⟨Nat.zero_le _, Good.nil, by simp, by simp, hq17⟩
  rintro ⟨i, l, c⟩ ⟨hi, hg, hl60, hli, hO⟩
  dsimp only at hi hg hl60 hli hO ⊢
  have hw : (⟨1000, l⟩ : SetM).WF := ⟨hg, by dsimp only; omega, by dsimp only; omega⟩
  refine Go.Sl.cw_seq ?_
  refine Go.Sl.cw_region ?_
  refine Go.Sl.ow_val rfl rfl (Go.Sl.v_lss rfl rfl) ?_
  refine Go.Sl.ow_nil ?_
  refine Go.Sl.xw_then ?_
  refine Go.Sl.cw_seq ?_
  refine Go.Sl.cw_dec rfl (fun hc21 => ?_) (fun hc21 => ?_)
  refine Go.Sl.cw_skip ?_
  refine Go.Sl.xw_then ?_
  rotate_left
  refine Go.Sl.cw_exit ?_
  refine Go.Sl.xw_then_exit ?_
  refine Go.Sl.xw_round_exit ?_
  refine Go.Sl.xw_block_exit ?_
  refine Go.Sl.xw_then ?_
  rotate_left
  · have hi2 : i < acts.length := by omega
    have hao := (hA []).ok _ (List.getElem_mem hi2)
    have ha1 := acTy.len _ hao
    have ha2 := acTy.one _ hao
    have hrg := actRg_in hao
    obtain ⟨g1, g2, g3⟩ := addE_spec hg hrg
    refine Go.Sl.cw_seq ?_
    refine Go.Sl.cw_block ?_
    refine Go.Sl.cw_seq ?_
    refine Go.Sl.cw_region ?_
    refine Go.Sl.ow_val rfl rfl (Go.Sl.v_move rfl) ?_
    refine Go.Sl.ow_val rfl rfl (Go.Sl.v_indexAddr_vw Try.underlying22 (acTy) rfl rfl (hA []) rfl (by omega)) ?_
    refine Go.Sl.ow_val rfl rfl (Go.Sl.v_load rfl (Go.Sl.Vw.var (acTy) (hA _) (by omega))) ?_
    (refine Go.Sl.ow_alloc rfl rfl Ty.ze30 ?_; intro b7)
    refine Go.Sl.ow_val rfl rfl (Go.Sl.v_assign rfl) ?_
    refine Go.Sl.ow_storeE rfl (acTy) rfl rfl .here (by first | rfl | assumption) (by assumption) ?_
    refine Go.Sl.ow_nil ?_
    refine Go.Sl.xw_then ?_
    refine Go.Sl.cw_seq ?_
    refine Go.Sl.cw_region ?_
    refine Go.Sl.ow_val rfl rfl (Go.Sl.v_move rfl) ?_
    refine Go.Sl.ow_val rfl rfl (Go.Sl.v_lss rfl rfl) ?_
    refine Go.Sl.ow_nil ?_
    refine Go.Sl.xw_then ?_
    refine Go.Sl.cw_dec rfl (fun hc26 => ?_) (fun hc26 => ?_)
    refine Go.Sl.cw_region ?_
    refine Go.Sl.ow_val rfl rfl (Go.Sl.v_move rfl) ?_
    refine Go.Sl.ow_val rfl rfl (Go.Sl.v_load rfl (Go.Sl.Var.atN Ty.ag30 .here Go.Sl.GetN.all (by first | rfl | assumption))) ?_
    refine Go.Sl.ow_val rfl rfl (Go.Sl.v_call rfl rfl (range_c hao)) ?_
    (refine Go.Sl.ow_call rfl rfl rfl rfl (setAddOk_l (by repeat (first | exact Go.Sl.Sel.here | apply Go.Sl.Sel.there)) hO hw hrg (by omega)) ?_; rintro _ _ ⟨x30, rfl, hq30, rfl⟩)
    refine Go.Sl.ow_nil ?_
    refine Go.Sl.xw_block ?_
    refine Go.Sl.xw_then ?_
    refine Go.Sl.cw_region ?_
    refine Go.Sl.ow_val rfl rfl (Go.Sl.v_add rfl rfl (Go.Sl.nw_i64 (by omega) (by omega))) ?_
    refine Go.Sl.ow_val rfl rfl (Go.Sl.v_move rfl) ?_
    refine Go.Sl.ow_nil ?_
    rotate_left
    refine Go.Sl.cw_skip ?_
    refine Go.Sl.xw_block ?_
    refine Go.Sl.xw_then ?_
    refine Go.Sl.cw_region ?_
    refine Go.Sl.ow_val rfl rfl (Go.Sl.v_add rfl rfl (Go.Sl.nw_i64 (by omega) (by omega))) ?_
    refine Go.Sl.ow_val rfl rfl (Go.Sl.v_move rfl) ?_
    refine Go.Sl.ow_nil ?_
    rotate_left
    · exact xw_round (⟨i + 1, addE l (actRg acts[i]), x30⟩ : Ix) ⟨by dsimp only; omega, g1, by dsimp only; omega, by dsimp only; omega, hq30⟩ (by dsimp only; omega) (by first | exact Go.Sl.Cov.refl _ | (intro p; simp only [List.flatten_cons, List.flatten_nil, List.flatten_append, List.append_nil, List.nil_append, Go.Sl.cnt_append, Go.Sl.cnt_cons, Go.Sl.cnt_nil, List.set_cons_zero, List.set_cons_succ, List.length_nil, List.length_cons, Nat.zero_add, List.append]; omega)) (by repeat (first | exact True.intro | refine And.intro rfl ?_))
    · exact xw_round (⟨i + 1, l, c⟩ : Ix) ⟨by dsimp only; omega, hg, hl60, by dsimp only; omega, hO⟩ (by dsimp only; omega) (by first | exact Go.Sl.Cov.refl _ | (intro p; simp only [List.flatten_cons, List.flatten_nil, List.flatten_append, List.append_nil, List.nil_append, Go.Sl.cnt_append, Go.Sl.cnt_cons, Go.Sl.cnt_nil, List.set_cons_zero, List.set_cons_succ, List.length_nil, List.length_cons, Nat.zero_add, List.append]; omega)) (by repeat (first | exact True.intro | refine And.intro rfl ?_))
  · refine Go.Sl.cw_seq ?_
    refine Go.Sl.cw_region ?_
    refine Go.Sl.ow_val rfl rfl (Go.Sl.v_move rfl) ?_
    (refine Go.Sl.ow_call rfl rfl rfl rfl (setList_l hO (by repeat (first | exact Go.Sl.Sub.here | assumption | refine Go.Sl.Sub.there ?_)) hw) ?_; rintro _ _ ⟨x33, rfl, hq33, rfl⟩)
    refine Go.Sl.ow_val rfl rfl (Go.Sl.v_assign rfl) ?_
    refine Go.Sl.ow_nil ?_
    refine Go.Sl.xw_then ?_
    refine Go.Sl.cw_seq ?_
    refine Go.Sl.cw_region ?_
    refine Go.Sl.ow_val rfl rfl (Go.Sl.v_assign rfl) ?_
    refine Go.Sl.ow_nil ?_
    refine Go.Sl.xw_then ?_
    refine Go.Sl.cw_seq ?_
    refine Go.Sl.cw_seq ?_
    refine Go.Sl.cw_region ?_
    refine Go.Sl.ow_val rfl rfl (Go.Sl.v_move rfl) ?_
    refine Go.Sl.ow_val rfl rfl (Go.Sl.v_len rfl Try.underlying34 rfl) ?_
    refine Go.Sl.ow_val rfl rfl (Go.Sl.v_move rfl) ?_
    refine Go.Sl.ow_nil ?_
    refine Go.Sl.xw_then ?_
    refine Go.Sl.cw_block ?_
    refine Go.Sl.cw_loop2 (ι := (Nat)) [(1, _), (3, _), (4, _), (5, _), (8, _), (34, _), (35, _)] ⟨rfl, rfl, rfl, rfl, rfl, rfl, rfl, trivial⟩ ((fun j => [(9, .bool (emp r (l.take j))), (36, .int .i64 j)])) ((fun j => j ≤ l.length)) ((fun j => l.length - j)) ((fun j => x33.2.2 :: c :: [(b3, .cells r.cells.toArray 28 (0, 0))] :: F)) (0) (by repeat (first | exact True.intro | refine And.intro rfl ?_)) (by first | exact Go.Sl.Cov.refl _ | (intro p; simp only [List.flatten_cons, List.flatten_nil, List.flatten_append, List.append_nil, List.nil_append, Go.Sl.cnt_append, Go.Sl.cnt_cons, Go.Sl.cnt_nil, List.set_cons_zero, List.set_cons_succ, List.length_nil, List.length_cons, Nat.zero_add, List.append]; omega)) ?_ ?_
    · exact Nat.zero_le _
    rintro j hj
    refine Go.Sl.cw_seq ?_
    refine Go.Sl.cw_region ?_
    refine Go.Sl.ow_val rfl rfl (Go.Sl.v_lss rfl rfl) ?_
    refine Go.Sl.ow_nil ?_
    refine Go.Sl.xw_then ?_
    refine Go.Sl.cw_seq ?_
    refine Go.Sl.cw_dec rfl (fun hc37 => ?_) (fun hc37 => ?_)
    refine Go.Sl.cw_skip ?_
    refine Go.Sl.xw_then ?_
    rotate_left
    refine Go.Sl.cw_exit ?_
    refine Go.Sl.xw_then_exit ?_
    refine Go.Sl.xw_round_exit ?_
    refine Go.Sl.xw_block_exit ?_
    refine Go.Sl.xw_then ?_
    rotate_left
    · have hj2 : j < l.length := by omega
      have hokj := hq33.ok _ (List.getElem_mem hj2)
      have hes := emp_succ (r := r) hj2
      refine Go.Sl.cw_seq ?_
      refine Go.Sl.cw_block ?_
      refine Go.Sl.cw_seq ?_
      refine Go.Sl.cw_region ?_
      refine Go.Sl.ow_val rfl rfl (Go.Sl.v_indexAddr_ls Try.underlying34 (rTy) rfl rfl (by assumption) rfl (by omega)) ?_
      refine Go.Sl.ow_val rfl rfl (Go.Sl.v_load rfl (Go.Sl.Vw.var (rTy) ((hq33.vw (by repeat (first | exact Go.Sl.Sub.here | assumption | refine Go.Sl.Sub.there ?_)))) (by omega))) ?_
      (refine Go.Sl.ow_alloc rfl rfl Ty.ze28 ?_; intro b11)
      refine Go.Sl.ow_storeE rfl (rTy) rfl rfl .here (by first | rfl | assumption) (by assumption) ?_
      refine Go.Sl.ow_nil ?_
      refine Go.Sl.xw_then ?_
      refine Go.Sl.cw_region ?_
      refine Go.Sl.ow_val rfl rfl (Go.Sl.v_move rfl) ?_
      refine Go.Sl.ow_val rfl rfl (Go.Sl.v_move rfl) ?_
      refine Go.Sl.ow_bool 41 rfl (fun hc41 => ?_) (fun hc41 => ?_)
      refine Go.Sl.ow_val rfl rfl (Go.Sl.v_fieldAddr0 Ty.fd28_1 rfl) ?_
      refine Go.Sl.ow_val rfl rfl (Go.Sl.v_load rfl (Go.Sl.Var.at1 Ty.sc23 .here (Go.Sl.GetN.lit rfl))) ?_
      refine Go.Sl.ow_val rfl rfl (Go.Sl.v_fieldAddr0 Ty.fd28_0 rfl) ?_
      refine Go.Sl.ow_val rfl rfl (Go.Sl.v_load rfl (Go.Sl.Var.at1 Ty.sc23 (.there (.there (.there .here))) (Go.Sl.GetN.lit rfl))) ?_
      refine Go.Sl.ow_val rfl rfl (Go.Sl.v_leq rfl rfl) ?_
      refine Go.Sl.ow_val rfl rfl (Go.Sl.v_move rfl) ?_
      refine Go.Sl.ow_dec 47 rfl (fun hc47 => ?_) (fun hc47 => ?_)
      refine Go.Sl.ow_skip rfl rfl ?_
      refine Go.Sl.ow_skip rfl rfl ?_
      refine Go.Sl.ow_skip rfl rfl ?_
      refine Go.Sl.ow_skip rfl rfl ?_
      refine Go.Sl.ow_skip rfl rfl ?_
      refine Go.Sl.ow_val rfl rfl (Go.Sl.v_pick_true rfl rfl) ?_
      refine Go.Sl.ow_val rfl rfl (Go.Sl.v_pick_true rfl rfl) ?_
      refine Go.Sl.ow_val rfl rfl (Go.Sl.v_assign rfl) ?_
      refine Go.Sl.ow_nil ?_
      refine Go.Sl.xw_block ?_
      refine Go.Sl.xw_then ?_
      refine Go.Sl.cw_region ?_
      refine Go.Sl.ow_val rfl rfl (Go.Sl.v_add rfl rfl (Go.Sl.nw_i64 (by omega) (by omega))) ?_
      refine Go.Sl.ow_val rfl rfl (Go.Sl.v_move rfl) ?_
      refine Go.Sl.ow_nil ?_
      rotate_left
      refine Go.Sl.ow_val rfl rfl (Go.Sl.v_fieldAddr0 Ty.fd28_0 rfl) ?_
      refine Go.Sl.ow_val rfl rfl (Go.Sl.v_load rfl (Go.Sl.Var.at1 Ty.sc23 .here (Go.Sl.GetN.lit rfl))) ?_
      refine Go.Sl.ow_val rfl rfl (Go.Sl.v_fieldAddr0 Ty.fd28_1 rfl) ?_
      refine Go.Sl.ow_val rfl rfl (Go.Sl.v_load rfl (Go.Sl.Var.at1 Ty.sc23 (.there (.there (.there .here))) (Go.Sl.GetN.lit rfl))) ?_
      refine Go.Sl.ow_val rfl rfl (Go.Sl.v_geq rfl rfl) ?_
      refine Go.Sl.ow_val rfl rfl (Go.Sl.v_pick_false rfl rfl) ?_
      refine Go.Sl.ow_val rfl rfl (Go.Sl.v_pick_true rfl rfl) ?_
      refine Go.Sl.ow_val rfl rfl (Go.Sl.v_assign rfl) ?_
      refine Go.Sl.ow_nil ?_
      refine Go.Sl.xw_block ?_
      refine Go.Sl.xw_then ?_
      refine Go.Sl.cw_region ?_
      refine Go.Sl.ow_val rfl rfl (Go.Sl.v_add rfl rfl (Go.Sl.nw_i64 (by omega) (by omega))) ?_
      refine Go.Sl.ow_val rfl rfl (Go.Sl.v_move rfl) ?_
      refine Go.Sl.ow_nil ?_
      rotate_left
      refine Go.Sl.ow_skip rfl rfl ?_
      refine Go.Sl.ow_skip rfl rfl ?_
      refine Go.Sl.ow_skip rfl rfl ?_
      refine Go.Sl.ow_skip rfl rfl ?_
      refine Go.Sl.ow_skip rfl rfl ?_
      refine Go.Sl.ow_skip rfl rfl ?_
      refine Go.Sl.ow_skip rfl rfl ?_
      refine Go.Sl.ow_skip rfl rfl ?_
      refine Go.Sl.ow_skip rfl rfl ?_
      refine Go.Sl.ow_skip rfl rfl ?_
      refine Go.Sl.ow_skip rfl rfl ?_
      refine Go.Sl.ow_skip rfl rfl ?_
      refine Go.Sl.ow_val rfl rfl (Go.Sl.v_pick_false rfl rfl) ?_
      refine Go.Sl.ow_val rfl rfl (Go.Sl.v_assign rfl) ?_
      refine Go.Sl.ow_nil ?_
      refine Go.Sl.xw_block ?_
      refine Go.Sl.xw_then ?_
      refine Go.Sl.cw_region ?_
      refine Go.Sl.ow_val rfl rfl (Go.Sl.v_add rfl rfl (Go.Sl.nw_i64 (by omega) (by omega))) ?_
      refine Go.Sl.ow_val rfl rfl (Go.Sl.v_move rfl) ?_
      refine Go.Sl.ow_nil ?_
      rotate_left
      · exact xw_round (j + 1) (by omega) (by omega) (by first | exact Go.Sl.Cov.refl _ | (intro p; simp only [List.flatten_cons, List.flatten_nil, List.flatten_append, List.append_nil, List.nil_append, Go.Sl.cnt_append, Go.Sl.cnt_cons, Go.Sl.cnt_nil, List.set_cons_zero, List.set_cons_succ, List.length_nil, List.length_cons, Nat.zero_add, List.append]; omega)) ⟨by rw [hes, hc41, decide_eq_true hc47]; rfl, (by repeat (first | exact True.intro | refine And.intro rfl ?_))⟩
      · exact xw_round (j + 1) (by omega) (by omega) (by first | exact Go.Sl.Cov.refl _ | (intro p; simp only [List.flatten_cons, List.flatten_nil, List.flatten_append, List.append_nil, List.nil_append, Go.Sl.cnt_append, Go.Sl.cnt_cons, Go.Sl.cnt_nil, List.set_cons_zero, List.set_cons_succ, List.length_nil, List.length_cons, Nat.zero_add, List.append]; omega)) ⟨by rw [hes, hc41, decide_eq_false hc47]; rfl, (by repeat (first | exact True.intro | refine And.intro rfl ?_))⟩
      · exact xw_round (j + 1) (by omega) (by omega) (by first | exact Go.Sl.Cov.refl _ | (intro p; simp only [List.flatten_cons, List.flatten_nil, List.flatten_append, List.append_nil, List.nil_append, Go.Sl.cnt_append, Go.Sl.cnt_cons, Go.Sl.cnt_nil, List.set_cons_zero, List.set_cons_succ, List.length_nil, List.length_cons, Nat.zero_add, List.append]; omega)) ⟨by rw [hes, hc41]; rfl, (by repeat (first | exact True.intro | refine And.intro rfl ?_))⟩
    · have hx : l.take j = l := List.take_of_length_le (by omega)
      rw [hx]
      obtain ⟨g1, g2, g3⟩ := addE_spec hg hr
      obtain ⟨k1, k2, k3⟩ := cutE_spec g1 hr
      have hcv := covers_add hg hr
      have hcn := cnt_addE hg hr
      have hw1 : (⟨1000, addE l r⟩ : SetM).WF := ⟨g1, by dsimp only; omega, by dsimp only; omega⟩
      have hw2 : (⟨1000, cutE (addE l r) r⟩ : SetM).WF := ⟨k1, by dsimp only; omega, by dsimp only; omega⟩
      refine Go.Sl.cw_seq ?_
      refine Go.Sl.cw_region ?_
      refine Go.Sl.ow_val rfl rfl (Go.Sl.v_move rfl) ?_
      (refine Go.Sl.ow_call rfl rfl rfl rfl (setCopy_l hO (by repeat (first | exact Go.Sl.Sub.here | assumption | refine Go.Sl.Sub.there ?_)) hw) ?_; rintro _ _ ⟨x57, rfl, hq57, rfl⟩)
      refine Go.Sl.ow_val rfl rfl (Go.Sl.v_assign rfl) ?_
      refine Go.Sl.ow_nil ?_
      refine Go.Sl.xw_then ?_
      have hcov : ∀ {G : List Hp} {c' : Hp}, SetAt ⟨1000, addE l r⟩ x57.1 c' → Sub c' G → Go.Sl.Fn Try.prog 22 #[.pointer (some ⟨x57.1, 0, none⟩), enR.val r] B w0 G fun u G' => u = .bool true ∧ G' = G := fun hO hs => by
        have h := setCovers_l (B := B) (w0 := w0) (r := r) hO hs hw1
        rw [hcv] at h
        exact h
      refine Go.Sl.cw_seq ?_
      refine Go.Sl.cw_seq ?_
      refine Go.Sl.cw_region ?_
      refine Go.Sl.ow_val rfl rfl (Go.Sl.v_move rfl) ?_
      refine Go.Sl.ow_val rfl rfl (Go.Sl.v_load rfl (Go.Sl.Var.atN Ty.ag28 (.there (.there (.there .here))) Go.Sl.GetN.all (by first | rfl | assumption))) ?_
      (refine Go.Sl.ow_call rfl rfl rfl rfl (setAddOk_l (by repeat (first | exact Go.Sl.Sel.here | apply Go.Sl.Sel.there)) hq57 hw hr (by omega)) ?_; rintro _ _ ⟨x60, rfl, hq60, rfl⟩)
      refine Go.Sl.ow_val rfl rfl (Go.Sl.v_neq rfl rfl) ?_
      refine Go.Sl.ow_val rfl rfl (Go.Sl.v_move rfl) ?_
      refine Go.Sl.ow_dec 62 rfl (fun hc62 => ?_) (fun hc62 => ?_)
      (exfalso; omega)
      refine Go.Sl.ow_val rfl rfl (Go.Sl.v_move rfl) ?_
      refine Go.Sl.ow_val rfl rfl (Go.Sl.v_load rfl (Go.Sl.Var.atN Ty.ag28 (.there (.there (.there .here))) Go.Sl.GetN.all (by first | rfl | assumption))) ?_
      refine Go.Sl.ow_val rfl rfl (Go.Sl.v_call rfl rfl (hcov hq60 (by repeat (first | exact Go.Sl.Sub.here | assumption | refine Go.Sl.Sub.there ?_)))) ?_
      refine Go.Sl.ow_val rfl rfl (Go.Sl.v_not_true rfl) ?_
      refine Go.Sl.ow_val rfl rfl (Go.Sl.v_pick_false rfl rfl) ?_
      refine Go.Sl.ow_val rfl rfl (Go.Sl.v_move rfl) ?_
      refine Go.Sl.ow_val rfl rfl (Go.Sl.v_move rfl) ?_
      refine Go.Sl.ow_val rfl rfl (Go.Sl.v_call rfl rfl (setCount_l hq60 (by repeat (first | exact Go.Sl.Sub.here | assumption | refine Go.Sl.Sub.there ?_)) hw1)) ?_
      refine Go.Sl.ow_val rfl rfl (Go.Sl.v_move rfl) ?_
      refine Go.Sl.ow_val rfl rfl (Go.Sl.v_call rfl rfl (setCount_l hO (by repeat (first | exact Go.Sl.Sub.here | assumption | refine Go.Sl.Sub.there ?_)) hw)) ?_
      refine Go.Sl.ow_val rfl rfl (Go.Sl.v_lss rfl rfl) ?_
      refine Go.Sl.ow_val rfl rfl (Go.Sl.v_pick_false rfl rfl) ?_
      refine Go.Sl.ow_nil ?_
      refine Go.Sl.xw_then ?_
      refine Go.Sl.cw_dec rfl (fun hc74 => ?_) (fun hc74 => ?_)
      (exfalso; omega)
      refine Go.Sl.cw_skip ?_
      refine Go.Sl.xw_then ?_
      refine Go.Sl.cw_seq ?_
      refine Go.Sl.cw_seq ?_
      refine Go.Sl.cw_region ?_
      refine Go.Sl.ow_val rfl rfl (Go.Sl.v_move rfl) ?_
      refine Go.Sl.ow_val rfl rfl (Go.Sl.v_load rfl (Go.Sl.Var.atN Ty.ag28 (.there (.there (.there .here))) Go.Sl.GetN.all (by first | rfl | assumption))) ?_
      (refine Go.Sl.ow_call rfl rfl rfl rfl (setCutOk_l (by repeat (first | exact Go.Sl.Sel.here | apply Go.Sl.Sel.there)) hq60 hw1 hr (by omega)) ?_; rintro _ _ ⟨x77, rfl, hq77, rfl⟩)
      refine Go.Sl.ow_val rfl rfl (Go.Sl.v_neq rfl rfl) ?_
      refine Go.Sl.ow_nil ?_
      refine Go.Sl.xw_then ?_
      refine Go.Sl.cw_false rfl ?_
      refine Go.Sl.cw_skip ?_
      refine Go.Sl.xw_then ?_
      refine Go.Sl.cw_seq ?_
      refine Go.Sl.cw_seq ?_
      refine Go.Sl.cw_region ?_
      refine Go.Sl.ow_val rfl rfl (Go.Sl.v_fieldAddr0 Ty.fd28_0 rfl) ?_
      refine Go.Sl.ow_val rfl rfl (Go.Sl.v_load rfl (Go.Sl.Var.at1 Ty.sc23 (.there (.there (.there .here))) (Go.Sl.GetN.lit rfl))) ?_
      refine Go.Sl.ow_val rfl rfl (Go.Sl.v_fieldAddr0 Ty.fd28_1 rfl) ?_
      refine Go.Sl.ow_val rfl rfl (Go.Sl.v_load rfl (Go.Sl.Var.at1 Ty.sc23 (.there (.there (.there .here))) (Go.Sl.GetN.lit rfl))) ?_
      refine Go.Sl.ow_val rfl rfl (Go.Sl.v_lss rfl rfl) ?_
      refine Go.Sl.ow_val rfl rfl (Go.Sl.v_move rfl) ?_
      refine Go.Sl.ow_dec 84 rfl (fun hc84 => ?_) (fun hc84 => ?_)
      refine Go.Sl.ow_val rfl rfl (Go.Sl.v_move rfl) ?_
      refine Go.Sl.ow_val rfl rfl (Go.Sl.v_fieldAddr0 Ty.fd28_0 rfl) ?_
      refine Go.Sl.ow_val rfl rfl (Go.Sl.v_load rfl (Go.Sl.Var.at1 Ty.sc23 (.there (.there (.there .here))) (Go.Sl.GetN.lit rfl))) ?_
      refine Go.Sl.ow_val rfl rfl (Go.Sl.v_call rfl rfl (setHas_l hq77 (by repeat (first | exact Go.Sl.Sub.here | assumption | refine Go.Sl.Sub.there ?_)) hw2)) ?_
      refine Go.Sl.ow_val rfl rfl (Go.Sl.v_move rfl) ?_
      refine Go.Sl.ow_bool 89 rfl (fun hc89 => ?_) (fun hc89 => ?_)
      refine Go.Sl.ow_skip rfl rfl ?_
      refine Go.Sl.ow_skip rfl rfl ?_
      refine Go.Sl.ow_skip rfl rfl ?_
      refine Go.Sl.ow_skip rfl rfl ?_
      refine Go.Sl.ow_skip rfl rfl ?_
      refine Go.Sl.ow_val rfl rfl (Go.Sl.v_pick_true rfl rfl) ?_
      refine Go.Sl.ow_val rfl rfl (Go.Sl.v_pick_true rfl rfl) ?_
      refine Go.Sl.ow_nil ?_
      refine Go.Sl.xw_then ?_
      refine Go.Sl.cw_true rfl ?_
      refine Go.Sl.cw_seq ?_
      refine Go.Sl.cw_region ?_
      refine Go.Sl.ow_val rfl rfl (Go.Sl.v_assign rfl) ?_
      refine Go.Sl.ow_nil ?_
      refine Go.Sl.xw_then ?_
      refine Go.Sl.cw_ret ?_
      refine Go.Sl.xw_then_ret ?_
      refine Go.Sl.ret1 rfl (Go.Sl.res_tmp rfl) ?_
      rotate_left
      refine Go.Sl.ow_val rfl rfl (Go.Sl.v_move rfl) ?_
      refine Go.Sl.ow_val rfl rfl (Go.Sl.v_fieldAddr0 Ty.fd28_1 rfl) ?_
      refine Go.Sl.ow_val rfl rfl (Go.Sl.v_load rfl (Go.Sl.Var.at1 Ty.sc23 (.there (.there (.there .here))) (Go.Sl.GetN.lit rfl))) ?_
      refine Go.Sl.ow_val rfl rfl (Go.Sl.v_sub rfl rfl rfl) ?_
      refine Go.Sl.ow_val rfl rfl (Go.Sl.v_call rfl rfl (setHas_l hq77 (by repeat (first | exact Go.Sl.Sub.here | assumption | refine Go.Sl.Sub.there ?_)) hw2)) ?_
      refine Go.Sl.ow_val rfl rfl (Go.Sl.v_pick_false rfl rfl) ?_
      refine Go.Sl.ow_val rfl rfl (Go.Sl.v_pick_true rfl rfl) ?_
      refine Go.Sl.ow_nil ?_
      refine Go.Sl.xw_then ?_
      refine Go.Sl.cw_bool rfl (fun hc96 => ?_) (fun hc96 => ?_)
      refine Go.Sl.cw_seq ?_
      refine Go.Sl.cw_region ?_
      refine Go.Sl.ow_val rfl rfl (Go.Sl.v_assign rfl) ?_
      refine Go.Sl.ow_nil ?_
      refine Go.Sl.xw_then ?_
      refine Go.Sl.cw_ret ?_
      refine Go.Sl.xw_then_ret ?_
      refine Go.Sl.ret1 rfl (Go.Sl.res_tmp rfl) ?_
      rotate_left
      refine Go.Sl.cw_skip ?_
      refine Go.Sl.xw_then ?_
      rotate_left
      refine Go.Sl.ow_skip rfl rfl ?_
      refine Go.Sl.ow_skip rfl rfl ?_
      refine Go.Sl.ow_skip rfl rfl ?_
      refine Go.Sl.ow_skip rfl rfl ?_
      refine Go.Sl.ow_skip rfl rfl ?_
      refine Go.Sl.ow_skip rfl rfl ?_
      refine Go.Sl.ow_skip rfl rfl ?_
      refine Go.Sl.ow_skip rfl rfl ?_
      refine Go.Sl.ow_skip rfl rfl ?_
      refine Go.Sl.ow_skip rfl rfl ?_
      refine Go.Sl.ow_skip rfl rfl ?_
      refine Go.Sl.ow_val rfl rfl (Go.Sl.v_pick_false rfl rfl) ?_
      refine Go.Sl.ow_nil ?_
      refine Go.Sl.xw_then ?_
      refine Go.Sl.cw_false rfl ?_
      refine Go.Sl.cw_skip ?_
      refine Go.Sl.xw_then ?_
      rotate_left
      · have h1 := has_cut (n := r.a) g1 hr (by omega)
        rw [h1] at hc89
        cases hc89
      · have h1 := has_cut (n := r.b - 1) g1 hr (by omega)
        have h2 := hr.2
        have h3 := hr.1
        rw [Go.Sl.nw_u64 (by omega) (by omega), h1] at hc96
        cases hc96
      · refine Go.Sl.cw_seq ?_
        refine Go.Sl.cw_seq ?_
        refine Go.Sl.cw_region ?_
        refine Go.Sl.ow_val rfl rfl (Go.Sl.v_move rfl) ?_
        refine Go.Sl.ow_val rfl rfl (Go.Sl.v_not_bool rfl) ?_
        refine Go.Sl.ow_val rfl rfl (Go.Sl.v_move rfl) ?_
        refine Go.Sl.ow_bool 99 rfl (fun hc99 => ?_) (fun hc99 => ?_)
        refine Go.Sl.ow_skip rfl rfl ?_
        refine Go.Sl.ow_skip rfl rfl ?_
        refine Go.Sl.ow_skip rfl rfl ?_
        refine Go.Sl.ow_skip rfl rfl ?_
        refine Go.Sl.ow_skip rfl rfl ?_
        refine Go.Sl.ow_val rfl rfl (Go.Sl.v_pick_true rfl rfl) ?_
        refine Go.Sl.ow_nil ?_
        refine Go.Sl.xw_then ?_
        refine Go.Sl.cw_true rfl ?_
        refine Go.Sl.cw_seq ?_
        refine Go.Sl.cw_region ?_
        refine Go.Sl.ow_val rfl rfl (Go.Sl.v_assign rfl) ?_
        refine Go.Sl.ow_nil ?_
        refine Go.Sl.xw_then ?_
        refine Go.Sl.cw_ret ?_
        refine Go.Sl.xw_then_ret ?_
        refine Go.Sl.ret1 rfl (Go.Sl.res_tmp rfl) ?_
        rotate_left
        refine Go.Sl.ow_val rfl rfl (Go.Sl.v_fieldAddr0 Ty.fd28_0 rfl) ?_
        refine Go.Sl.ow_val rfl rfl (Go.Sl.v_load rfl (Go.Sl.Var.at1 Ty.sc23 (.there (.there (.there .here))) (Go.Sl.GetN.lit rfl))) ?_
        refine Go.Sl.ow_val rfl rfl (Go.Sl.v_fieldAddr0 Ty.fd28_1 rfl) ?_
        refine Go.Sl.ow_val rfl rfl (Go.Sl.v_load rfl (Go.Sl.Var.at1 Ty.sc23 (.there (.there (.there .here))) (Go.Sl.GetN.lit rfl))) ?_
        refine Go.Sl.ow_val rfl rfl (Go.Sl.v_geq rfl rfl) ?_
        refine Go.Sl.ow_val rfl rfl (Go.Sl.v_pick_false rfl rfl) ?_
        refine Go.Sl.ow_nil ?_
        refine Go.Sl.xw_then ?_
        refine Go.Sl.cw_dec rfl (fun hc105 => ?_) (fun hc105 => ?_)
        (exfalso; omega)
        refine Go.Sl.cw_skip ?_
        refine Go.Sl.xw_then ?_
        rotate_left
        all_goals first
          | exact done0 rfl (by first | exact Go.Sl.Cov.refl _ | (intro p; simp only [List.flatten_cons, List.flatten_nil, List.flatten_append, List.append_nil, List.nil_append, Go.Sl.cnt_append, Go.Sl.cnt_cons, Go.Sl.cnt_nil, List.set_cons_zero, List.set_cons_succ, List.length_nil, List.length_cons, Nat.zero_add, List.append]; omega))
          | skip
        have hemp : emp r l = true := nb2 hc99
        have heq := again hg hr hc84 hemp
        rw [heq] at hq77
        refine Go.Sl.cw_seq ?_
        refine Go.Sl.cw_region ?_
        refine Go.Sl.ow_val rfl rfl (Go.Sl.v_move rfl) ?_
        (refine Go.Sl.ow_call rfl rfl rfl rfl (setList_l hq77 (by repeat (first | exact Go.Sl.Sub.here | assumption | refine Go.Sl.Sub.there ?_)) hw) ?_; rintro _ _ ⟨x107, rfl, hq107, rfl⟩)
        refine Go.Sl.ow_val rfl rfl (Go.Sl.v_assign rfl) ?_
        refine Go.Sl.ow_nil ?_
        refine Go.Sl.xw_then ?_
        refine Go.Sl.cw_seq ?_
        refine Go.Sl.cw_seq ?_
        refine Go.Sl.cw_region ?_
        refine Go.Sl.ow_val rfl rfl (Go.Sl.v_move rfl) ?_
        refine Go.Sl.ow_val rfl rfl (Go.Sl.v_len rfl Try.underlying34 rfl) ?_
        refine Go.Sl.ow_val rfl rfl (Go.Sl.v_move rfl) ?_
        refine Go.Sl.ow_val rfl rfl (Go.Sl.v_len rfl Try.underlying34 rfl) ?_
        refine Go.Sl.ow_val rfl rfl (Go.Sl.v_neq rfl rfl) ?_
        refine Go.Sl.ow_nil ?_
        refine Go.Sl.xw_then ?_
        refine Go.Sl.cw_dec rfl (fun hc112 => ?_) (fun hc112 => ?_)
        (exfalso; omega)
        refine Go.Sl.cw_skip ?_
        refine Go.Sl.xw_then ?_
        refine Go.Sl.cw_seq ?_
        refine Go.Sl.cw_seq ?_
        refine Go.Sl.cw_region ?_
        refine Go.Sl.ow_val rfl rfl (Go.Sl.v_move rfl) ?_
        refine Go.Sl.ow_val rfl rfl (Go.Sl.v_len rfl Try.underlying34 rfl) ?_
        refine Go.Sl.ow_val rfl rfl (Go.Sl.v_move rfl) ?_
        refine Go.Sl.ow_nil ?_
        refine Go.Sl.xw_then ?_
        refine Go.Sl.cw_block ?_
        refine Go.Sl.cw_loop2 (ι := (Nat)) [(8, _), (13, _), (114, _)] ⟨rfl, rfl, rfl, trivial⟩ ((fun i => [(115, .int .i64 i)])) ((fun i => i ≤ l.length)) ((fun i => l.length - i)) ((fun i => x107.2.2 :: x33.2.2 :: F)) (0) (by repeat (first | exact True.intro | refine And.intro rfl ?_)) (by first | exact Go.Sl.Cov.refl _ | (intro p; simp only [List.flatten_cons, List.flatten_nil, List.flatten_append, List.append_nil, List.nil_append, Go.Sl.cnt_append, Go.Sl.cnt_cons, Go.Sl.cnt_nil, List.set_cons_zero, List.set_cons_succ, List.length_nil, List.length_cons, Nat.zero_add, List.append]; omega)) ?_ ?_
        · exact Nat.zero_le _
        rintro i hi
        refine Go.Sl.cw_seq ?_
        refine Go.Sl.cw_region ?_
        refine Go.Sl.ow_val rfl rfl (Go.Sl.v_lss rfl rfl) ?_
        refine Go.Sl.ow_nil ?_
        refine Go.Sl.xw_then ?_
        refine Go.Sl.cw_seq ?_
        refine Go.Sl.cw_dec rfl (fun hc116 => ?_) (fun hc116 => ?_)
        refine Go.Sl.cw_skip ?_
        refine Go.Sl.xw_then ?_
        rotate_left
        refine Go.Sl.cw_exit ?_
        refine Go.Sl.xw_then_exit ?_
        refine Go.Sl.xw_round_exit ?_
        refine Go.Sl.xw_block_exit ?_
        refine Go.Sl.xw_then ?_
        refine Go.Sl.cw_seq ?_
        refine Go.Sl.cw_region ?_
        refine Go.Sl.ow_val rfl rfl (Go.Sl.v_assign rfl) ?_
        refine Go.Sl.ow_nil ?_
        refine Go.Sl.xw_then ?_
        refine Go.Sl.cw_ret ?_
        refine Go.Sl.ret1 rfl (Go.Sl.res_tmp rfl) ?_
        rotate_left
        · have hi3 : i < l.length := by omega
          have hoki := hq107.ok _ (List.getElem_mem hi3)
          refine Go.Sl.cw_seq ?_
          refine Go.Sl.cw_block ?_
          refine Go.Sl.cw_seq ?_
          refine Go.Sl.cw_region ?_
          refine Go.Sl.ow_val rfl rfl (Go.Sl.v_move rfl) ?_
          refine Go.Sl.ow_val rfl rfl (Go.Sl.v_assign rfl) ?_
          refine Go.Sl.ow_nil ?_
          refine Go.Sl.xw_then ?_
          refine Go.Sl.cw_seq ?_
          refine Go.Sl.cw_quiet Ty.mixed (by decide +kernel) ?_
          refine Go.Sl.kw_val rfl rfl (Go.Sl.v_move rfl) ?_
          refine Go.Sl.kw_val rfl rfl (Go.Sl.v_move rfl) ?_
          refine Go.Sl.kw_val rfl rfl (Go.Sl.v_indexAddr_ls Try.underlying34 (rTy) rfl rfl (by assumption) rfl (by omega)) ?_
          refine Go.Sl.kw_val rfl rfl (Go.Sl.v_load rfl (Go.Sl.Vw.var (rTy) ((hq107.vw (by repeat (first | exact Go.Sl.Sub.here | assumption | refine Go.Sl.Sub.there ?_)))) (by omega))) ?_
          refine Go.Sl.kw_val rfl rfl (Go.Sl.v_move rfl) ?_
          refine Go.Sl.kw_val rfl rfl (Go.Sl.v_move rfl) ?_
          refine Go.Sl.kw_val rfl rfl (Go.Sl.v_indexAddr_ls Try.underlying34 (rTy) rfl rfl (by assumption) rfl (by omega)) ?_
          refine Go.Sl.kw_val rfl rfl (Go.Sl.v_load rfl (Go.Sl.Vw.var (rTy) (Go.Sl.Ls.vw (by assumption) (by repeat (first | exact Go.Sl.Sub.here | assumption | refine Go.Sl.Sub.there ?_))) (by omega))) ?_
          refine Go.Sl.kw_val rfl rfl (Go.Sl.v_neqA rfl rfl Ty.gt28 (eqR)) ?_
          refine Go.Sl.kw_nil ?_
          refine Go.Sl.xw_then ?_
          refine Go.Sl.cw_dec rfl (fun hc126 => ?_) (fun hc126 => ?_)
          refine Go.Sl.cw_seq ?_
          refine Go.Sl.cw_region ?_
          refine Go.Sl.ow_val rfl rfl (Go.Sl.v_assign rfl) ?_
          refine Go.Sl.ow_nil ?_
          refine Go.Sl.xw_then ?_
          refine Go.Sl.cw_ret ?_
          refine Go.Sl.xw_block_ret ?_
          refine Go.Sl.xw_then_ret ?_
          refine Go.Sl.xw_round_ret ?_
          refine Go.Sl.xw_block_ret ?_
          refine Go.Sl.xw_then_ret ?_
          refine Go.Sl.ret1 rfl (Go.Sl.res_tmp rfl) ?_
          rotate_left
          refine Go.Sl.cw_skip ?_
          refine Go.Sl.xw_block ?_
          refine Go.Sl.xw_then ?_
          refine Go.Sl.cw_region ?_
          refine Go.Sl.ow_val rfl rfl (Go.Sl.v_add rfl rfl (Go.Sl.nw_i64 (by omega) (by omega))) ?_
          refine Go.Sl.ow_val rfl rfl (Go.Sl.v_move rfl) ?_
          refine Go.Sl.ow_nil ?_
          rotate_left
          all_goals first
            | exact absurd rfl hc126
            | exact xw_round (i + 1) (by omega) (by omega) (by first | exact Go.Sl.Cov.refl _ | (intro p; simp only [List.flatten_cons, List.flatten_nil, List.flatten_append, List.append_nil, List.nil_append, Go.Sl.cnt_append, Go.Sl.cnt_cons, Go.Sl.cnt_nil, List.set_cons_zero, List.set_cons_succ, List.length_nil, List.length_cons, Nat.zero_add, List.append]; omega)) (by repeat (first | exact True.intro | refine And.intro rfl ?_))
        · exact done0 rfl (by first | exact Go.Sl.Cov.refl _ | (intro p; simp only [List.flatten_cons, List.flatten_nil, List.flatten_append, List.append_nil, List.nil_append, Go.Sl.cnt_append, Go.Sl.cnt_cons, Go.Sl.cnt_nil, List.set_cons_zero, List.set_cons_succ, List.length_nil, List.length_cons, Nat.zero_add, List.append]; omega))
      · refine Go.Sl.cw_seq ?_
        refine Go.Sl.cw_seq ?_
        refine Go.Sl.cw_region ?_
        refine Go.Sl.ow_val rfl rfl (Go.Sl.v_move rfl) ?_
        refine Go.Sl.ow_val rfl rfl (Go.Sl.v_not_bool rfl) ?_
        refine Go.Sl.ow_val rfl rfl (Go.Sl.v_move rfl) ?_
        refine Go.Sl.ow_bool 99 rfl (fun hc99 => ?_) (fun hc99 => ?_)
        refine Go.Sl.ow_skip rfl rfl ?_
        refine Go.Sl.ow_skip rfl rfl ?_
        refine Go.Sl.ow_skip rfl rfl ?_
        refine Go.Sl.ow_skip rfl rfl ?_
        refine Go.Sl.ow_skip rfl rfl ?_
        refine Go.Sl.ow_val rfl rfl (Go.Sl.v_pick_true rfl rfl) ?_
        refine Go.Sl.ow_nil ?_
        refine Go.Sl.xw_then ?_
        refine Go.Sl.cw_true rfl ?_
        refine Go.Sl.cw_seq ?_
        refine Go.Sl.cw_region ?_
        refine Go.Sl.ow_val rfl rfl (Go.Sl.v_assign rfl) ?_
        refine Go.Sl.ow_nil ?_
        refine Go.Sl.xw_then ?_
        refine Go.Sl.cw_ret ?_
        refine Go.Sl.xw_then_ret ?_
        refine Go.Sl.ret1 rfl (Go.Sl.res_tmp rfl) ?_
        rotate_left
        refine Go.Sl.ow_val rfl rfl (Go.Sl.v_fieldAddr0 Ty.fd28_0 rfl) ?_
        refine Go.Sl.ow_val rfl rfl (Go.Sl.v_load rfl (Go.Sl.Var.at1 Ty.sc23 (.there (.there (.there .here))) (Go.Sl.GetN.lit rfl))) ?_
        refine Go.Sl.ow_val rfl rfl (Go.Sl.v_fieldAddr0 Ty.fd28_1 rfl) ?_
        refine Go.Sl.ow_val rfl rfl (Go.Sl.v_load rfl (Go.Sl.Var.at1 Ty.sc23 (.there (.there (.there .here))) (Go.Sl.GetN.lit rfl))) ?_
        refine Go.Sl.ow_val rfl rfl (Go.Sl.v_geq rfl rfl) ?_
        refine Go.Sl.ow_val rfl rfl (Go.Sl.v_pick_false rfl rfl) ?_
        refine Go.Sl.ow_nil ?_
        refine Go.Sl.xw_then ?_
        refine Go.Sl.cw_dec rfl (fun hc105 => ?_) (fun hc105 => ?_)
        rotate_left; (exfalso; omega); rotate_right
        refine Go.Sl.cw_seq ?_
        refine Go.Sl.cw_region ?_
        refine Go.Sl.ow_val rfl rfl (Go.Sl.v_assign rfl) ?_
        refine Go.Sl.ow_nil ?_
        refine Go.Sl.xw_then ?_
        refine Go.Sl.cw_ret ?_
        refine Go.Sl.xw_then_ret ?_
        refine Go.Sl.ret1 rfl (Go.Sl.res_tmp rfl) ?_
        rotate_left
        all_goals exact done0 rfl (by first | exact Go.Sl.Cov.refl _ | (intro p; simp only [List.flatten_cons, List.flatten_nil, List.flatten_append, List.append_nil, List.nil_append, Go.Sl.cnt_append, Go.Sl.cnt_cons, Go.Sl.cnt_nil, List.set_cons_zero, List.set_cons_succ, List.length_nil, List.length_cons, Nat.zero_add, List.append]; omega))

theorem walk {H : Type} {enc : TypeId × Value → H} (W : World) (base : Nat) (args : Array Value) (ds : List (DataW H)) (p : List MemPlace)
    (hval : ∀ (j : Nat) t v, Try.f4.params[j]? = some t → args[j]? = some v → Value.okWide Try.prog W .any base t v)
    (hA : DataW.TrodAll enc Try.prog W 0 (fun _ => true) true Try.f4.params.toList args.toList ds p) :
    Calls Try.prog 4 args W fun e w' => e = .returned (.bool true) ∧ Below W.heap.size W w' := by
  rw [Try.params4] at hA hval
  obtain ⟨v0, vs0, d0, ds0, p0, q0, hargs, rfl, rfl, h0, r0⟩ := trodAll_cons hA
  obtain ⟨v1, vs1, d1, ds1, p1, q1, rfl, rfl, rfl, h1, r1⟩ := trodAll_cons r0
  obtain ⟨rfl, rfl, rfl⟩ := trodAll_nil r1
  obtain rfl : args = #[v0, v1] := by cases args; simp_all
  obtain ⟨r, rfl, hr⟩ := open_rng (hval 1 28 v1 rfl rfl) h1
  obtain ⟨ao, len, cap, rfl⟩ := okWide_slice Try.underlying22 (hval 0 22 v0 rfl rfl)
  obtain ⟨fu, h0⟩ := h0
  obtain ⟨hlc, hm, f, hf, o⟩ := oldSl (size := 6) Try.underlying22 (by kernel_rfl) (by decide) h0 enAc.f enAc.ok (fun fuel cs y h => form_actR h)
  unfold maxLen at hm
  have hv := oldVw acTy o hf hlc
  have hlen : ((List.range len).map f).length = len := by simp
  have key := (law (r := r) hr (by rw [hlen]; omega) hv []).call
  rw [hlen] at key
  exact key

theorem own : ownKnob Try.prog.godebug = none := by kernel_rfl
theorem laidOut : laidOutB Try.prog = true := by kernel_rfl
theorem reads : ∀ t ∈ Try.f4.params.toList, Try.prog.readableRec t = true ∧ t < Try.prog.types.size := by
  rw [Try.params4]
  intro t ht
  simp only [List.mem_cons, List.not_mem_nil, or_false] at ht
  rcases ht with rfl | rfl
  · exact ⟨by kernel_rfl, of_decide_eq_true (by kernel_rfl)⟩
  · exact ⟨by kernel_rfl, of_decide_eq_true (by kernel_rfl)⟩

set_option maxRecDepth 100000 in
theorem lifted (os : Os) (started : os.Started) (H : Type) (enc : TypeId × Value → H) :
    ReturnsInHanded {} Try.checked os 4 .any (Rows.spanAsksSpec.pre6 enc Try.prog Try.f4 Rows.spanAsksRow.domain false) (Rows.spanAsksSpec.post enc Try.prog Try.f4 false true false false) := by
  refine returnsInHanded_of_change (C := Try.checked) own started (by kernel_rfl) Try.func4
    (ChangeSpec.witness6 (enc := enc) (C := Try.checked) false ⟨#[], #[.slice none 0 0, .agg #[.int .u64 0, .int .u64 0]], []⟩ 8 (by kernel_rfl) (by kernel_rfl) (by kernel_rfl) (by kernel_rfl)) ?_
  intro W base args ds gs before hval hW _ _
  have hW' := hW
  obtain ⟨p, q, hA0, hV, rfl, _, _⟩ := hW
  obtain ⟨rfl, rfl⟩ := trodVars_none hV
  have hA : DataW.TrodAll enc Try.prog W 0 (fun _ => true) true Try.f4.params.toList args.toList ds p := hA0
  have hlen := trodAll_len hA
  refine (walk W base args ds p hval hA).mono fun e W' ⟨he, bel⟩ => ?_
  subst he
  rw [Try.params4] at hlen
  match ds, hlen.2, hA, hW' with
  | [d0, d1], _, hA, hW' => exact ⟨_, rfl, _, _, _, [], _, [], hW', trodAll_mk1 (shut_bool Try.underlying4 _), trodAll_stays laidOut bel reads hA, rfl, bel.frame _, fun h => by cases h⟩

theorem over : Rows.spanAsksRow.holds Try.pinned (OpenSpec.ofChange Rows.spanAsksSpec) :=
  OpenClaim.holds_of_wide 4 Try.f4 rfl rfl rfl rfl rfl rfl rfl ⟨rfl, rfl, rfl, rfl, rfl⟩ rfl rfl rfl rfl rfl (by kernel_rfl) Try.func4 (by kernel_rfl)
    (of_decide_eq_true (by kernel_rfl)) (by unfold Func.isWrapper; first | (rw [if_pos (by decide +kernel)]; kernel_rfl) | (rw [if_neg (by decide +kernel)]; exact ⟨rfl, rfl⟩))
    (fun os started H enc _ => lifted os started H enc)

theorem proved : Rows.SpanAsksSaid := over

end Go.Proofs.Ytbpnnkkbaakdjaa.lawSpanAsks
