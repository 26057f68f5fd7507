/- The library's sort at lists of small numbers: the partitions. Conditions: lists are short. -/
import Derived.Test.YtckdhelnafjddaaSort
namespace Go.Proofs.Ytckdhelnafjddaa
open Go Go.Sl Go.Proofs
set_option maxRecDepth 20000
set_option linter.unusedVariables false
set_option linter.unusedSimpArgs false

set_option maxHeartbeats 8000000 in
theorem partK_c {B : Nat} {w0 : World} {G : List Hp} {R : Hp → List Hp} {ao : Option Addr} {n cap a b pv : Nat} {c : Hp} {d : Array Int} (hsel : Sel G c R) (hL : Ls enKd 59 (.slice ao n cap) c d.toList) (hap : a ≤ pv) (hpb : pv < b) (hb : b ≤ d.size) (hn : d.size ≤ 1000000) :
    Go.Sl.Fn Try.prog 118 #[.slice ao n cap, .int .i64 a, .int .i64 b, .int .i64 pv] B w0 G fun u G' => ∃ c' : Hp, u = .tuple #[.int .i64 (Sort.partition Sort.ltInt d a b pv).1, .bool (Sort.partition Sort.ltInt d a b pv).2.1] ∧ Ls enKd 59 (.slice ao n cap) c' (Sort.partition Sort.ltInt d a b pv).2.2.toList ∧ G' = R c' := by
  refine Fn.sel0 hsel fun F hR hF => ?_
  have hl := hL.len
  rw [Array.length_toList] at hl
  subst hl
  have hl0 : d.toList.length = d.size := Array.length_toList
  refine fn_enter Try.func118 rfl (by kernel_rfl) Try.ntmps118 (by simp) ?_
  refine cw_seq ?_
  refine cw_region ?_
  refine ow_val rfl rfl (v_assign rfl) ?_
  refine ow_val rfl rfl (v_assign rfl) ?_
  refine ow_nil ?_
  refine xw_then ?_
  refine cw_seq ?_
  refine cw_mix [] [13, 14, 15] [0, 1, 2, 3, 4, 5, 6, 7, 8, 9, 10, 11, 12] Ty.mixed rfl rfl rfl rfl (by decide +kernel) ?_
  refine hw_pure rfl rfl (v_move rfl) rfl ?_
  refine hw_pure rfl rfl (v_move rfl) rfl ?_
  refine hw_pure rfl rfl (v_move rfl) rfl ?_
  refine hw_pure rfl rfl (v_move rfl) rfl ?_
  refine hw_pure rfl rfl (v_move rfl) rfl ?_
  refine hw_pure rfl rfl (v_move rfl) rfl ?_
  refine hw_pure rfl rfl (v_indexAddr_ls Try.underlying99 (kdTy) rfl rfl (by assumption) rfl (by omega)) rfl ?_
  refine hw_read rfl rfl rfl (v_load rfl (Go.Sl.Vw.var (kdTy) ((hL.vw (by repeat (first | exact Sub.here | exact Sub.nil | assumption | refine Sub.there ?_)))) (by omega))) ?_
  refine hw_pure rfl rfl (v_move rfl) rfl ?_
  refine hw_pure rfl rfl (v_move rfl) rfl ?_
  refine hw_pure rfl rfl (v_indexAddr_ls Try.underlying99 (kdTy) rfl rfl (by assumption) rfl (by omega)) rfl ?_
  refine hw_read rfl rfl rfl (v_load rfl (Go.Sl.Vw.var (kdTy) ((hL.vw (by repeat (first | exact Sub.here | exact Sub.nil | assumption | refine Sub.there ?_)))) (by omega))) ?_
  refine hw_pure rfl rfl (v_indexAddr_ls Try.underlying99 (kdTy) rfl rfl (by assumption) rfl (by omega)) rfl ?_
  refine hw_nil ?_
  refine sw_nil ?_
  refine ow_storeL (i := a) (a := d.toList[pv]'(by omega)) rfl rfl rfl kdTy hL (by repeat (first | exact Sel.here | apply Sel.there)) (by omega) (hL.ok _ (List.getElem_mem _)) ?_
  intro csa hLsa
  have hlsa : (d.toList.set a (d.toList[pv]'(by omega))).length = d.toList.length := List.length_set
  refine ow_val rfl rfl (v_indexAddr_ls Try.underlying99 (kdTy) rfl rfl (by assumption) rfl (by omega)) ?_
  refine ow_storeL (i := pv) (a := d.toList[a]'(by omega)) rfl rfl rfl kdTy hLsa (by repeat (first | exact Sel.here | apply Sel.there)) (by rw [List.length_set]; omega) (hL.ok _ (List.getElem_mem _)) ?_
  intro cs hLs
  rw [swpL (i' := a) (j' := pv) (bangD _ (by omega)) (bangD _ (by omega)) (by omega) (by omega)] at hLs
  have hsz1 : (Sort.swp d a pv).size = d.size := swp_sz
  have hpq := fun i j => part_eq (d := d) (a := a) (b := b) (pivot := pv) (i := i) (j := j) rfl
  generalize Sort.swp d a pv = d1 at *
  have hl1 : d1.toList.length = d.size := by rw [Array.length_toList]; exact hsz1
  refine ow_nil ?_
  refine xw_np ?_
  refine xw_then ?_
  refine cw_seq ?_
  refine cw_region ?_
  refine ow_val rfl rfl (v_move rfl) ?_
  refine ow_val rfl rfl (v_add rfl rfl (nw_i64 (by omega) (by omega))) ?_
  refine ow_val rfl rfl (v_move rfl) ?_
  refine ow_val rfl rfl (v_sub rfl rfl (nw_i64 (by omega) (by omega))) ?_
  refine ow_val rfl rfl (v_assign rfl) ?_
  refine ow_val rfl rfl (v_assign rfl) ?_
  refine ow_nil ?_
  refine xw_then ?_
  rw [show (b : Int) - 1 = ((b - 1 : Nat) : Int) by omega]
  refine cw_cut2 (ι := (Nat)) [(0, _), (1, _), (3, _), (8, _), (9, _), (11, _)] ⟨rfl, rfl, rfl, rfl, rfl, rfl, trivial⟩ ((fun i => [(10, .int .i64 i)])) ((fun i => a + 1 ≤ i ∧ i ≤ max (a + 1) (b - 1 + 1) ∧ Sort.scanUp (fun x => Sort.ltInt x d1[a]!) d1 (b - 1) (a + 1) = i)) ((fun _ => cs :: F)) ?_ ?_
  · refine cw_block ?_
    refine cw_loop2 (ι := (Nat)) [(0, _), (1, _), (3, _), (8, _), (9, _), (11, _)] ⟨rfl, rfl, rfl, rfl, rfl, rfl, trivial⟩ ((fun i => [(10, .int .i64 i)])) ((fun i => a + 1 ≤ i ∧ i ≤ max (a + 1) (b - 1 + 1) ∧ Sort.scanUp (fun x => Sort.ltInt x d1[a]!) d1 (b - 1) i = Sort.scanUp (fun x => Sort.ltInt x d1[a]!) d1 (b - 1) (a + 1))) ((fun i => b - 1 + 1 - i)) ((fun _ => cs :: F)) ((a + 1 : Nat)) (by repeat (first | exact True.intro | refine And.intro rfl ?_)) (by first | exact Cov.refl _ | (intro p; simp only [List.flatten_cons, List.flatten_nil, List.flatten_append, List.append_nil, List.nil_append, cnt_append, cnt_cons, cnt_nil, List.set_cons_zero, List.set_cons_succ, List.length_nil, List.length_cons, Nat.zero_add, List.append]; omega)) ?_ ?_
    · exact ⟨Nat.le_refl _, by omega, rfl⟩
    rintro i ⟨hi1, hi2, hi3⟩
    refine cw_seq ?_
    refine cw_seq ?_
    refine cw_quiet Ty.mixed (by decide +kernel) ?_
    refine kw_val rfl rfl (v_move rfl) ?_
    refine kw_val rfl rfl (v_move rfl) ?_
    refine kw_val rfl rfl (v_leq rfl rfl) ?_
    refine kw_val rfl rfl (v_move rfl) ?_
    refine kw_dec 33 rfl (fun hc33 => ?_) (fun hc33 => ?_)
    refine kw_val rfl rfl (v_move rfl) ?_
    refine kw_val rfl rfl (v_move rfl) ?_
    refine kw_val rfl rfl (v_indexAddr_ls Try.underlying99 (kdTy) rfl rfl (by assumption) rfl (by omega)) ?_
    refine kw_val rfl rfl (v_load rfl (Go.Sl.Vw.var (kdTy) ((hLs.vw (by repeat (first | exact Sub.here | exact Sub.nil | assumption | refine Sub.there ?_)))) (by omega))) ?_
    refine kw_val rfl rfl (v_move rfl) ?_
    refine kw_val rfl rfl (v_move rfl) ?_
    refine kw_val rfl rfl (v_indexAddr_ls Try.underlying99 (kdTy) rfl rfl (by assumption) rfl (by omega)) ?_
    refine kw_val rfl rfl (v_load rfl (Go.Sl.Vw.var (kdTy) ((hLs.vw (by repeat (first | exact Sub.here | exact Sub.nil | assumption | refine Sub.there ?_)))) (by omega))) ?_
    refine kw_val rfl rfl (v_call rfl rfl (lessK_c)) ?_
    refine kw_val rfl rfl (v_pick_true rfl rfl) ?_
    refine kw_nil ?_
    refine xw_then ?_
    refine cw_dec rfl (fun hc43 => ?_) (fun hc43 => ?_)
    refine cw_skip ?_
    refine xw_then ?_
    refine cw_block ?_
    refine cw_region ?_
    refine ow_val rfl rfl (v_move rfl) ?_
    refine ow_val rfl rfl (v_add rfl rfl (nw_i64 (by omega) (by omega))) ?_
    refine ow_val rfl rfl (v_assign rfl) ?_
    refine ow_nil ?_
    refine xw_block ?_
    rotate_left
    refine cw_exit ?_
    refine xw_then_exit ?_
    refine xw_round_exit ?_
    refine xw_block_exit ?_
    rotate_left
    refine kw_skip rfl rfl ?_
    refine kw_skip rfl rfl ?_
    refine kw_skip rfl rfl ?_
    refine kw_skip rfl rfl ?_
    refine kw_skip rfl rfl ?_
    refine kw_skip rfl rfl ?_
    refine kw_skip rfl rfl ?_
    refine kw_skip rfl rfl ?_
    refine kw_skip rfl rfl ?_
    refine kw_val rfl rfl (v_pick_false rfl rfl) ?_
    refine kw_nil ?_
    refine xw_then ?_
    refine cw_false rfl ?_
    refine cw_exit ?_
    refine xw_then_exit ?_
    refine xw_round_exit ?_
    refine xw_block_exit ?_
    rotate_left
    · rw [bangD (i := i) _ rfl, bangD (i := a) _ rfl] at hc43
      exact xw_round (i + 1) ⟨by omega, by omega, by rw [← hi3]; exact (scanUp_go (by omega) (by simpa [Sort.ltInt] using hc43)).symm⟩ (by omega) (by first | exact Cov.refl _ | (intro p; simp only [List.flatten_cons, List.flatten_nil, List.flatten_append, List.append_nil, List.nil_append, cnt_append, cnt_cons, cnt_nil, List.set_cons_zero, List.set_cons_succ, List.length_nil, List.length_cons, Nat.zero_add, List.append]; omega)) (by repeat (first | exact True.intro | refine And.intro rfl ?_))
    · rw [bangD (i := i) _ rfl, bangD (i := a) _ rfl] at hc43
      exact xw_joint i ⟨hi1, hi2, by rw [← hi3]; exact scanUp_stop (fun h => hc43 (by simpa [Sort.ltInt] using h.2))⟩ (by first | exact Cov.refl _ | (intro p; simp only [List.flatten_cons, List.flatten_nil, List.flatten_append, List.append_nil, List.nil_append, cnt_append, cnt_cons, cnt_nil, List.set_cons_zero, List.set_cons_succ, List.length_nil, List.length_cons, Nat.zero_add, List.append]; omega)) (by repeat (first | exact True.intro | refine And.intro rfl ?_))
    · exact xw_joint i ⟨hi1, hi2, by rw [← hi3]; exact scanUp_stop (fun h => by have := h.1; omega)⟩ (by first | exact Cov.refl _ | (intro p; simp only [List.flatten_cons, List.flatten_nil, List.flatten_append, List.append_nil, List.nil_append, cnt_append, cnt_cons, cnt_nil, List.set_cons_zero, List.set_cons_succ, List.length_nil, List.length_cons, Nat.zero_add, List.append]; omega)) (by repeat (first | exact True.intro | refine And.intro rfl ?_))
  rintro i ⟨hi1, hi2, hi3⟩
  refine cw_cut2 (ι := (Nat)) [(0, _), (1, _), (3, _), (8, _), (9, _), (10, _)] ⟨rfl, rfl, rfl, rfl, rfl, rfl, trivial⟩ ((fun j => [(11, .int .i64 j)])) ((fun j => j ≤ b - 1 ∧ (i ≤ j + 1 ∨ j = b - 1) ∧ Sort.scanDown (fun x => !Sort.ltInt x d1[a]!) d1 i (b - 1) = j)) ((fun _ => cs :: F)) ?_ ?_
  · refine cw_block ?_
    refine cw_loop2 (ι := (Nat)) [(0, _), (1, _), (3, _), (8, _), (9, _), (10, _)] ⟨rfl, rfl, rfl, rfl, rfl, rfl, trivial⟩ ((fun j => [(11, .int .i64 j)])) ((fun j => j ≤ b - 1 ∧ (i ≤ j + 1 ∨ j = b - 1) ∧ Sort.scanDown (fun x => !Sort.ltInt x d1[a]!) d1 i j = Sort.scanDown (fun x => !Sort.ltInt x d1[a]!) d1 i (b - 1))) ((fun j => j)) ((fun _ => cs :: F)) ((b - 1 : Nat)) (by repeat (first | exact True.intro | refine And.intro rfl ?_)) (by first | exact Cov.refl _ | (intro p; simp only [List.flatten_cons, List.flatten_nil, List.flatten_append, List.append_nil, List.nil_append, cnt_append, cnt_cons, cnt_nil, List.set_cons_zero, List.set_cons_succ, List.length_nil, List.length_cons, Nat.zero_add, List.append]; omega)) ?_ ?_
    · exact ⟨Nat.le_refl _, by omega, rfl⟩
    rintro j ⟨hj1, hj2, hj3⟩
    refine cw_seq ?_
    refine cw_seq ?_
    refine cw_quiet Ty.mixed (by decide +kernel) ?_
    refine kw_val rfl rfl (v_move rfl) ?_
    refine kw_val rfl rfl (v_move rfl) ?_
    refine kw_val rfl rfl (v_leq rfl rfl) ?_
    refine kw_val rfl rfl (v_move rfl) ?_
    refine kw_dec 49 rfl (fun hc49 => ?_) (fun hc49 => ?_)
    refine kw_val rfl rfl (v_move rfl) ?_
    refine kw_val rfl rfl (v_move rfl) ?_
    refine kw_val rfl rfl (v_indexAddr_ls Try.underlying99 (kdTy) rfl rfl (by assumption) rfl (by omega)) ?_
    refine kw_val rfl rfl (v_load rfl (Go.Sl.Vw.var (kdTy) ((hLs.vw (by repeat (first | exact Sub.here | exact Sub.nil | assumption | refine Sub.there ?_)))) (by omega))) ?_
    refine kw_val rfl rfl (v_move rfl) ?_
    refine kw_val rfl rfl (v_move rfl) ?_
    refine kw_val rfl rfl (v_indexAddr_ls Try.underlying99 (kdTy) rfl rfl (by assumption) rfl (by omega)) ?_
    refine kw_val rfl rfl (v_load rfl (Go.Sl.Vw.var (kdTy) ((hLs.vw (by repeat (first | exact Sub.here | exact Sub.nil | assumption | refine Sub.there ?_)))) (by omega))) ?_
    refine kw_val rfl rfl (v_call rfl rfl (lessK_c)) ?_
    refine kw_val rfl rfl (v_not rfl) ?_
    refine kw_val rfl rfl (v_pick_true rfl rfl) ?_
    refine kw_nil ?_
    refine xw_then ?_
    refine cw_dec rfl (fun hc60 => ?_) (fun hc60 => ?_)
    refine cw_skip ?_
    refine xw_then ?_
    refine cw_block ?_
    refine cw_region ?_
    refine ow_val rfl rfl (v_move rfl) ?_
    refine ow_val rfl rfl (v_sub rfl rfl (nw_i64 (by omega) (by omega))) ?_
    refine ow_val rfl rfl (v_assign rfl) ?_
    refine ow_nil ?_
    refine xw_block ?_
    rotate_left
    refine cw_exit ?_
    refine xw_then_exit ?_
    refine xw_round_exit ?_
    refine xw_block_exit ?_
    rotate_left
    refine kw_skip rfl rfl ?_
    refine kw_skip rfl rfl ?_
    refine kw_skip rfl rfl ?_
    refine kw_skip rfl rfl ?_
    refine kw_skip rfl rfl ?_
    refine kw_skip rfl rfl ?_
    refine kw_skip rfl rfl ?_
    refine kw_skip rfl rfl ?_
    refine kw_skip rfl rfl ?_
    refine kw_skip rfl rfl ?_
    refine kw_val rfl rfl (v_pick_false rfl rfl) ?_
    refine kw_nil ?_
    refine xw_then ?_
    refine cw_false rfl ?_
    refine cw_exit ?_
    refine xw_then_exit ?_
    refine xw_round_exit ?_
    refine xw_block_exit ?_
    rotate_left
    · rw [bangD (i := j) _ rfl, bangD (i := a) _ rfl] at hc60
      exact xw_round (j - 1) ⟨by omega, by omega, by rw [← hj3]; exact (scanDown_go (by omega) (by omega) (by simpa [Sort.ltInt] using hc60)).symm⟩ (by omega) (by first | exact Cov.refl _ | (intro p; simp only [List.flatten_cons, List.flatten_nil, List.flatten_append, List.append_nil, List.nil_append, cnt_append, cnt_cons, cnt_nil, List.set_cons_zero, List.set_cons_succ, List.length_nil, List.length_cons, Nat.zero_add, List.append]; omega)) (by repeat (first | exact True.intro | refine And.intro rfl ?_ | refine And.intro (congrArg (fun z : Int => some (Value.int IntKind.i64 z)) (by (try dsimp only); omega)) ?_))
    · rw [bangD (i := j) _ rfl, bangD (i := a) _ rfl] at hc60
      exact xw_joint j ⟨hj1, hj2, by rw [← hj3]; exact scanDown_stop (by omega) (fun h => hc60 (by simpa [Sort.ltInt] using h.2))⟩ (by first | exact Cov.refl _ | (intro p; simp only [List.flatten_cons, List.flatten_nil, List.flatten_append, List.append_nil, List.nil_append, cnt_append, cnt_cons, cnt_nil, List.set_cons_zero, List.set_cons_succ, List.length_nil, List.length_cons, Nat.zero_add, List.append]; omega)) (by repeat (first | exact True.intro | refine And.intro rfl ?_))
    · exact xw_joint j ⟨hj1, hj2, by rw [← hj3]; exact scanDown_stop (by omega) (fun h => by have := h.1; omega)⟩ (by first | exact Cov.refl _ | (intro p; simp only [List.flatten_cons, List.flatten_nil, List.flatten_append, List.append_nil, List.nil_append, cnt_append, cnt_cons, cnt_nil, List.set_cons_zero, List.set_cons_succ, List.length_nil, List.length_cons, Nat.zero_add, List.append]; omega)) (by repeat (first | exact True.intro | refine And.intro rfl ?_))
  rintro j ⟨hj1, hj2, hj3⟩
  rw [hpq i j hi3 hj3]
  refine cw_seq ?_
  refine cw_seq ?_
  refine cw_region ?_
  refine ow_val rfl rfl (v_move rfl) ?_
  refine ow_val rfl rfl (v_move rfl) ?_
  refine ow_val rfl rfl (v_gtr rfl rfl) ?_
  refine ow_nil ?_
  refine xw_then ?_
  refine cw_dec rfl (fun hc65 => ?_) (fun hc65 => ?_)
  rotate_left
  refine cw_skip ?_
  refine xw_then ?_
  rotate_left
  · rw [if_pos (by omega)]
    refine cw_seq ?_
    refine cw_mix [] [13, 14, 15] [0, 1, 2, 3, 4, 5, 6, 7, 8, 9, 10, 11, 12] Ty.mixed rfl rfl rfl rfl (by decide +kernel) ?_
    refine hw_pure rfl rfl (v_move rfl) rfl ?_
    refine hw_pure rfl rfl (v_move rfl) rfl ?_
    refine hw_pure rfl rfl (v_move rfl) rfl ?_
    refine hw_pure rfl rfl (v_move rfl) rfl ?_
    refine hw_pure rfl rfl (v_move rfl) rfl ?_
    refine hw_pure rfl rfl (v_move rfl) rfl ?_
    refine hw_pure rfl rfl (v_indexAddr_ls Try.underlying99 (kdTy) rfl rfl (by assumption) rfl (by omega)) rfl ?_
    refine hw_read rfl rfl rfl (v_load rfl (Go.Sl.Vw.var (kdTy) ((hLs.vw (by repeat (first | exact Sub.here | exact Sub.nil | assumption | refine Sub.there ?_)))) (by omega))) ?_
    refine hw_pure rfl rfl (v_move rfl) rfl ?_
    refine hw_pure rfl rfl (v_move rfl) rfl ?_
    refine hw_pure rfl rfl (v_indexAddr_ls Try.underlying99 (kdTy) rfl rfl (by assumption) rfl (by omega)) rfl ?_
    refine hw_read rfl rfl rfl (v_load rfl (Go.Sl.Vw.var (kdTy) ((hLs.vw (by repeat (first | exact Sub.here | exact Sub.nil | assumption | refine Sub.there ?_)))) (by omega))) ?_
    refine hw_pure rfl rfl (v_indexAddr_ls Try.underlying99 (kdTy) rfl rfl (by assumption) rfl (by omega)) rfl ?_
    refine hw_nil ?_
    refine sw_nil ?_
    refine ow_storeL (i := j) (a := d1.toList[a]'(by omega)) rfl rfl rfl kdTy hLs (by repeat (first | exact Sel.here | apply Sel.there)) (by omega) (hLs.ok _ (List.getElem_mem _)) ?_
    intro cta hLta
    have hlta : (d1.toList.set j (d1.toList[a]'(by omega))).length = d1.toList.length := List.length_set
    refine ow_val rfl rfl (v_indexAddr_ls Try.underlying99 (kdTy) rfl rfl (by assumption) rfl (by omega)) ?_
    refine ow_storeL (i := a) (a := d1.toList[j]'(by omega)) rfl rfl rfl kdTy hLta (by repeat (first | exact Sel.here | apply Sel.there)) (by rw [List.length_set]; omega) (hLs.ok _ (List.getElem_mem _)) ?_
    intro ct hLt
    rw [swpL (i' := j) (j' := a) (bangD _ (by omega)) (bangD _ (by omega)) (by omega) (by omega)] at hLt
    refine ow_nil ?_
    refine xw_np ?_
    refine xw_then ?_
    refine cw_seq ?_
    refine cw_region ?_
    refine ow_val rfl rfl (v_move rfl) ?_
    refine ow_val rfl rfl (v_assign rfl) ?_
    refine ow_val rfl rfl (v_assign rfl) ?_
    refine ow_nil ?_
    refine xw_then ?_
    refine cw_ret ?_
    refine xw_then_ret ?_
    refine ret2 rfl (res_tmp rfl) (res_tmp rfl) ?_
    exact ⟨ct, rfl, hLt, (by first | exact Cov.refl _ | (intro p; simp only [List.flatten_cons, List.flatten_nil, List.flatten_append, List.append_nil, List.nil_append, cnt_append, cnt_cons, cnt_nil, List.set_cons_zero, List.set_cons_succ, List.length_nil, List.length_cons, Nat.zero_add, List.append]; omega))⟩
  · rw [if_neg (by omega)]
    refine cw_seq ?_
    refine cw_mix [] [13, 14, 15] [0, 1, 2, 3, 4, 5, 6, 7, 8, 9, 10, 11, 12] Ty.mixed rfl rfl rfl rfl (by decide +kernel) ?_
    refine hw_pure rfl rfl (v_move rfl) rfl ?_
    refine hw_pure rfl rfl (v_move rfl) rfl ?_
    refine hw_pure rfl rfl (v_move rfl) rfl ?_
    refine hw_pure rfl rfl (v_move rfl) rfl ?_
    refine hw_pure rfl rfl (v_move rfl) rfl ?_
    refine hw_pure rfl rfl (v_move rfl) rfl ?_
    refine hw_pure rfl rfl (v_indexAddr_ls Try.underlying99 (kdTy) rfl rfl (by assumption) rfl (by omega)) rfl ?_
    refine hw_read rfl rfl rfl (v_load rfl (Go.Sl.Vw.var (kdTy) ((hLs.vw (by repeat (first | exact Sub.here | exact Sub.nil | assumption | refine Sub.there ?_)))) (by omega))) ?_
    refine hw_pure rfl rfl (v_move rfl) rfl ?_
    refine hw_pure rfl rfl (v_move rfl) rfl ?_
    refine hw_pure rfl rfl (v_indexAddr_ls Try.underlying99 (kdTy) rfl rfl (by assumption) rfl (by omega)) rfl ?_
    refine hw_read rfl rfl rfl (v_load rfl (Go.Sl.Vw.var (kdTy) ((hLs.vw (by repeat (first | exact Sub.here | exact Sub.nil | assumption | refine Sub.there ?_)))) (by omega))) ?_
    refine hw_pure rfl rfl (v_indexAddr_ls Try.underlying99 (kdTy) rfl rfl (by assumption) rfl (by omega)) rfl ?_
    refine hw_nil ?_
    refine sw_nil ?_
    refine ow_storeL (i := i) (a := d1.toList[j]'(by omega)) rfl rfl rfl kdTy hLs (by repeat (first | exact Sel.here | apply Sel.there)) (by omega) (hLs.ok _ (List.getElem_mem _)) ?_
    intro cta hLta
    have hlta : (d1.toList.set i (d1.toList[j]'(by omega))).length = d1.toList.length := List.length_set
    refine ow_val rfl rfl (v_indexAddr_ls Try.underlying99 (kdTy) rfl rfl (by assumption) rfl (by omega)) ?_
    refine ow_storeL (i := j) (a := d1.toList[i]'(by omega)) rfl rfl rfl kdTy hLta (by repeat (first | exact Sel.here | apply Sel.there)) (by rw [List.length_set]; omega) (hLs.ok _ (List.getElem_mem _)) ?_
    intro ct hLt
    rw [swpL (i' := i) (j' := j) (bangD _ (by omega)) (bangD _ (by omega)) (by omega) (by omega)] at hLt
    have hszt : (Sort.swp d1 i j).size = d.size := by rw [swp_sz]; exact hsz1
    generalize Sort.swp d1 i j = d2 at *
    refine ow_nil ?_
    refine xw_np ?_
    refine xw_then ?_
    refine cw_seq ?_
    refine cw_region ?_
    refine ow_val rfl rfl (v_move rfl) ?_
    refine ow_val rfl rfl (v_add rfl rfl (nw_i64 (by omega) (by omega))) ?_
    refine ow_val rfl rfl (v_assign rfl) ?_
    refine ow_nil ?_
    refine xw_then ?_
    refine cw_seq ?_
    refine cw_region ?_
    refine ow_val rfl rfl (v_move rfl) ?_
    refine ow_val rfl rfl (v_sub rfl rfl (nw_i64 (by omega) (by omega))) ?_
    refine ow_val rfl rfl (v_assign rfl) ?_
    refine ow_nil ?_
    refine xw_then ?_
    rw [show (j : Int) - 1 = ((j - 1 : Nat) : Int) by omega]
    refine cw_cut2 (ι := ((Nat × Array Int × Hp))) [(0, _), (1, _), (8, _), (9, _)] ⟨rfl, rfl, rfl, rfl, trivial⟩ ((fun x => [(11, .int .i64 x.1)])) ((fun x => a ≤ x.1 ∧ x.1 < b ∧ x.2.1.size = d.size ∧ Sort.partLoop Sort.ltInt a (i + 1) (j - 1) d2 = (x.1, x.2.1) ∧ Ls enKd 59 (.slice ao d.size cap) x.2.2 x.2.1.toList)) ((fun x => x.2.2 :: F)) ?_ ?_
    · refine cw_block ?_
      refine cw_loop2 (ι := ((Nat × Nat × Array Int × Hp))) [(0, _), (1, _), (3, _), (8, _), (9, _)] ⟨rfl, rfl, rfl, rfl, rfl, trivial⟩ ((fun x => [(10, .int .i64 x.1), (11, .int .i64 x.2.1)])) ((fun x => a + 2 ≤ x.1 ∧ x.1 ≤ x.2.1 + 2 ∧ x.2.1 < b ∧ x.2.2.1.size = d.size ∧ Sort.partLoop Sort.ltInt a x.1 x.2.1 x.2.2.1 = Sort.partLoop Sort.ltInt a (i + 1) (j - 1) d2 ∧ Ls enKd 59 (.slice ao d.size cap) x.2.2.2 x.2.2.1.toList)) ((fun x => x.2.1 + 2 - x.1)) ((fun x => x.2.2.2 :: F)) (((i + 1, j - 1, d2, ct) : Nat × Nat × Array Int × Hp)) (by repeat (first | exact True.intro | refine And.intro rfl ?_)) (by first | exact Cov.refl _ | (intro p; simp only [List.flatten_cons, List.flatten_nil, List.flatten_append, List.append_nil, List.nil_append, cnt_append, cnt_cons, cnt_nil, List.set_cons_zero, List.set_cons_succ, List.length_nil, List.length_cons, Nat.zero_add, List.append]; omega)) ?_ ?_
      · exact ⟨by dsimp only; omega, by dsimp only; omega, by dsimp only; omega, hszt, rfl, hLt⟩
      rintro ⟨i3, j3, d3, c3⟩ ⟨hi31, hi32, hj31, hsz3, he3, hL3⟩
      dsimp only at hi31 hi32 hj31 hsz3 he3 hL3 ⊢
      have hl3 : d3.toList.length = d.size := by rw [Array.length_toList]; exact hsz3
      have hq3 := fun i2 j2 => partL_eq (d := d3) (a := a) (i := i3) (j := j3) (i2 := i2) (j2 := j2)
      refine cw_block ?_
      refine cw_cut2 (ι := (Nat)) [(0, _), (1, _), (3, _), (8, _), (9, _), (11, _)] ⟨rfl, rfl, rfl, rfl, rfl, rfl, trivial⟩ ((fun i => [(10, .int .i64 i)])) ((fun i => i3 ≤ i ∧ i ≤ max (i3) (j3 + 1) ∧ Sort.scanUp (fun x => Sort.ltInt x d3[a]!) d3 (j3) (i3) = i)) ((fun _ => c3 :: F)) ?_ ?_
      · refine cw_block ?_
        refine cw_loop2 (ι := (Nat)) [(0, _), (1, _), (3, _), (8, _), (9, _), (11, _)] ⟨rfl, rfl, rfl, rfl, rfl, rfl, trivial⟩ ((fun i => [(10, .int .i64 i)])) ((fun i => i3 ≤ i ∧ i ≤ max (i3) (j3 + 1) ∧ Sort.scanUp (fun x => Sort.ltInt x d3[a]!) d3 (j3) i = Sort.scanUp (fun x => Sort.ltInt x d3[a]!) d3 (j3) (i3))) ((fun i => j3 + 1 - i)) ((fun _ => c3 :: F)) ((i3 : Nat)) (by repeat (first | exact True.intro | refine And.intro rfl ?_)) (by first | exact Cov.refl _ | (intro p; simp only [List.flatten_cons, List.flatten_nil, List.flatten_append, List.append_nil, List.nil_append, cnt_append, cnt_cons, cnt_nil, List.set_cons_zero, List.set_cons_succ, List.length_nil, List.length_cons, Nat.zero_add, List.append]; omega)) ?_ ?_
        · exact ⟨Nat.le_refl _, by omega, rfl⟩
        rintro i ⟨hi1, hi2, hi3⟩
        refine cw_seq ?_
        refine cw_seq ?_
        refine cw_quiet Ty.mixed (by decide +kernel) ?_
        refine kw_val rfl rfl (v_move rfl) ?_
        refine kw_val rfl rfl (v_move rfl) ?_
        refine kw_val rfl rfl (v_leq rfl rfl) ?_
        refine kw_val rfl rfl (v_move rfl) ?_
        refine kw_dec 102 rfl (fun hc102 => ?_) (fun hc102 => ?_)
        refine kw_val rfl rfl (v_move rfl) ?_
        refine kw_val rfl rfl (v_move rfl) ?_
        refine kw_val rfl rfl (v_indexAddr_ls Try.underlying99 (kdTy) rfl rfl (by assumption) rfl (by omega)) ?_
        refine kw_val rfl rfl (v_load rfl (Go.Sl.Vw.var (kdTy) ((hL3.vw (by repeat (first | exact Sub.here | exact Sub.nil | assumption | refine Sub.there ?_)))) (by omega))) ?_
        refine kw_val rfl rfl (v_move rfl) ?_
        refine kw_val rfl rfl (v_move rfl) ?_
        refine kw_val rfl rfl (v_indexAddr_ls Try.underlying99 (kdTy) rfl rfl (by assumption) rfl (by omega)) ?_
        refine kw_val rfl rfl (v_load rfl (Go.Sl.Vw.var (kdTy) ((hL3.vw (by repeat (first | exact Sub.here | exact Sub.nil | assumption | refine Sub.there ?_)))) (by omega))) ?_
        refine kw_val rfl rfl (v_call rfl rfl (lessK_c)) ?_
        refine kw_val rfl rfl (v_pick_true rfl rfl) ?_
        refine kw_nil ?_
        refine xw_then ?_
        refine cw_dec rfl (fun hc112 => ?_) (fun hc112 => ?_)
        refine cw_skip ?_
        refine xw_then ?_
        refine cw_block ?_
        refine cw_region ?_
        refine ow_val rfl rfl (v_move rfl) ?_
        refine ow_val rfl rfl (v_add rfl rfl (nw_i64 (by omega) (by omega))) ?_
        refine ow_val rfl rfl (v_assign rfl) ?_
        refine ow_nil ?_
        refine xw_block ?_
        rotate_left
        refine cw_exit ?_
        refine xw_then_exit ?_
        refine xw_round_exit ?_
        refine xw_block_exit ?_
        rotate_left
        refine kw_skip rfl rfl ?_
        refine kw_skip rfl rfl ?_
        refine kw_skip rfl rfl ?_
        refine kw_skip rfl rfl ?_
        refine kw_skip rfl rfl ?_
        refine kw_skip rfl rfl ?_
        refine kw_skip rfl rfl ?_
        refine kw_skip rfl rfl ?_
        refine kw_skip rfl rfl ?_
        refine kw_val rfl rfl (v_pick_false rfl rfl) ?_
        refine kw_nil ?_
        refine xw_then ?_
        refine cw_false rfl ?_
        refine cw_exit ?_
        refine xw_then_exit ?_
        refine xw_round_exit ?_
        refine xw_block_exit ?_
        rotate_left
        · rw [bangD (i := i) _ rfl, bangD (i := a) _ rfl] at hc112
          exact xw_round (i + 1) ⟨by omega, by omega, by rw [← hi3]; exact (scanUp_go (by omega) (by simpa [Sort.ltInt] using hc112)).symm⟩ (by omega) (by first | exact Cov.refl _ | (intro p; simp only [List.flatten_cons, List.flatten_nil, List.flatten_append, List.append_nil, List.nil_append, cnt_append, cnt_cons, cnt_nil, List.set_cons_zero, List.set_cons_succ, List.length_nil, List.length_cons, Nat.zero_add, List.append]; omega)) (by repeat (first | exact True.intro | refine And.intro rfl ?_))
        · rw [bangD (i := i) _ rfl, bangD (i := a) _ rfl] at hc112
          exact xw_joint i ⟨hi1, hi2, by rw [← hi3]; exact scanUp_stop (fun h => hc112 (by simpa [Sort.ltInt] using h.2))⟩ (by first | exact Cov.refl _ | (intro p; simp only [List.flatten_cons, List.flatten_nil, List.flatten_append, List.append_nil, List.nil_append, cnt_append, cnt_cons, cnt_nil, List.set_cons_zero, List.set_cons_succ, List.length_nil, List.length_cons, Nat.zero_add, List.append]; omega)) (by repeat (first | exact True.intro | refine And.intro rfl ?_))
        · exact xw_joint i ⟨hi1, hi2, by rw [← hi3]; exact scanUp_stop (fun h => by have := h.1; omega)⟩ (by first | exact Cov.refl _ | (intro p; simp only [List.flatten_cons, List.flatten_nil, List.flatten_append, List.append_nil, List.nil_append, cnt_append, cnt_cons, cnt_nil, List.set_cons_zero, List.set_cons_succ, List.length_nil, List.length_cons, Nat.zero_add, List.append]; omega)) (by repeat (first | exact True.intro | refine And.intro rfl ?_))
      rintro i4 ⟨hi41, hi42, hi43⟩
      refine cw_cut2 (ι := (Nat)) [(0, _), (1, _), (3, _), (8, _), (9, _), (10, _)] ⟨rfl, rfl, rfl, rfl, rfl, rfl, trivial⟩ ((fun j => [(11, .int .i64 j)])) ((fun j => j ≤ j3 ∧ (i4 ≤ j + 1 ∨ j = j3) ∧ Sort.scanDown (fun x => !Sort.ltInt x d3[a]!) d3 i4 (j3) = j)) ((fun _ => c3 :: F)) ?_ ?_
      · refine cw_block ?_
        refine cw_loop2 (ι := (Nat)) [(0, _), (1, _), (3, _), (8, _), (9, _), (10, _)] ⟨rfl, rfl, rfl, rfl, rfl, rfl, trivial⟩ ((fun j => [(11, .int .i64 j)])) ((fun j => j ≤ j3 ∧ (i4 ≤ j + 1 ∨ j = j3) ∧ Sort.scanDown (fun x => !Sort.ltInt x d3[a]!) d3 i4 j = Sort.scanDown (fun x => !Sort.ltInt x d3[a]!) d3 i4 (j3))) ((fun j => j)) ((fun _ => c3 :: F)) ((j3 : Nat)) (by repeat (first | exact True.intro | refine And.intro rfl ?_)) (by first | exact Cov.refl _ | (intro p; simp only [List.flatten_cons, List.flatten_nil, List.flatten_append, List.append_nil, List.nil_append, cnt_append, cnt_cons, cnt_nil, List.set_cons_zero, List.set_cons_succ, List.length_nil, List.length_cons, Nat.zero_add, List.append]; omega)) ?_ ?_
        · exact ⟨Nat.le_refl _, by omega, rfl⟩
        rintro j ⟨hj1, hj2, hj3⟩
        refine cw_seq ?_
        refine cw_seq ?_
        refine cw_quiet Ty.mixed (by decide +kernel) ?_
        refine kw_val rfl rfl (v_move rfl) ?_
        refine kw_val rfl rfl (v_move rfl) ?_
        refine kw_val rfl rfl (v_leq rfl rfl) ?_
        refine kw_val rfl rfl (v_move rfl) ?_
        refine kw_dec 118 rfl (fun hc118 => ?_) (fun hc118 => ?_)
        refine kw_val rfl rfl (v_move rfl) ?_
        refine kw_val rfl rfl (v_move rfl) ?_
        refine kw_val rfl rfl (v_indexAddr_ls Try.underlying99 (kdTy) rfl rfl (by assumption) rfl (by omega)) ?_
        refine kw_val rfl rfl (v_load rfl (Go.Sl.Vw.var (kdTy) ((hL3.vw (by repeat (first | exact Sub.here | exact Sub.nil | assumption | refine Sub.there ?_)))) (by omega))) ?_
        refine kw_val rfl rfl (v_move rfl) ?_
        refine kw_val rfl rfl (v_move rfl) ?_
        refine kw_val rfl rfl (v_indexAddr_ls Try.underlying99 (kdTy) rfl rfl (by assumption) rfl (by omega)) ?_
        refine kw_val rfl rfl (v_load rfl (Go.Sl.Vw.var (kdTy) ((hL3.vw (by repeat (first | exact Sub.here | exact Sub.nil | assumption | refine Sub.there ?_)))) (by omega))) ?_
        refine kw_val rfl rfl (v_call rfl rfl (lessK_c)) ?_
        refine kw_val rfl rfl (v_not rfl) ?_
        refine kw_val rfl rfl (v_pick_true rfl rfl) ?_
        refine kw_nil ?_
        refine xw_then ?_
        refine cw_dec rfl (fun hc129 => ?_) (fun hc129 => ?_)
        refine cw_skip ?_
        refine xw_then ?_
        refine cw_block ?_
        refine cw_region ?_
        refine ow_val rfl rfl (v_move rfl) ?_
        refine ow_val rfl rfl (v_sub rfl rfl (nw_i64 (by omega) (by omega))) ?_
        refine ow_val rfl rfl (v_assign rfl) ?_
        refine ow_nil ?_
        refine xw_block ?_
        rotate_left
        refine cw_exit ?_
        refine xw_then_exit ?_
        refine xw_round_exit ?_
        refine xw_block_exit ?_
        rotate_left
        refine kw_skip rfl rfl ?_
        refine kw_skip rfl rfl ?_
        refine kw_skip rfl rfl ?_
        refine kw_skip rfl rfl ?_
        refine kw_skip rfl rfl ?_
        refine kw_skip rfl rfl ?_
        refine kw_skip rfl rfl ?_
        refine kw_skip rfl rfl ?_
        refine kw_skip rfl rfl ?_
        refine kw_skip rfl rfl ?_
        refine kw_val rfl rfl (v_pick_false rfl rfl) ?_
        refine kw_nil ?_
        refine xw_then ?_
        refine cw_false rfl ?_
        refine cw_exit ?_
        refine xw_then_exit ?_
        refine xw_round_exit ?_
        refine xw_block_exit ?_
        rotate_left
        · rw [bangD (i := j) _ rfl, bangD (i := a) _ rfl] at hc129
          exact xw_round (j - 1) ⟨by omega, by omega, by rw [← hj3]; exact (scanDown_go (by omega) (by omega) (by simpa [Sort.ltInt] using hc129)).symm⟩ (by omega) (by first | exact Cov.refl _ | (intro p; simp only [List.flatten_cons, List.flatten_nil, List.flatten_append, List.append_nil, List.nil_append, cnt_append, cnt_cons, cnt_nil, List.set_cons_zero, List.set_cons_succ, List.length_nil, List.length_cons, Nat.zero_add, List.append]; omega)) (by repeat (first | exact True.intro | refine And.intro rfl ?_ | refine And.intro (congrArg (fun z : Int => some (Value.int IntKind.i64 z)) (by (try dsimp only); omega)) ?_))
        · rw [bangD (i := j) _ rfl, bangD (i := a) _ rfl] at hc129
          exact xw_joint j ⟨hj1, hj2, by rw [← hj3]; exact scanDown_stop (by omega) (fun h => hc129 (by simpa [Sort.ltInt] using h.2))⟩ (by first | exact Cov.refl _ | (intro p; simp only [List.flatten_cons, List.flatten_nil, List.flatten_append, List.append_nil, List.nil_append, cnt_append, cnt_cons, cnt_nil, List.set_cons_zero, List.set_cons_succ, List.length_nil, List.length_cons, Nat.zero_add, List.append]; omega)) (by repeat (first | exact True.intro | refine And.intro rfl ?_))
        · exact xw_joint j ⟨hj1, hj2, by rw [← hj3]; exact scanDown_stop (by omega) (fun h => by have := h.1; omega)⟩ (by first | exact Cov.refl _ | (intro p; simp only [List.flatten_cons, List.flatten_nil, List.flatten_append, List.append_nil, List.nil_append, cnt_append, cnt_cons, cnt_nil, List.set_cons_zero, List.set_cons_succ, List.length_nil, List.length_cons, Nat.zero_add, List.append]; omega)) (by repeat (first | exact True.intro | refine And.intro rfl ?_))
      rintro j4 ⟨hj41, hj42, hj43⟩
      have hq := hq3 i4 j4 hi43 hj43
      rw [he3] at hq
      refine cw_seq ?_
      refine cw_seq ?_
      refine cw_region ?_
      refine ow_val rfl rfl (v_move rfl) ?_
      refine ow_val rfl rfl (v_move rfl) ?_
      refine ow_val rfl rfl (v_gtr rfl rfl) ?_
      refine ow_nil ?_
      refine xw_then ?_
      refine cw_dec rfl (fun hc134 => ?_) (fun hc134 => ?_)
      refine cw_exit ?_
      refine xw_then_exit ?_
      refine xw_block_other rfl ?_
      refine xw_round_exit ?_
      refine xw_block_exit ?_
      rotate_left
      refine cw_skip ?_
      refine xw_then ?_
      rotate_left
      · rw [if_pos (by omega)] at hq
        exact xw_joint ((j4, d3, c3) : Nat × Array Int × Hp) ⟨by dsimp only; omega, by dsimp only; omega, hsz3, hq, hL3⟩ (by first | exact Cov.refl _ | (intro p; simp only [List.flatten_cons, List.flatten_nil, List.flatten_append, List.append_nil, List.nil_append, cnt_append, cnt_cons, cnt_nil, List.set_cons_zero, List.set_cons_succ, List.length_nil, List.length_cons, Nat.zero_add, List.append]; omega)) (by repeat (first | exact True.intro | refine And.intro rfl ?_))
      · rw [if_neg (by omega)] at hq
        refine cw_seq ?_
        refine cw_mix [] [13, 14, 15] [0, 1, 2, 3, 4, 5, 6, 7, 8, 9, 10, 11, 12] Ty.mixed rfl rfl rfl rfl (by decide +kernel) ?_
        refine hw_pure rfl rfl (v_move rfl) rfl ?_
        refine hw_pure rfl rfl (v_move rfl) rfl ?_
        refine hw_pure rfl rfl (v_move rfl) rfl ?_
        refine hw_pure rfl rfl (v_move rfl) rfl ?_
        refine hw_pure rfl rfl (v_move rfl) rfl ?_
        refine hw_pure rfl rfl (v_move rfl) rfl ?_
        refine hw_pure rfl rfl (v_indexAddr_ls Try.underlying99 (kdTy) rfl rfl (by assumption) rfl (by omega)) rfl ?_
        refine hw_read rfl rfl rfl (v_load rfl (Go.Sl.Vw.var (kdTy) ((hL3.vw (by repeat (first | exact Sub.here | exact Sub.nil | assumption | refine Sub.there ?_)))) (by omega))) ?_
        refine hw_pure rfl rfl (v_move rfl) rfl ?_
        refine hw_pure rfl rfl (v_move rfl) rfl ?_
        refine hw_pure rfl rfl (v_indexAddr_ls Try.underlying99 (kdTy) rfl rfl (by assumption) rfl (by omega)) rfl ?_
        refine hw_read rfl rfl rfl (v_load rfl (Go.Sl.Vw.var (kdTy) ((hL3.vw (by repeat (first | exact Sub.here | exact Sub.nil | assumption | refine Sub.there ?_)))) (by omega))) ?_
        refine hw_pure rfl rfl (v_indexAddr_ls Try.underlying99 (kdTy) rfl rfl (by assumption) rfl (by omega)) rfl ?_
        refine hw_nil ?_
        refine sw_nil ?_
        refine ow_storeL (i := i4) (a := d3.toList[j4]'(by omega)) rfl rfl rfl kdTy hL3 (by repeat (first | exact Sel.here | apply Sel.there)) (by omega) (hL3.ok _ (List.getElem_mem _)) ?_
        intro cua hLua
        have hlua : (d3.toList.set i4 (d3.toList[j4]'(by omega))).length = d3.toList.length := List.length_set
        refine ow_val rfl rfl (v_indexAddr_ls Try.underlying99 (kdTy) rfl rfl (by assumption) rfl (by omega)) ?_
        refine ow_storeL (i := j4) (a := d3.toList[i4]'(by omega)) rfl rfl rfl kdTy hLua (by repeat (first | exact Sel.here | apply Sel.there)) (by rw [List.length_set]; omega) (hL3.ok _ (List.getElem_mem _)) ?_
        intro cu hLu
        rw [swpL (i' := i4) (j' := j4) (bangD _ (by omega)) (bangD _ (by omega)) (by omega) (by omega)] at hLu
        refine ow_nil ?_
        refine xw_np ?_
        refine xw_then ?_
        refine cw_seq ?_
        refine cw_region ?_
        refine ow_val rfl rfl (v_move rfl) ?_
        refine ow_val rfl rfl (v_add rfl rfl (nw_i64 (by omega) (by omega))) ?_
        refine ow_val rfl rfl (v_assign rfl) ?_
        refine ow_nil ?_
        refine xw_then ?_
        refine cw_region ?_
        refine ow_val rfl rfl (v_move rfl) ?_
        refine ow_val rfl rfl (v_sub rfl rfl (nw_i64 (by omega) (by omega))) ?_
        refine ow_val rfl rfl (v_assign rfl) ?_
        refine ow_nil ?_
        refine xw_block ?_
        exact xw_round ((i4 + 1, j4 - 1, Sort.swp d3 i4 j4, cu) : Nat × Nat × Array Int × Hp) ⟨by dsimp only; omega, by dsimp only; omega, by dsimp only; omega, by dsimp only; rw [swp_sz]; exact hsz3, hq.symm, hLu⟩ (by dsimp only; omega) (by first | exact Cov.refl _ | (intro p; simp only [List.flatten_cons, List.flatten_nil, List.flatten_append, List.append_nil, List.nil_append, cnt_append, cnt_cons, cnt_nil, List.set_cons_zero, List.set_cons_succ, List.length_nil, List.length_cons, Nat.zero_add, List.append]; omega)) (by repeat (first | exact True.intro | refine And.intro rfl ?_ | refine And.intro (congrArg (fun z : Int => some (Value.int IntKind.i64 z)) (by (try dsimp only); omega)) ?_))
    rintro ⟨j5, d5, c5⟩ ⟨hj51, hj52, hsz5, he5, hL5⟩
    dsimp only at hj51 hj52 hsz5 he5 hL5 ⊢
    have hl5 : d5.toList.length = d.size := by rw [Array.length_toList]; exact hsz5
    rw [he5]
    dsimp only
    skip
    refine cw_seq ?_
    refine cw_mix [] [13, 14, 15] [0, 1, 2, 3, 4, 5, 6, 7, 8, 9, 10, 11, 12] Ty.mixed rfl rfl rfl rfl (by decide +kernel) ?_
    refine hw_pure rfl rfl (v_move rfl) rfl ?_
    refine hw_pure rfl rfl (v_move rfl) rfl ?_
    refine hw_pure rfl rfl (v_move rfl) rfl ?_
    refine hw_pure rfl rfl (v_move rfl) rfl ?_
    refine hw_pure rfl rfl (v_move rfl) rfl ?_
    refine hw_pure rfl rfl (v_move rfl) rfl ?_
    refine hw_pure rfl rfl (v_indexAddr_ls Try.underlying99 (kdTy) rfl rfl (by assumption) rfl (by omega)) rfl ?_
    refine hw_read rfl rfl rfl (v_load rfl (Go.Sl.Vw.var (kdTy) ((hL5.vw (by repeat (first | exact Sub.here | exact Sub.nil | assumption | refine Sub.there ?_)))) (by omega))) ?_
    refine hw_pure rfl rfl (v_move rfl) rfl ?_
    refine hw_pure rfl rfl (v_move rfl) rfl ?_
    refine hw_pure rfl rfl (v_indexAddr_ls Try.underlying99 (kdTy) rfl rfl (by assumption) rfl (by omega)) rfl ?_
    refine hw_read rfl rfl rfl (v_load rfl (Go.Sl.Vw.var (kdTy) ((hL5.vw (by repeat (first | exact Sub.here | exact Sub.nil | assumption | refine Sub.there ?_)))) (by omega))) ?_
    refine hw_pure rfl rfl (v_indexAddr_ls Try.underlying99 (kdTy) rfl rfl (by assumption) rfl (by omega)) rfl ?_
    refine hw_nil ?_
    refine sw_nil ?_
    refine ow_storeL (i := j5) (a := d5.toList[a]'(by omega)) rfl rfl rfl kdTy hL5 (by repeat (first | exact Sel.here | apply Sel.there)) (by omega) (hL5.ok _ (List.getElem_mem _)) ?_
    intro cva hLva
    have hlva : (d5.toList.set j5 (d5.toList[a]'(by omega))).length = d5.toList.length := List.length_set
    refine ow_val rfl rfl (v_indexAddr_ls Try.underlying99 (kdTy) rfl rfl (by assumption) rfl (by omega)) ?_
    refine ow_storeL (i := a) (a := d5.toList[j5]'(by omega)) rfl rfl rfl kdTy hLva (by repeat (first | exact Sel.here | apply Sel.there)) (by rw [List.length_set]; omega) (hL5.ok _ (List.getElem_mem _)) ?_
    intro cv hLv
    rw [swpL (i' := j5) (j' := a) (bangD _ (by omega)) (bangD _ (by omega)) (by omega) (by omega)] at hLv
    refine ow_nil ?_
    refine xw_np ?_
    refine xw_then ?_
    refine cw_seq ?_
    refine cw_region ?_
    refine ow_val rfl rfl (v_move rfl) ?_
    refine ow_val rfl rfl (v_assign rfl) ?_
    refine ow_val rfl rfl (v_assign rfl) ?_
    refine ow_nil ?_
    refine xw_then ?_
    refine cw_ret ?_
    refine ret2 rfl (res_tmp rfl) (res_tmp rfl) ?_
    exact ⟨cv, rfl, hLv, (by first | exact Cov.refl _ | (intro p; simp only [List.flatten_cons, List.flatten_nil, List.flatten_append, List.append_nil, List.nil_append, cnt_append, cnt_cons, cnt_nil, List.set_cons_zero, List.set_cons_succ, List.length_nil, List.length_cons, Nat.zero_add, List.append]; omega))⟩
set_option maxHeartbeats 8000000 in
theorem partEK_c {B : Nat} {w0 : World} {G : List Hp} {R : Hp → List Hp} {ao : Option Addr} {n cap a b pv : Nat} {c : Hp} {d : Array Int} (hsel : Sel G c R) (hL : Ls enKd 59 (.slice ao n cap) c d.toList) (hap : a ≤ pv) (hpb : pv < b) (hb : b ≤ d.size) (hn : d.size ≤ 1000000) :
    Go.Sl.Fn Try.prog 117 #[.slice ao n cap, .int .i64 a, .int .i64 b, .int .i64 pv] B w0 G fun u G' => ∃ c' : Hp, u = .int .i64 (Sort.partitionEqual Sort.ltInt d a b pv).1 ∧ Ls enKd 59 (.slice ao n cap) c' (Sort.partitionEqual Sort.ltInt d a b pv).2.toList ∧ G' = R c' := by
  refine Fn.sel0 hsel fun F hR hF => ?_
  have hl := hL.len
  rw [Array.length_toList] at hl
  subst hl
  have hl0 : d.toList.length = d.size := Array.length_toList
  unfold Sort.partitionEqual
  refine fn_enter Try.func117 rfl (by kernel_rfl) Try.ntmps117 (by simp) ?_
  refine cw_seq ?_
  refine cw_region ?_
  refine ow_val rfl rfl (v_assign rfl) ?_
  refine ow_nil ?_
  refine xw_then ?_
  refine cw_seq ?_
  refine cw_mix [] [13, 14, 15] [0, 1, 2, 3, 4, 5, 6, 7, 8, 9, 10, 11, 12] Ty.mixed rfl rfl rfl rfl (by decide +kernel) ?_
  refine hw_pure rfl rfl (v_move rfl) rfl ?_
  refine hw_pure rfl rfl (v_move rfl) rfl ?_
  refine hw_pure rfl rfl (v_move rfl) rfl ?_
  refine hw_pure rfl rfl (v_move rfl) rfl ?_
  refine hw_pure rfl rfl (v_move rfl) rfl ?_
  refine hw_pure rfl rfl (v_move rfl) rfl ?_
  refine hw_pure rfl rfl (v_indexAddr_ls Try.underlying99 (kdTy) rfl rfl (by assumption) rfl (by omega)) rfl ?_
  refine hw_read rfl rfl rfl (v_load rfl (Go.Sl.Vw.var (kdTy) ((hL.vw (by repeat (first | exact Sub.here | exact Sub.nil | assumption | refine Sub.there ?_)))) (by omega))) ?_
  refine hw_pure rfl rfl (v_move rfl) rfl ?_
  refine hw_pure rfl rfl (v_move rfl) rfl ?_
  refine hw_pure rfl rfl (v_indexAddr_ls Try.underlying99 (kdTy) rfl rfl (by assumption) rfl (by omega)) rfl ?_
  refine hw_read rfl rfl rfl (v_load rfl (Go.Sl.Vw.var (kdTy) ((hL.vw (by repeat (first | exact Sub.here | exact Sub.nil | assumption | refine Sub.there ?_)))) (by omega))) ?_
  refine hw_pure rfl rfl (v_indexAddr_ls Try.underlying99 (kdTy) rfl rfl (by assumption) rfl (by omega)) rfl ?_
  refine hw_nil ?_
  refine sw_nil ?_
  refine ow_storeL (i := a) (a := d.toList[pv]'(by omega)) rfl rfl rfl kdTy hL (by repeat (first | exact Sel.here | apply Sel.there)) (by omega) (hL.ok _ (List.getElem_mem _)) ?_
  intro csa hLsa
  have hlsa : (d.toList.set a (d.toList[pv]'(by omega))).length = d.toList.length := List.length_set
  refine ow_val rfl rfl (v_indexAddr_ls Try.underlying99 (kdTy) rfl rfl (by assumption) rfl (by omega)) ?_
  refine ow_storeL (i := pv) (a := d.toList[a]'(by omega)) rfl rfl rfl kdTy hLsa (by repeat (first | exact Sel.here | apply Sel.there)) (by rw [List.length_set]; omega) (hL.ok _ (List.getElem_mem _)) ?_
  intro cs hLs
  rw [swpL (i' := a) (j' := pv) (bangD _ (by omega)) (bangD _ (by omega)) (by omega) (by omega)] at hLs
  have hsz1 : (Sort.swp d a pv).size = d.size := swp_sz
  generalize Sort.swp d a pv = d1 at *
  refine ow_nil ?_
  refine xw_np ?_
  refine xw_then ?_
  refine cw_seq ?_
  refine cw_region ?_
  refine ow_val rfl rfl (v_move rfl) ?_
  refine ow_val rfl rfl (v_add rfl rfl (nw_i64 (by omega) (by omega))) ?_
  refine ow_val rfl rfl (v_move rfl) ?_
  refine ow_val rfl rfl (v_sub rfl rfl (nw_i64 (by omega) (by omega))) ?_
  refine ow_val rfl rfl (v_assign rfl) ?_
  refine ow_val rfl rfl (v_assign rfl) ?_
  refine ow_nil ?_
  refine xw_then ?_
  rw [show (b : Int) - 1 = ((b - 1 : Nat) : Int) by omega]
  refine cw_cut2 (ι := ((Nat × Array Int × Hp))) [(8, _)] ⟨rfl, trivial⟩ ((fun x => [(9, .int .i64 x.1)])) ((fun x => Sort.partEqLoop Sort.ltInt a (a + 1) (b - 1) d1 = (x.1, x.2.1) ∧ Ls enKd 59 (.slice ao d.size cap) x.2.2 x.2.1.toList)) ((fun x => x.2.2 :: F)) ?_ ?_
  · refine cw_block ?_
    refine cw_loop2 (ι := ((Nat × Nat × Array Int × Hp))) [(0, _), (1, _), (3, _), (8, _)] ⟨rfl, rfl, rfl, rfl, trivial⟩ ((fun x => [(9, .int .i64 x.1), (10, .int .i64 x.2.1)])) ((fun x => a + 1 ≤ x.1 ∧ x.1 ≤ x.2.1 + 2 ∧ x.2.1 < b ∧ x.2.2.1.size = d.size ∧ Sort.partEqLoop Sort.ltInt a x.1 x.2.1 x.2.2.1 = Sort.partEqLoop Sort.ltInt a (a + 1) (b - 1) d1 ∧ Ls enKd 59 (.slice ao d.size cap) x.2.2.2 x.2.2.1.toList)) ((fun x => x.2.1 + 2 - x.1)) ((fun x => x.2.2.2 :: F)) (((a + 1, b - 1, d1, cs) : Nat × Nat × Array Int × Hp)) (by repeat (first | exact True.intro | refine And.intro rfl ?_)) (by first | exact Cov.refl _ | (intro p; simp only [List.flatten_cons, List.flatten_nil, List.flatten_append, List.append_nil, List.nil_append, cnt_append, cnt_cons, cnt_nil, List.set_cons_zero, List.set_cons_succ, List.length_nil, List.length_cons, Nat.zero_add, List.append]; omega)) ?_ ?_
    · exact ⟨by dsimp only; omega, by dsimp only; omega, by dsimp only; omega, hsz1, rfl, hLs⟩
    rintro ⟨i3, j3, d3, c3⟩ ⟨hi31, hi32, hj31, hsz3, he3, hL3⟩
    dsimp only at hi31 hi32 hj31 hsz3 he3 hL3 ⊢
    have hl3 : d3.toList.length = d.size := by rw [Array.length_toList]; exact hsz3
    have hq3 := fun i2 j2 => partE_eq (d := d3) (a := a) (i := i3) (j := j3) (i2 := i2) (j2 := j2)
    refine cw_block ?_
    refine cw_cut2 (ι := (Nat)) [(0, _), (1, _), (3, _), (8, _), (10, _)] ⟨rfl, rfl, rfl, rfl, rfl, trivial⟩ ((fun i => [(9, .int .i64 i)])) ((fun i => i3 ≤ i ∧ i ≤ max (i3) (j3 + 1) ∧ Sort.scanUp (fun x => !Sort.ltInt d3[a]! x) d3 (j3) (i3) = i)) ((fun _ => c3 :: F)) ?_ ?_
    · refine cw_block ?_
      refine cw_loop2 (ι := (Nat)) [(0, _), (1, _), (3, _), (8, _), (10, _)] ⟨rfl, rfl, rfl, rfl, rfl, trivial⟩ ((fun i => [(9, .int .i64 i)])) ((fun i => i3 ≤ i ∧ i ≤ max (i3) (j3 + 1) ∧ Sort.scanUp (fun x => !Sort.ltInt d3[a]! x) d3 (j3) i = Sort.scanUp (fun x => !Sort.ltInt d3[a]! x) d3 (j3) (i3))) ((fun i => j3 + 1 - i)) ((fun _ => c3 :: F)) ((i3 : Nat)) (by repeat (first | exact True.intro | refine And.intro rfl ?_)) (by first | exact Cov.refl _ | (intro p; simp only [List.flatten_cons, List.flatten_nil, List.flatten_append, List.append_nil, List.nil_append, cnt_append, cnt_cons, cnt_nil, List.set_cons_zero, List.set_cons_succ, List.length_nil, List.length_cons, Nat.zero_add, List.append]; omega)) ?_ ?_
      · exact ⟨Nat.le_refl _, by omega, rfl⟩
      rintro i ⟨hi1, hi2, hi3⟩
      refine cw_seq ?_
      refine cw_seq ?_
      refine cw_quiet Ty.mixed (by decide +kernel) ?_
      refine kw_val rfl rfl (v_move rfl) ?_
      refine kw_val rfl rfl (v_move rfl) ?_
      refine kw_val rfl rfl (v_leq rfl rfl) ?_
      refine kw_val rfl rfl (v_move rfl) ?_
      refine kw_dec 32 rfl (fun hc32 => ?_) (fun hc32 => ?_)
      refine kw_val rfl rfl (v_move rfl) ?_
      refine kw_val rfl rfl (v_move rfl) ?_
      refine kw_val rfl rfl (v_indexAddr_ls Try.underlying99 (kdTy) rfl rfl (by assumption) rfl (by omega)) ?_
      refine kw_val rfl rfl (v_load rfl (Go.Sl.Vw.var (kdTy) ((hL3.vw (by repeat (first | exact Sub.here | exact Sub.nil | assumption | refine Sub.there ?_)))) (by omega))) ?_
      refine kw_val rfl rfl (v_move rfl) ?_
      refine kw_val rfl rfl (v_move rfl) ?_
      refine kw_val rfl rfl (v_indexAddr_ls Try.underlying99 (kdTy) rfl rfl (by assumption) rfl (by omega)) ?_
      refine kw_val rfl rfl (v_load rfl (Go.Sl.Vw.var (kdTy) ((hL3.vw (by repeat (first | exact Sub.here | exact Sub.nil | assumption | refine Sub.there ?_)))) (by omega))) ?_
      refine kw_val rfl rfl (v_call rfl rfl (lessK_c)) ?_
      refine kw_val rfl rfl (v_not rfl) ?_
      refine kw_val rfl rfl (v_pick_true rfl rfl) ?_
      refine kw_nil ?_
      refine xw_then ?_
      refine cw_dec rfl (fun hc43 => ?_) (fun hc43 => ?_)
      refine cw_skip ?_
      refine xw_then ?_
      refine cw_block ?_
      refine cw_region ?_
      refine ow_val rfl rfl (v_move rfl) ?_
      refine ow_val rfl rfl (v_add rfl rfl (nw_i64 (by omega) (by omega))) ?_
      refine ow_val rfl rfl (v_assign rfl) ?_
      refine ow_nil ?_
      refine xw_block ?_
      rotate_left
      refine cw_exit ?_
      refine xw_then_exit ?_
      refine xw_round_exit ?_
      refine xw_block_exit ?_
      rotate_left
      refine kw_skip rfl rfl ?_
      refine kw_skip rfl rfl ?_
      refine kw_skip rfl rfl ?_
      refine kw_skip rfl rfl ?_
      refine kw_skip rfl rfl ?_
      refine kw_skip rfl rfl ?_
      refine kw_skip rfl rfl ?_
      refine kw_skip rfl rfl ?_
      refine kw_skip rfl rfl ?_
      refine kw_skip rfl rfl ?_
      refine kw_val rfl rfl (v_pick_false rfl rfl) ?_
      refine kw_nil ?_
      refine xw_then ?_
      refine cw_false rfl ?_
      refine cw_exit ?_
      refine xw_then_exit ?_
      refine xw_round_exit ?_
      refine xw_block_exit ?_
      rotate_left
      · rw [bangD (i := a) _ rfl, bangD (i := i) _ rfl] at hc43
        exact xw_round (i + 1) ⟨by omega, by omega, by rw [← hi3]; exact (scanUp_go (by omega) (by simpa [Sort.ltInt] using hc43)).symm⟩ (by omega) (by first | exact Cov.refl _ | (intro p; simp only [List.flatten_cons, List.flatten_nil, List.flatten_append, List.append_nil, List.nil_append, cnt_append, cnt_cons, cnt_nil, List.set_cons_zero, List.set_cons_succ, List.length_nil, List.length_cons, Nat.zero_add, List.append]; omega)) (by repeat (first | exact True.intro | refine And.intro rfl ?_))
      · rw [bangD (i := a) _ rfl, bangD (i := i) _ rfl] at hc43
        exact xw_joint i ⟨hi1, hi2, by rw [← hi3]; exact scanUp_stop (fun h => hc43 (by simpa [Sort.ltInt] using h.2))⟩ (by first | exact Cov.refl _ | (intro p; simp only [List.flatten_cons, List.flatten_nil, List.flatten_append, List.append_nil, List.nil_append, cnt_append, cnt_cons, cnt_nil, List.set_cons_zero, List.set_cons_succ, List.length_nil, List.length_cons, Nat.zero_add, List.append]; omega)) (by repeat (first | exact True.intro | refine And.intro rfl ?_))
      · exact xw_joint i ⟨hi1, hi2, by rw [← hi3]; exact scanUp_stop (fun h => by have := h.1; omega)⟩ (by first | exact Cov.refl _ | (intro p; simp only [List.flatten_cons, List.flatten_nil, List.flatten_append, List.append_nil, List.nil_append, cnt_append, cnt_cons, cnt_nil, List.set_cons_zero, List.set_cons_succ, List.length_nil, List.length_cons, Nat.zero_add, List.append]; omega)) (by repeat (first | exact True.intro | refine And.intro rfl ?_))
    rintro i4 ⟨hi41, hi42, hi43⟩
    refine cw_cut2 (ι := (Nat)) [(0, _), (1, _), (3, _), (8, _), (9, _)] ⟨rfl, rfl, rfl, rfl, rfl, trivial⟩ ((fun j => [(10, .int .i64 j)])) ((fun j => j ≤ j3 ∧ (i4 ≤ j + 1 ∨ j = j3) ∧ Sort.scanDown (fun x => Sort.ltInt d3[a]! x) d3 i4 (j3) = j)) ((fun _ => c3 :: F)) ?_ ?_
    · refine cw_block ?_
      refine cw_loop2 (ι := (Nat)) [(0, _), (1, _), (3, _), (8, _), (9, _)] ⟨rfl, rfl, rfl, rfl, rfl, trivial⟩ ((fun j => [(10, .int .i64 j)])) ((fun j => j ≤ j3 ∧ (i4 ≤ j + 1 ∨ j = j3) ∧ Sort.scanDown (fun x => Sort.ltInt d3[a]! x) d3 i4 j = Sort.scanDown (fun x => Sort.ltInt d3[a]! x) d3 i4 (j3))) ((fun j => j)) ((fun _ => c3 :: F)) ((j3 : Nat)) (by repeat (first | exact True.intro | refine And.intro rfl ?_)) (by first | exact Cov.refl _ | (intro p; simp only [List.flatten_cons, List.flatten_nil, List.flatten_append, List.append_nil, List.nil_append, cnt_append, cnt_cons, cnt_nil, List.set_cons_zero, List.set_cons_succ, List.length_nil, List.length_cons, Nat.zero_add, List.append]; omega)) ?_ ?_
      · exact ⟨Nat.le_refl _, by omega, rfl⟩
      rintro j ⟨hj1, hj2, hj3⟩
      refine cw_seq ?_
      refine cw_seq ?_
      refine cw_quiet Ty.mixed (by decide +kernel) ?_
      refine kw_val rfl rfl (v_move rfl) ?_
      refine kw_val rfl rfl (v_move rfl) ?_
      refine kw_val rfl rfl (v_leq rfl rfl) ?_
      refine kw_val rfl rfl (v_move rfl) ?_
      refine kw_dec 49 rfl (fun hc49 => ?_) (fun hc49 => ?_)
      refine kw_val rfl rfl (v_move rfl) ?_
      refine kw_val rfl rfl (v_move rfl) ?_
      refine kw_val rfl rfl (v_indexAddr_ls Try.underlying99 (kdTy) rfl rfl (by assumption) rfl (by omega)) ?_
      refine kw_val rfl rfl (v_load rfl (Go.Sl.Vw.var (kdTy) ((hL3.vw (by repeat (first | exact Sub.here | exact Sub.nil | assumption | refine Sub.there ?_)))) (by omega))) ?_
      refine kw_val rfl rfl (v_move rfl) ?_
      refine kw_val rfl rfl (v_move rfl) ?_
      refine kw_val rfl rfl (v_indexAddr_ls Try.underlying99 (kdTy) rfl rfl (by assumption) rfl (by omega)) ?_
      refine kw_val rfl rfl (v_load rfl (Go.Sl.Vw.var (kdTy) ((hL3.vw (by repeat (first | exact Sub.here | exact Sub.nil | assumption | refine Sub.there ?_)))) (by omega))) ?_
      refine kw_val rfl rfl (v_call rfl rfl (lessK_c)) ?_
      refine kw_val rfl rfl (v_pick_true rfl rfl) ?_
      refine kw_nil ?_
      refine xw_then ?_
      refine cw_dec rfl (fun hc59 => ?_) (fun hc59 => ?_)
      refine cw_skip ?_
      refine xw_then ?_
      refine cw_block ?_
      refine cw_region ?_
      refine ow_val rfl rfl (v_move rfl) ?_
      refine ow_val rfl rfl (v_sub rfl rfl (nw_i64 (by omega) (by omega))) ?_
      refine ow_val rfl rfl (v_assign rfl) ?_
      refine ow_nil ?_
      refine xw_block ?_
      rotate_left
      refine cw_exit ?_
      refine xw_then_exit ?_
      refine xw_round_exit ?_
      refine xw_block_exit ?_
      rotate_left
      refine kw_skip rfl rfl ?_
      refine kw_skip rfl rfl ?_
      refine kw_skip rfl rfl ?_
      refine kw_skip rfl rfl ?_
      refine kw_skip rfl rfl ?_
      refine kw_skip rfl rfl ?_
      refine kw_skip rfl rfl ?_
      refine kw_skip rfl rfl ?_
      refine kw_skip rfl rfl ?_
      refine kw_val rfl rfl (v_pick_false rfl rfl) ?_
      refine kw_nil ?_
      refine xw_then ?_
      refine cw_false rfl ?_
      refine cw_exit ?_
      refine xw_then_exit ?_
      refine xw_round_exit ?_
      refine xw_block_exit ?_
      rotate_left
      · rw [bangD (i := a) _ rfl, bangD (i := j) _ rfl] at hc59
        exact xw_round (j - 1) ⟨by omega, by omega, by rw [← hj3]; exact (scanDown_go (by omega) (by omega) (by simpa [Sort.ltInt] using hc59)).symm⟩ (by omega) (by first | exact Cov.refl _ | (intro p; simp only [List.flatten_cons, List.flatten_nil, List.flatten_append, List.append_nil, List.nil_append, cnt_append, cnt_cons, cnt_nil, List.set_cons_zero, List.set_cons_succ, List.length_nil, List.length_cons, Nat.zero_add, List.append]; omega)) (by repeat (first | exact True.intro | refine And.intro rfl ?_ | refine And.intro (congrArg (fun z : Int => some (Value.int IntKind.i64 z)) (by (try dsimp only); omega)) ?_))
      · rw [bangD (i := a) _ rfl, bangD (i := j) _ rfl] at hc59
        exact xw_joint j ⟨hj1, hj2, by rw [← hj3]; exact scanDown_stop (by omega) (fun h => hc59 (by simpa [Sort.ltInt] using h.2))⟩ (by first | exact Cov.refl _ | (intro p; simp only [List.flatten_cons, List.flatten_nil, List.flatten_append, List.append_nil, List.nil_append, cnt_append, cnt_cons, cnt_nil, List.set_cons_zero, List.set_cons_succ, List.length_nil, List.length_cons, Nat.zero_add, List.append]; omega)) (by repeat (first | exact True.intro | refine And.intro rfl ?_))
      · exact xw_joint j ⟨hj1, hj2, by rw [← hj3]; exact scanDown_stop (by omega) (fun h => by have := h.1; omega)⟩ (by first | exact Cov.refl _ | (intro p; simp only [List.flatten_cons, List.flatten_nil, List.flatten_append, List.append_nil, List.nil_append, cnt_append, cnt_cons, cnt_nil, List.set_cons_zero, List.set_cons_succ, List.length_nil, List.length_cons, Nat.zero_add, List.append]; omega)) (by repeat (first | exact True.intro | refine And.intro rfl ?_))
    rintro j4 ⟨hj41, hj42, hj43⟩
    have hq := hq3 i4 j4 hi43 hj43
    rw [he3] at hq
    refine cw_seq ?_
    refine cw_seq ?_
    refine cw_region ?_
    refine ow_val rfl rfl (v_move rfl) ?_
    refine ow_val rfl rfl (v_move rfl) ?_
    refine ow_val rfl rfl (v_gtr rfl rfl) ?_
    refine ow_nil ?_
    refine xw_then ?_
    refine cw_dec rfl (fun hc64 => ?_) (fun hc64 => ?_)
    refine cw_exit ?_
    refine xw_then_exit ?_
    refine xw_block_other rfl ?_
    refine xw_round_exit ?_
    refine xw_block_exit ?_
    rotate_left
    refine cw_skip ?_
    refine xw_then ?_
    rotate_left
    · rw [if_pos (by omega)] at hq
      exact xw_joint ((i4, d3, c3) : Nat × Array Int × Hp) ⟨hq, hL3⟩ (by first | exact Cov.refl _ | (intro p; simp only [List.flatten_cons, List.flatten_nil, List.flatten_append, List.append_nil, List.nil_append, cnt_append, cnt_cons, cnt_nil, List.set_cons_zero, List.set_cons_succ, List.length_nil, List.length_cons, Nat.zero_add, List.append]; omega)) (by repeat (first | exact True.intro | refine And.intro rfl ?_))
    · rw [if_neg (by omega)] at hq
      refine cw_seq ?_
      refine cw_mix [] [13, 14, 15] [0, 1, 2, 3, 4, 5, 6, 7, 8, 9, 10, 11, 12] Ty.mixed rfl rfl rfl rfl (by decide +kernel) ?_
      refine hw_pure rfl rfl (v_move rfl) rfl ?_
      refine hw_pure rfl rfl (v_move rfl) rfl ?_
      refine hw_pure rfl rfl (v_move rfl) rfl ?_
      refine hw_pure rfl rfl (v_move rfl) rfl ?_
      refine hw_pure rfl rfl (v_move rfl) rfl ?_
      refine hw_pure rfl rfl (v_move rfl) rfl ?_
      refine hw_pure rfl rfl (v_indexAddr_ls Try.underlying99 (kdTy) rfl rfl (by assumption) rfl (by omega)) rfl ?_
      refine hw_read rfl rfl rfl (v_load rfl (Go.Sl.Vw.var (kdTy) ((hL3.vw (by repeat (first | exact Sub.here | exact Sub.nil | assumption | refine Sub.there ?_)))) (by omega))) ?_
      refine hw_pure rfl rfl (v_move rfl) rfl ?_
      refine hw_pure rfl rfl (v_move rfl) rfl ?_
      refine hw_pure rfl rfl (v_indexAddr_ls Try.underlying99 (kdTy) rfl rfl (by assumption) rfl (by omega)) rfl ?_
      refine hw_read rfl rfl rfl (v_load rfl (Go.Sl.Vw.var (kdTy) ((hL3.vw (by repeat (first | exact Sub.here | exact Sub.nil | assumption | refine Sub.there ?_)))) (by omega))) ?_
      refine hw_pure rfl rfl (v_indexAddr_ls Try.underlying99 (kdTy) rfl rfl (by assumption) rfl (by omega)) rfl ?_
      refine hw_nil ?_
      refine sw_nil ?_
      refine ow_storeL (i := i4) (a := d3.toList[j4]'(by omega)) rfl rfl rfl kdTy hL3 (by repeat (first | exact Sel.here | apply Sel.there)) (by omega) (hL3.ok _ (List.getElem_mem _)) ?_
      intro cua hLua
      have hlua : (d3.toList.set i4 (d3.toList[j4]'(by omega))).length = d3.toList.length := List.length_set
      refine ow_val rfl rfl (v_indexAddr_ls Try.underlying99 (kdTy) rfl rfl (by assumption) rfl (by omega)) ?_
      refine ow_storeL (i := j4) (a := d3.toList[i4]'(by omega)) rfl rfl rfl kdTy hLua (by repeat (first | exact Sel.here | apply Sel.there)) (by rw [List.length_set]; omega) (hL3.ok _ (List.getElem_mem _)) ?_
      intro cu hLu
      rw [swpL (i' := i4) (j' := j4) (bangD _ (by omega)) (bangD _ (by omega)) (by omega) (by omega)] at hLu
      refine ow_nil ?_
      refine xw_np ?_
      refine xw_then ?_
      refine cw_seq ?_
      refine cw_region ?_
      refine ow_val rfl rfl (v_move rfl) ?_
      refine ow_val rfl rfl (v_add rfl rfl (nw_i64 (by omega) (by omega))) ?_
      refine ow_val rfl rfl (v_assign rfl) ?_
      refine ow_nil ?_
      refine xw_then ?_
      refine cw_region ?_
      refine ow_val rfl rfl (v_move rfl) ?_
      refine ow_val rfl rfl (v_sub rfl rfl (nw_i64 (by omega) (by omega))) ?_
      refine ow_val rfl rfl (v_assign rfl) ?_
      refine ow_nil ?_
      refine xw_block ?_
      exact xw_round ((i4 + 1, j4 - 1, Sort.swp d3 i4 j4, cu) : Nat × Nat × Array Int × Hp) ⟨by dsimp only; omega, by dsimp only; omega, by dsimp only; omega, by dsimp only; rw [swp_sz]; exact hsz3, hq.symm, hLu⟩ (by dsimp only; omega) (by first | exact Cov.refl _ | (intro p; simp only [List.flatten_cons, List.flatten_nil, List.flatten_append, List.append_nil, List.nil_append, cnt_append, cnt_cons, cnt_nil, List.set_cons_zero, List.set_cons_succ, List.length_nil, List.length_cons, Nat.zero_add, List.append]; omega)) (by repeat (first | exact True.intro | refine And.intro rfl ?_ | refine And.intro (congrArg (fun z : Int => some (Value.int IntKind.i64 z)) (by (try dsimp only); omega)) ?_))
  rintro ⟨j5, d5, c5⟩ ⟨he5, hL5⟩
  dsimp only at he5 hL5 ⊢
  rw [he5]
  dsimp only
  refine cw_seq ?_
  refine cw_region ?_
  refine ow_val rfl rfl (v_move rfl) ?_
  refine ow_val rfl rfl (v_assign rfl) ?_
  refine ow_nil ?_
  refine xw_then ?_
  refine cw_ret ?_
  refine ret1 rfl (res_tmp rfl) ?_
  exact ⟨c5, rfl, hL5, (by first | exact Cov.refl _ | (intro p; simp only [List.flatten_cons, List.flatten_nil, List.flatten_append, List.append_nil, List.nil_append, cnt_append, cnt_cons, cnt_nil, List.set_cons_zero, List.set_cons_succ, List.length_nil, List.length_cons, Nat.zero_add, List.append]; omega))⟩

end Go.Proofs.Ytckdhelnafjddaa
