/- The library's sort at lists of small numbers. Conditions: lists are short. -/
import Derived.Test.YtckdhelnafjddaaSortM
import Derived.Test.YtckdhelnafjddaaSortT
namespace Go.Proofs.Ytckdhelnafjddaa
open Go Go.Sl Go.Proofs
set_option maxRecDepth 20000
set_option linter.unusedVariables false
set_option linter.unusedSimpArgs false

theorem isNaNK_c {B : Nat} {w0 : World} {G : List Hp} {x : Int} : Go.Sl.Fn Try.prog 140 #[.int .u8 x] B w0 G fun u G' => u = .bool false ∧ G' = G := by
  refine Fn.pure ?_
  refine fn_enter Try.func140 rfl (by kernel_rfl) Try.ntmps140 (by simp) ?_
  refine cw_seq ?_
  refine cw_region ?_
  refine ow_val rfl rfl (v_assign rfl) ?_
  refine ow_nil ?_
  refine xw_then ?_
  refine cw_seq ?_
  refine cw_region ?_
  refine ow_val rfl rfl (v_move rfl) ?_
  refine ow_val rfl rfl (v_move rfl) ?_
  refine ow_val rfl rfl (v_neq rfl rfl) ?_
  refine ow_val rfl rfl (v_assign rfl) ?_
  refine ow_nil ?_
  refine xw_then ?_
  refine cw_ret ?_
  refine ret1 rfl (res_tmp rfl) ?_
  rw [decide_eq_false (fun h => h rfl : ¬ (x ≠ x))]
  exact ⟨rfl, (by first | exact Cov.refl _ | (intro p; simp only [List.flatten_cons, List.flatten_nil, List.flatten_append, List.append_nil, List.nil_append, cnt_append, cnt_cons, cnt_nil, List.set_cons_zero, List.set_cons_succ, List.length_nil, List.length_cons, Nat.zero_add, List.append]; omega))⟩
theorem lessK_c {B : Nat} {w0 : World} {G : List Hp} {x y : Int} : Go.Sl.Fn Try.prog 116 #[.int .u8 x, .int .u8 y] B w0 G fun u G' => u = .bool (decide (x < y)) ∧ G' = G := by
  refine Fn.pure ?_
  refine fn_enter Try.func116 rfl (by kernel_rfl) Try.ntmps116 (by simp) ?_
  refine cw_seq ?_
  refine cw_region ?_
  refine ow_val rfl rfl (v_assign rfl) ?_
  refine ow_nil ?_
  refine xw_then ?_
  refine cw_seq ?_
  refine cw_region ?_
  refine ow_val rfl rfl (v_move rfl) ?_
  refine ow_val rfl rfl (v_call rfl rfl (isNaNK_c)) ?_
  refine ow_val rfl rfl (v_move rfl) ?_
  refine ow_skip rfl rfl ?_
  refine ow_skip rfl rfl ?_
  refine ow_skip rfl rfl ?_
  refine ow_val rfl rfl (v_pick_false rfl rfl) ?_
  refine ow_val rfl rfl (v_move rfl) ?_
  refine ow_val rfl rfl (v_move rfl) ?_
  refine ow_val rfl rfl (v_move rfl) ?_
  refine ow_val rfl rfl (v_lss rfl rfl) ?_
  refine ow_val rfl rfl (v_pick_false rfl rfl) ?_
  refine ow_val rfl rfl (v_assign rfl) ?_
  refine ow_nil ?_
  refine xw_then ?_
  refine cw_ret ?_
  refine ret1 rfl (res_tmp rfl) ?_
  exact ⟨rfl, (by first | exact Cov.refl _ | (intro p; simp only [List.flatten_cons, List.flatten_nil, List.flatten_append, List.append_nil, List.nil_append, cnt_append, cnt_cons, cnt_nil, List.set_cons_zero, List.set_cons_succ, List.length_nil, List.length_cons, Nat.zero_add, List.append]; omega))⟩
set_option maxHeartbeats 4000000 in
theorem insertionK_c {B : Nat} {w0 : World} {G : List Hp} {R : Hp → List Hp} {ao : Option Addr} {n cap a b : Nat} {c : Hp} {d : Array Int} (hsel : Sel G c R) (hL : Ls enKd 59 (.slice ao n cap) c d.toList) (hab : a ≤ b) (hb : b ≤ d.size) (hn : d.size ≤ 1000000) :
    Go.Sl.Fn Try.prog 110 #[.slice ao n cap, .int .i64 a, .int .i64 b] B w0 G fun u G' => ∃ c' : Hp, u = .tuple #[] ∧ Ls enKd 59 (.slice ao n cap) c' (Sort.insertionSort Sort.ltInt d a b).toList ∧ G' = R c' := by
  refine Fn.sel0 hsel fun F hR hF => ?_
  have hl := hL.len
  have hok := hL.ok
  rw [Array.length_toList] at hl
  subst hl
  unfold Sort.insertionSort
  refine fn_enter Try.func110 rfl (by kernel_rfl) Try.ntmps110 (by simp) ?_
  refine cw_seq ?_
  refine cw_region ?_
  refine ow_val rfl rfl (v_move rfl) ?_
  refine ow_val rfl rfl (v_add rfl rfl (nw_i64 (by omega) (by omega))) ?_
  refine ow_val rfl rfl (v_assign rfl) ?_
  refine ow_nil ?_
  refine xw_then ?_
  refine cw_block ?_
  refine cw_loop2 (ι := ((Nat × Array Int × Hp))) [(0, _), (1, _), (2, _)] ⟨rfl, rfl, rfl, trivial⟩ ((fun x => [(6, .int .i64 x.1)])) ((fun x => a < x.1 ∧ x.1 ≤ max (a + 1) b ∧ x.2.1.size = d.size ∧ Sort.insOuter Sort.ltInt a b x.1 x.2.1 = Sort.insOuter Sort.ltInt a b (a + 1) d ∧ Ls enKd 59 (.slice ao d.size cap) x.2.2 x.2.1.toList)) ((fun x => max (a + 1) b - x.1)) ((fun x => x.2.2 :: F)) (((a + 1, d, c) : Nat × Array Int × Hp)) (by repeat (first | exact True.intro | refine And.intro rfl ?_)) (by first | exact Cov.refl _ | (intro p; simp only [List.flatten_cons, List.flatten_nil, List.flatten_append, List.append_nil, List.nil_append, cnt_append, cnt_cons, cnt_nil, List.set_cons_zero, List.set_cons_succ, List.length_nil, List.length_cons, Nat.zero_add, List.append]; omega)) ?_ ?_
  · exact ⟨Nat.lt_succ_self _, Nat.le_max_left .., rfl, rfl, hL⟩
  rintro ⟨i, d1, c1⟩ ⟨hi, hi2, hsz, he, hL1⟩
  dsimp only at hi hi2 hsz he hL1 ⊢
  refine cw_seq ?_
  refine cw_seq ?_
  refine cw_region ?_
  refine ow_val rfl rfl (v_move rfl) ?_
  refine ow_val rfl rfl (v_move rfl) ?_
  refine ow_val rfl rfl (v_lss rfl rfl) ?_
  refine ow_nil ?_
  refine xw_then ?_
  refine cw_dec rfl (fun hc12 => ?_) (fun hc12 => ?_)
  refine cw_skip ?_
  refine xw_then ?_
  refine cw_seq ?_
  refine cw_block ?_
  refine cw_seq ?_
  refine cw_region ?_
  refine ow_val rfl rfl (v_move rfl) ?_
  refine ow_val rfl rfl (v_assign rfl) ?_
  refine ow_nil ?_
  refine xw_then ?_
  refine cw_block ?_
  rotate_left
  refine cw_exit ?_
  refine xw_then_exit ?_
  refine xw_round_exit ?_
  refine xw_block_exit ?_
  refine ret0n rfl ?_
  rotate_left
  · skip
    refine cw_loop2 (ι := ((Nat × Array Int × Hp))) [(0, _), (1, _), (2, _), (6, _)] ⟨rfl, rfl, rfl, rfl, trivial⟩ ((fun x => [(7, .int .i64 x.1)])) ((fun x => a ≤ x.1 ∧ x.1 ≤ i ∧ x.2.1.size = d.size ∧ Sort.insInner Sort.ltInt a x.1 x.2.1 = Sort.insInner Sort.ltInt a i d1 ∧ Ls enKd 59 (.slice ao d.size cap) x.2.2 x.2.1.toList)) ((fun x => x.1)) ((fun x => x.2.2 :: F)) (((i, d1, c1) : Nat × Array Int × Hp)) (by repeat (first | exact True.intro | refine And.intro rfl ?_)) (by first | exact Cov.refl _ | (intro p; simp only [List.flatten_cons, List.flatten_nil, List.flatten_append, List.append_nil, List.nil_append, cnt_append, cnt_cons, cnt_nil, List.set_cons_zero, List.set_cons_succ, List.length_nil, List.length_cons, Nat.zero_add, List.append]; omega)) ?_ ?_
    · exact ⟨Nat.le_of_lt hi, Nat.le_refl _, hsz, rfl, hL1⟩
    rintro ⟨j, d2, c2⟩ ⟨hj, hj2, hsz2, he2, hL2⟩
    dsimp only at hj hj2 hsz2 he2 hL2 ⊢
    have hl2 : d2.toList.length = d.size := by rw [Array.length_toList]; exact hsz2
    refine cw_seq ?_
    refine cw_seq ?_
    refine cw_quiet Ty.mixed (by decide +kernel) ?_
    refine kw_val rfl rfl (v_move rfl) ?_
    refine kw_val rfl rfl (v_move rfl) ?_
    refine kw_val rfl rfl (v_gtr rfl rfl) ?_
    refine kw_val rfl rfl (v_move rfl) ?_
    refine kw_dec 19 rfl (fun hc19 => ?_) (fun hc19 => ?_)
    refine kw_val rfl rfl (v_move rfl) ?_
    refine kw_val rfl rfl (v_move rfl) ?_
    refine kw_val rfl rfl (v_indexAddr_ls Try.underlying99 (kdTy) rfl rfl (by assumption) rfl (by omega)) ?_
    refine kw_val rfl rfl (v_load rfl (Go.Sl.Vw.var (kdTy) ((hL2.vw (by repeat (first | exact Sub.here | exact Sub.nil | assumption | refine Sub.there ?_)))) (by omega))) ?_
    refine kw_val rfl rfl (v_move rfl) ?_
    refine kw_val rfl rfl (v_move rfl) ?_
    refine kw_val rfl rfl (v_sub rfl rfl (nw_i64 (by omega) (by omega))) ?_
    refine kw_val rfl rfl (v_indexAddr_ls Try.underlying99 (kdTy) rfl rfl (by assumption) (Int.toNat_of_nonneg (by omega)).symm (by omega)) ?_
    refine kw_val rfl rfl (v_load rfl (Go.Sl.Vw.var (kdTy) ((hL2.vw (by repeat (first | exact Sub.here | exact Sub.nil | assumption | refine Sub.there ?_)))) (by omega))) ?_
    refine kw_val rfl rfl (v_call rfl rfl (lessK_c)) ?_
    refine kw_val rfl rfl (v_pick_true rfl rfl) ?_
    refine kw_nil ?_
    refine xw_then ?_
    refine cw_dec rfl (fun hc30 => ?_) (fun hc30 => ?_)
    refine cw_skip ?_
    refine xw_then ?_
    rotate_left
    refine cw_exit ?_
    refine xw_then_exit ?_
    refine xw_round_exit ?_
    refine xw_block_exit ?_
    refine xw_block ?_
    refine xw_then ?_
    refine cw_region ?_
    refine ow_val rfl rfl (v_move rfl) ?_
    refine ow_val rfl rfl (v_add rfl rfl (nw_i64 (by omega) (by omega))) ?_
    refine ow_val rfl rfl (v_assign rfl) ?_
    refine ow_nil ?_
    rotate_left
    refine kw_skip rfl rfl ?_
    refine kw_skip rfl rfl ?_
    refine kw_skip rfl rfl ?_
    refine kw_skip rfl rfl ?_
    refine kw_skip rfl rfl ?_
    refine kw_skip rfl rfl ?_
    refine kw_skip rfl rfl ?_
    refine kw_skip rfl rfl ?_
    refine kw_skip rfl rfl ?_
    refine kw_skip rfl rfl ?_
    refine kw_val rfl rfl (v_pick_false rfl rfl) ?_
    refine kw_nil ?_
    refine xw_then ?_
    refine cw_false rfl ?_
    refine cw_exit ?_
    refine xw_then_exit ?_
    refine xw_round_exit ?_
    refine xw_block_exit ?_
    refine xw_block ?_
    refine xw_then ?_
    refine cw_region ?_
    refine ow_val rfl rfl (v_move rfl) ?_
    refine ow_val rfl rfl (v_add rfl rfl (nw_i64 (by omega) (by omega))) ?_
    refine ow_val rfl rfl (v_assign rfl) ?_
    refine ow_nil ?_
    rotate_left
    · have hone : ∀ x ∈ d2.toList, ∀ u ∈ enKd.f x, u.oneCell' = true := fun x hx => kdTy.one x (hL2.ok x hx)
      refine cw_seq ?_
      refine cw_block ?_
      refine cw_mix [] [15, 16, 17] [0, 1, 2, 3, 4, 5, 6, 7, 8, 9, 10, 11, 12, 13, 14] Ty.mixed rfl rfl rfl rfl (by decide +kernel) ?_
      refine hw_pure rfl rfl (v_move rfl) rfl ?_
      refine hw_pure rfl rfl (v_move rfl) rfl ?_
      refine hw_pure rfl rfl (v_move rfl) rfl ?_
      refine hw_pure rfl rfl (v_move rfl) rfl ?_
      refine hw_pure rfl rfl (v_sub rfl rfl (nw_i64 (by omega) (by omega))) rfl ?_
      refine hw_pure rfl rfl (v_move rfl) rfl ?_
      refine hw_pure rfl rfl (v_move rfl) rfl ?_
      refine hw_pure rfl rfl (v_sub rfl rfl (nw_i64 (by omega) (by omega))) rfl ?_
      refine hw_pure rfl rfl (v_indexAddr_ls Try.underlying99 (kdTy) rfl rfl (by assumption) (Int.toNat_of_nonneg (by omega)).symm (by omega)) rfl ?_
      refine hw_read rfl rfl rfl (v_load rfl (Go.Sl.Vw.var (kdTy) ((hL2.vw (by repeat (first | exact Sub.here | exact Sub.nil | assumption | refine Sub.there ?_)))) (by omega))) ?_
      refine hw_pure rfl rfl (v_move rfl) rfl ?_
      refine hw_pure rfl rfl (v_move rfl) rfl ?_
      refine hw_pure rfl rfl (v_indexAddr_ls Try.underlying99 (kdTy) rfl rfl (by assumption) rfl (by omega)) rfl ?_
      refine hw_read rfl rfl rfl (v_load rfl (Go.Sl.Vw.var (kdTy) ((hL2.vw (by repeat (first | exact Sub.here | exact Sub.nil | assumption | refine Sub.there ?_)))) (by omega))) ?_
      refine hw_pure rfl rfl (v_indexAddr_ls Try.underlying99 (kdTy) rfl rfl (by assumption) rfl (by omega)) rfl ?_
      refine hw_nil ?_
      refine sw_nil ?_
      refine ow_storeL (i := j) (a := d2.toList[((j : Int) - 1).toNat]'(by omega)) rfl rfl rfl kdTy hL2 (by repeat (first | exact Sel.here | apply Sel.there)) (by omega) (hL2.ok _ (List.getElem_mem _)) ?_
      intro csa hLsa
      have hlsa : (d2.toList.set j (d2.toList[((j : Int) - 1).toNat]'(by omega))).length = d2.toList.length := List.length_set
      refine ow_val rfl rfl (v_indexAddr_ls Try.underlying99 (kdTy) rfl rfl (by assumption) (Int.toNat_of_nonneg (by omega)).symm (by omega)) ?_
      refine ow_storeL (i := ((j : Int) - 1).toNat) (a := d2.toList[j]'(by omega)) rfl rfl rfl kdTy hLsa (by repeat (first | exact Sel.here | apply Sel.there)) (by rw [List.length_set]; omega) (hL2.ok _ (List.getElem_mem _)) ?_
      intro cs hLs
      rw [swpL (i' := j) (j' := j - 1) (bangD _ (by omega)) (bangD _ (by omega)) (by omega) (by omega)] at hLs
      refine ow_nil ?_
      refine xw_np ?_
      refine xw_block ?_
      refine xw_then ?_
      refine cw_region ?_
      refine ow_val rfl rfl (v_move rfl) ?_
      refine ow_val rfl rfl (v_sub rfl rfl (nw_i64 (by omega) (by omega))) ?_
      refine ow_val rfl rfl (v_assign rfl) ?_
      refine ow_nil ?_
      refine xw_round ((j - 1, Sort.swp d2 j (j - 1), cs) : Nat × Array Int × Hp) ⟨by dsimp only; omega, by dsimp only; omega, by dsimp only; rw [swp_sz]; exact hsz2, ?_, hLs⟩ (by dsimp only; omega) (by first | exact Cov.refl _ | (intro p; simp only [List.flatten_cons, List.flatten_nil, List.flatten_append, List.append_nil, List.nil_append, cnt_append, cnt_cons, cnt_nil, List.set_cons_zero, List.set_cons_succ, List.length_nil, List.length_cons, Nat.zero_add, List.append]; omega)) (by repeat (first | exact True.intro | refine And.intro rfl ?_ | refine And.intro (congrArg (fun z : Int => some (Value.int IntKind.i64 z)) (show _ = _ by omega)) ?_))
      dsimp only
      rw [bangD (i := j) _ rfl, bangD (i := j - 1) _ (by omega)] at hc30
      rw [← he2]
      obtain ⟨j', rfl⟩ : ∃ j', j = j' + 1 := ⟨j - 1, by omega⟩
      exact (ins_go (by omega) hc30).symm
    · refine xw_round ((i + 1, d2, c2) : Nat × Array Int × Hp) ⟨by dsimp only; omega, by dsimp only; omega, hsz2, ?_, hL2⟩ (by dsimp only; omega) (by first | exact Cov.refl _ | (intro p; simp only [List.flatten_cons, List.flatten_nil, List.flatten_append, List.append_nil, List.nil_append, cnt_append, cnt_cons, cnt_nil, List.set_cons_zero, List.set_cons_succ, List.length_nil, List.length_cons, Nat.zero_add, List.append]; omega)) (by repeat (first | exact True.intro | refine And.intro rfl ?_))
      dsimp only
      rw [bangD (i := j) _ rfl, bangD (i := j - 1) _ (by omega)] at hc30
      rw [← he, insO_go (i := i) (by omega), ← he2, ins_stop (fun h => hc30 h.2)]
    · refine xw_round ((i + 1, d2, c2) : Nat × Array Int × Hp) ⟨by dsimp only; omega, by dsimp only; omega, hsz2, ?_, hL2⟩ (by dsimp only; omega) (by first | exact Cov.refl _ | (intro p; simp only [List.flatten_cons, List.flatten_nil, List.flatten_append, List.append_nil, List.nil_append, cnt_append, cnt_cons, cnt_nil, List.set_cons_zero, List.set_cons_succ, List.length_nil, List.length_cons, Nat.zero_add, List.append]; omega)) (by repeat (first | exact True.intro | refine And.intro rfl ?_))
      dsimp only
      rw [← he, insO_go (i := i) (by omega), ← he2, ins_stop (fun h => by have := h.1; omega)]
  · rw [insO_stop (by omega)] at he
    rw [← he]
    exact ⟨c1, rfl, hL1, (by first | exact Cov.refl _ | (intro p; simp only [List.flatten_cons, List.flatten_nil, List.flatten_append, List.append_nil, List.nil_append, cnt_append, cnt_cons, cnt_nil, List.set_cons_zero, List.set_cons_succ, List.length_nil, List.length_cons, Nat.zero_add, List.append]; omega))⟩

end Go.Proofs.Ytckdhelnafjddaa
