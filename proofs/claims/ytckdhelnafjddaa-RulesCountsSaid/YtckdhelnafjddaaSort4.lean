/- The library's sort at lists of small numbers: part of the insertion. Conditions: lists are short. -/
import Derived.Test.YtckdhelnafjddaaSort
namespace Go.Proofs.Ytckdhelnafjddaa
open Go Go.Sl Go.Proofs
set_option maxRecDepth 20000
set_option linter.unusedVariables false
set_option linter.unusedSimpArgs false

set_option maxHeartbeats 8000000 in
theorem pinsK_c {B : Nat} {w0 : World} {G : List Hp} {R : Hp → List Hp} {ao : Option Addr} {n cap a b : Nat} {c : Hp} {d : Array Int} (hsel : Sel G c R) (hL : Ls enKd 59 (.slice ao n cap) c d.toList) (hab : a < b) (hb : b ≤ d.size) (hn : d.size ≤ 1000000) :
    Go.Sl.Fn Try.prog 115 #[.slice ao n cap, .int .i64 a, .int .i64 b] B w0 G fun u G' => ∃ c' : Hp, u = .bool (Sort.partialInsertionSort Sort.ltInt d a b).2 ∧ Ls enKd 59 (.slice ao n cap) c' (Sort.partialInsertionSort Sort.ltInt d a b).1.toList ∧ G' = R c' := by
  refine Fn.sel0 hsel fun F hR hF => ?_
  have hl := hL.len
  rw [Array.length_toList] at hl
  subst hl
  unfold Sort.partialInsertionSort
  refine fn_enter Try.func115 rfl (by kernel_rfl) Try.ntmps115 (by simp) ?_
  refine cw_seq ?_
  refine cw_region ?_
  refine ow_val rfl rfl (v_assign rfl) ?_
  refine ow_nil ?_
  refine xw_then ?_
  refine cw_seq ?_
  refine cw_region ?_
  refine ow_val rfl rfl (v_move rfl) ?_
  refine ow_val rfl rfl (v_add rfl rfl (nw_i64 (by omega) (by omega))) ?_
  refine ow_val rfl rfl (v_assign rfl) ?_
  refine ow_nil ?_
  refine xw_then ?_
  refine cw_seq ?_
  refine cw_seq ?_
  refine cw_region ?_
  refine ow_val rfl rfl (v_assign rfl) ?_
  refine ow_nil ?_
  refine xw_then ?_
  refine cw_block ?_
  refine cw_loop2 (ι := ((Nat × Nat × Array Int × Hp))) [(0, _), (1, _), (2, _)] ⟨rfl, rfl, rfl, trivial⟩ ((fun x => [(8, .int .i64 x.1), (7, .int .i64 x.2.1)])) ((fun x => x.1 ≤ 5 ∧ a + 1 ≤ x.2.1 ∧ x.2.1 ≤ b ∧ x.2.2.1.size = d.size ∧ Sort.partialIns Sort.ltInt a b (5 - x.1) x.2.1 x.2.2.1 = Sort.partialIns Sort.ltInt a b 5 (a + 1) d ∧ Ls enKd 59 (.slice ao d.size cap) x.2.2.2 x.2.2.1.toList)) ((fun x => 5 - x.1)) ((fun x => x.2.2.2 :: F)) (((0, a + 1, d, c) : Nat × Nat × Array Int × Hp)) (by repeat (first | exact True.intro | refine And.intro rfl ?_)) (by first | exact Cov.refl _ | (intro p; simp only [List.flatten_cons, List.flatten_nil, List.flatten_append, List.append_nil, List.nil_append, cnt_append, cnt_cons, cnt_nil, List.set_cons_zero, List.set_cons_succ, List.length_nil, List.length_cons, Nat.zero_add, List.append]; omega)) ?_ ?_
  · exact ⟨Nat.zero_le _, Nat.le_refl _, hab, rfl, rfl, hL⟩
  rintro ⟨t, i, d1, c1⟩ ⟨ht, hi1, hi2, hsz, he, hL1⟩
  dsimp only at ht hi1 hi2 hsz he hL1 ⊢
  have hl1 : d1.toList.length = d.size := by rw [Array.length_toList]; exact hsz
  refine cw_seq ?_
  refine cw_seq ?_
  refine cw_region ?_
  refine ow_val rfl rfl (v_move rfl) ?_
  refine ow_val rfl rfl (v_lss rfl rfl) ?_
  refine ow_nil ?_
  refine xw_then ?_
  refine cw_dec rfl (fun hc14 => ?_) (fun hc14 => ?_)
  refine cw_skip ?_
  refine xw_then ?_
  rotate_left
  refine cw_exit ?_
  refine xw_then_exit ?_
  refine xw_round_exit ?_
  refine xw_block_exit ?_
  refine xw_then ?_
  rotate_left
  · obtain ⟨t', ht'⟩ : ∃ t', 5 - t = t' + 1 := ⟨5 - t - 1, by omega⟩
    have hq := fun k e1 e2 => pIns_eq (d := d1) (d1 := e1) (d2 := e2) (a := a) (b := b) (s := t') (i := i) (k := k)
    rw [← ht', he] at hq
    refine cw_seq ?_
    refine cw_block ?_
    refine cw_cut2 (ι := (Nat)) [(0, _), (1, _), (2, _), (8, _)] ⟨rfl, rfl, rfl, rfl, trivial⟩ ((fun k => [(7, .int .i64 k)])) ((fun k => i ≤ k ∧ k ≤ b ∧ Sort.scanSorted Sort.ltInt d1 b i = k)) ((fun _ => c1 :: F)) ?_ ?_
    · refine cw_block ?_
      refine cw_loop2 (ι := (Nat)) [(0, _), (1, _), (2, _), (8, _)] ⟨rfl, rfl, rfl, rfl, trivial⟩ ((fun k => [(7, .int .i64 k)])) ((fun k => i ≤ k ∧ k ≤ b ∧ Sort.scanSorted Sort.ltInt d1 b k = Sort.scanSorted Sort.ltInt d1 b i)) ((fun k => b - k)) ((fun _ => c1 :: F)) ((i : Nat)) (by repeat (first | exact True.intro | refine And.intro rfl ?_)) (by first | exact Cov.refl _ | (intro p; simp only [List.flatten_cons, List.flatten_nil, List.flatten_append, List.append_nil, List.nil_append, cnt_append, cnt_cons, cnt_nil, List.set_cons_zero, List.set_cons_succ, List.length_nil, List.length_cons, Nat.zero_add, List.append]; omega)) ?_ ?_
      · exact ⟨Nat.le_refl _, hi2, rfl⟩
      rintro k ⟨hk1, hk2, hk3⟩
      refine cw_seq ?_
      refine cw_seq ?_
      refine cw_quiet Ty.mixed (by decide +kernel) ?_
      refine kw_val rfl rfl (v_move rfl) ?_
      refine kw_val rfl rfl (v_move rfl) ?_
      refine kw_val rfl rfl (v_lss rfl rfl) ?_
      refine kw_val rfl rfl (v_move rfl) ?_
      refine kw_dec 20 rfl (fun hc20 => ?_) (fun hc20 => ?_)
      refine kw_val rfl rfl (v_move rfl) ?_
      refine kw_val rfl rfl (v_move rfl) ?_
      refine kw_val rfl rfl (v_indexAddr_ls Try.underlying99 (kdTy) rfl rfl (by assumption) rfl (by omega)) ?_
      refine kw_val rfl rfl (v_load rfl (Go.Sl.Vw.var (kdTy) ((hL1.vw (by repeat (first | exact Sub.here | exact Sub.nil | assumption | refine Sub.there ?_)))) (by omega))) ?_
      refine kw_val rfl rfl (v_move rfl) ?_
      refine kw_val rfl rfl (v_move rfl) ?_
      refine kw_val rfl rfl (v_sub rfl rfl (nw_i64 (by omega) (by omega))) ?_
      refine kw_val rfl rfl (v_indexAddr_ls Try.underlying99 (kdTy) rfl rfl (by assumption) (Int.toNat_of_nonneg (by omega)).symm (by omega)) ?_
      refine kw_val rfl rfl (v_load rfl (Go.Sl.Vw.var (kdTy) ((hL1.vw (by repeat (first | exact Sub.here | exact Sub.nil | assumption | refine Sub.there ?_)))) (by omega))) ?_
      refine kw_val rfl rfl (v_call rfl rfl (lessK_c)) ?_
      refine kw_val rfl rfl (v_not rfl) ?_
      refine kw_val rfl rfl (v_pick_true rfl rfl) ?_
      refine kw_nil ?_
      refine xw_then ?_
      refine cw_dec rfl (fun hc32 => ?_) (fun hc32 => ?_)
      refine cw_skip ?_
      refine xw_then ?_
      refine cw_block ?_
      refine cw_region ?_
      refine ow_val rfl rfl (v_move rfl) ?_
      refine ow_val rfl rfl (v_add rfl rfl (nw_i64 (by omega) (by omega))) ?_
      refine ow_val rfl rfl (v_assign rfl) ?_
      refine ow_nil ?_
      refine xw_block ?_
      rotate_left
      refine cw_exit ?_
      refine xw_then_exit ?_
      refine xw_round_exit ?_
      refine xw_block_exit ?_
      rotate_left
      refine kw_skip rfl rfl ?_
      refine kw_skip rfl rfl ?_
      refine kw_skip rfl rfl ?_
      refine kw_skip rfl rfl ?_
      refine kw_skip rfl rfl ?_
      refine kw_skip rfl rfl ?_
      refine kw_skip rfl rfl ?_
      refine kw_skip rfl rfl ?_
      refine kw_skip rfl rfl ?_
      refine kw_skip rfl rfl ?_
      refine kw_skip rfl rfl ?_
      refine kw_val rfl rfl (v_pick_false rfl rfl) ?_
      refine kw_nil ?_
      refine xw_then ?_
      refine cw_false rfl ?_
      refine cw_exit ?_
      refine xw_then_exit ?_
      refine xw_round_exit ?_
      refine xw_block_exit ?_
      rotate_left
      · rw [bangD (i := k) _ rfl, bangD (i := k - 1) _ (by omega)] at hc32
        exact xw_round (k + 1) ⟨by omega, by omega, by rw [← hk3]; exact (scanSorted_go (by omega) (by simpa using hc32)).symm⟩ (by omega) (by first | exact Cov.refl _ | (intro p; simp only [List.flatten_cons, List.flatten_nil, List.flatten_append, List.append_nil, List.nil_append, cnt_append, cnt_cons, cnt_nil, List.set_cons_zero, List.set_cons_succ, List.length_nil, List.length_cons, Nat.zero_add, List.append]; omega)) (by repeat (first | exact True.intro | refine And.intro rfl ?_))
      · rw [bangD (i := k) _ rfl, bangD (i := k - 1) _ (by omega)] at hc32
        exact xw_joint k ⟨hk1, hk2, by rw [← hk3]; exact scanSorted_stop (fun h => hc32 (by simpa using h.2))⟩ (by first | exact Cov.refl _ | (intro p; simp only [List.flatten_cons, List.flatten_nil, List.flatten_append, List.append_nil, List.nil_append, cnt_append, cnt_cons, cnt_nil, List.set_cons_zero, List.set_cons_succ, List.length_nil, List.length_cons, Nat.zero_add, List.append]; omega)) (by repeat (first | exact True.intro | refine And.intro rfl ?_))
      · exact xw_joint k ⟨hk1, hk2, by rw [← hk3]; exact scanSorted_stop (fun h => by have := h.1; omega)⟩ (by first | exact Cov.refl _ | (intro p; simp only [List.flatten_cons, List.flatten_nil, List.flatten_append, List.append_nil, List.nil_append, cnt_append, cnt_cons, cnt_nil, List.set_cons_zero, List.set_cons_succ, List.length_nil, List.length_cons, Nat.zero_add, List.append]; omega)) (by repeat (first | exact True.intro | refine And.intro rfl ?_))
    rintro k ⟨hk1, hk2, hk3⟩
    have hq2 := fun e1 e2 => hq k e1 e2 hk3
    refine cw_seq ?_
    refine cw_seq ?_
    refine cw_region ?_
    refine ow_val rfl rfl (v_move rfl) ?_
    refine ow_val rfl rfl (v_move rfl) ?_
    refine ow_val rfl rfl (v_eql rfl rfl) ?_
    refine ow_nil ?_
    refine xw_then ?_
    refine cw_dec rfl (fun hc37 => ?_) (fun hc37 => ?_)
    refine cw_seq ?_
    refine cw_region ?_
    refine ow_val rfl rfl (v_assign rfl) ?_
    refine ow_nil ?_
    refine xw_then ?_
    refine cw_ret ?_
    refine xw_then_ret ?_
    refine xw_block_ret ?_
    refine xw_then_ret ?_
    refine xw_round_ret ?_
    refine xw_block_ret ?_
    refine xw_then_ret ?_
    refine ret1 rfl (res_tmp rfl) ?_
    rotate_left
    refine cw_skip ?_
    refine xw_then ?_
    refine cw_seq ?_
    refine cw_seq ?_
    refine cw_region ?_
    refine ow_val rfl rfl (v_move rfl) ?_
    refine ow_val rfl rfl (v_move rfl) ?_
    refine ow_val rfl rfl (v_sub rfl rfl (nw_i64 (by omega) (by omega))) ?_
    refine ow_val rfl rfl (v_lss rfl rfl) ?_
    refine ow_nil ?_
    refine xw_then ?_
    refine cw_dec rfl (fun hc41 => ?_) (fun hc41 => ?_)
    refine cw_seq ?_
    refine cw_region ?_
    refine ow_val rfl rfl (v_assign rfl) ?_
    refine ow_nil ?_
    refine xw_then ?_
    refine cw_ret ?_
    refine xw_then_ret ?_
    refine xw_block_ret ?_
    refine xw_then_ret ?_
    refine xw_round_ret ?_
    refine xw_block_ret ?_
    refine xw_then_ret ?_
    refine ret1 rfl (res_tmp rfl) ?_
    rotate_left
    refine cw_skip ?_
    refine xw_then ?_
    rotate_left
    · rw [hq2 _ _ rfl rfl, if_pos (by omega)]
      exact ⟨c1, rfl, hL1, (by first | exact Cov.refl _ | (intro p; simp only [List.flatten_cons, List.flatten_nil, List.flatten_append, List.append_nil, List.nil_append, cnt_append, cnt_cons, cnt_nil, List.set_cons_zero, List.set_cons_succ, List.length_nil, List.length_cons, Nat.zero_add, List.append]; omega))⟩
    · rw [hq2 _ _ rfl rfl, if_neg (by omega), if_pos (by omega)]
      exact ⟨c1, rfl, hL1, (by first | exact Cov.refl _ | (intro p; simp only [List.flatten_cons, List.flatten_nil, List.flatten_append, List.append_nil, List.nil_append, cnt_append, cnt_cons, cnt_nil, List.set_cons_zero, List.set_cons_succ, List.length_nil, List.length_cons, Nat.zero_add, List.append]; omega))⟩
    refine cw_seq ?_
    refine cw_mix [] [15, 16, 17] [0, 1, 2, 3, 4, 5, 6, 7, 8, 9, 10, 11, 12, 13, 14] Ty.mixed rfl rfl rfl rfl (by decide +kernel) ?_
    refine hw_pure rfl rfl (v_move rfl) rfl ?_
    refine hw_pure rfl rfl (v_move rfl) rfl ?_
    refine hw_pure rfl rfl (v_move rfl) rfl ?_
    refine hw_pure rfl rfl (v_move rfl) rfl ?_
    refine hw_pure rfl rfl (v_sub rfl rfl (nw_i64 (by omega) (by omega))) rfl ?_
    refine hw_pure rfl rfl (v_move rfl) rfl ?_
    refine hw_pure rfl rfl (v_move rfl) rfl ?_
    refine hw_pure rfl rfl (v_sub rfl rfl (nw_i64 (by omega) (by omega))) rfl ?_
    refine hw_pure rfl rfl (v_indexAddr_ls Try.underlying99 (kdTy) rfl rfl (by assumption) (Int.toNat_of_nonneg (by omega)).symm (by omega)) rfl ?_
    refine hw_read rfl rfl rfl (v_load rfl (Go.Sl.Vw.var (kdTy) ((hL1.vw (by repeat (first | exact Sub.here | exact Sub.nil | assumption | refine Sub.there ?_)))) (by omega))) ?_
    refine hw_pure rfl rfl (v_move rfl) rfl ?_
    refine hw_pure rfl rfl (v_move rfl) rfl ?_
    refine hw_pure rfl rfl (v_indexAddr_ls Try.underlying99 (kdTy) rfl rfl (by assumption) rfl (by omega)) rfl ?_
    refine hw_read rfl rfl rfl (v_load rfl (Go.Sl.Vw.var (kdTy) ((hL1.vw (by repeat (first | exact Sub.here | exact Sub.nil | assumption | refine Sub.there ?_)))) (by omega))) ?_
    refine hw_pure rfl rfl (v_indexAddr_ls Try.underlying99 (kdTy) rfl rfl (by assumption) rfl (by omega)) rfl ?_
    refine hw_nil ?_
    refine sw_nil ?_
    refine ow_storeL (i := k) (a := d1.toList[((k : Int) - 1).toNat]'(by omega)) rfl rfl rfl kdTy hL1 (by repeat (first | exact Sel.here | apply Sel.there)) (by omega) (hL1.ok _ (List.getElem_mem _)) ?_
    intro csa hLsa
    have hlsa : (d1.toList.set k (d1.toList[((k : Int) - 1).toNat]'(by omega))).length = d1.toList.length := List.length_set
    refine ow_val rfl rfl (v_indexAddr_ls Try.underlying99 (kdTy) rfl rfl (by assumption) (Int.toNat_of_nonneg (by omega)).symm (by omega)) ?_
    refine ow_storeL (i := ((k : Int) - 1).toNat) (a := d1.toList[k]'(by omega)) rfl rfl rfl kdTy hLsa (by repeat (first | exact Sel.here | apply Sel.there)) (by rw [List.length_set]; omega) (hL1.ok _ (List.getElem_mem _)) ?_
    intro cs hLs
    rw [swpL (i' := k) (j' := k - 1) (bangD _ (by omega)) (bangD _ (by omega)) (by omega) (by omega)] at hLs
    have hszs : (Sort.swp d1 k (k - 1)).size = d.size := by rw [swp_sz]; exact hsz
    generalize Sort.swp d1 k (k - 1) = ds at *
    refine ow_nil ?_
    refine xw_np ?_
    refine xw_then ?_
    refine cw_cut2 (ι := ((Array Int × Hp))) [(0, _), (1, _), (2, _), (7, _), (8, _)] ⟨rfl, rfl, rfl, rfl, rfl, trivial⟩ ((fun _ => [])) ((fun x => x.1.size = d.size ∧ x.1 = (if k - a ≥ 2 then Sort.shiftDown Sort.ltInt (k - 1) ds else ds) ∧ Ls enKd 59 (.slice ao d.size cap) x.2 x.1.toList)) ((fun x => x.2 :: F)) ?_ ?_
    · refine cw_seq ?_
      refine cw_region ?_
      refine ow_val rfl rfl (v_move rfl) ?_
      refine ow_val rfl rfl (v_move rfl) ?_
      refine ow_val rfl rfl (v_sub rfl rfl (nw_i64 (by omega) (by omega))) ?_
      refine ow_val rfl rfl (v_geq rfl rfl) ?_
      refine ow_nil ?_
      refine xw_then ?_
      refine cw_dec rfl (fun hc61 => ?_) (fun hc61 => ?_)
      refine cw_seq ?_
      refine cw_region ?_
      refine ow_val rfl rfl (v_move rfl) ?_
      refine ow_val rfl rfl (v_sub rfl rfl (nw_i64 (by omega) (by omega))) ?_
      refine ow_val rfl rfl (v_assign rfl) ?_
      refine ow_nil ?_
      refine xw_then ?_
      refine cw_block ?_
      rotate_left
      refine cw_skip ?_
      rotate_left
      · refine cw_env ((0, .slice ao d.size cap) :: (1, .int .i64 a) :: (2, .int .i64 b) :: (7, .int .i64 k) :: (8, .int .i64 t) :: (9, .int .i64 ((k - 1 : Nat) : Int)) :: []) (by repeat (first | exact True.intro | refine And.intro rfl ?_ | refine And.intro (congrArg (fun z : Int => some (Value.int IntKind.i64 z)) (by (try dsimp only); omega)) ?_)) ?_
        refine cw_loop2 (ι := ((Nat × Array Int × Hp))) [(0, _), (1, _), (2, _), (7, _), (8, _)] ⟨rfl, rfl, rfl, rfl, rfl, trivial⟩ ((fun x => [(9, .int .i64 x.1)])) ((fun x => x.1 ≤ k - 1 ∧ x.2.1.size = d.size ∧ Sort.shiftDown Sort.ltInt x.1 x.2.1 = Sort.shiftDown Sort.ltInt (k - 1) ds ∧ Ls enKd 59 (.slice ao d.size cap) x.2.2 x.2.1.toList)) ((fun x => x.1)) ((fun x => x.2.2 :: F)) (((k - 1, ds, cs) : Nat × Array Int × Hp)) (by repeat (first | exact True.intro | refine And.intro rfl ?_)) (by first | exact Cov.refl _ | (intro p; simp only [List.flatten_cons, List.flatten_nil, List.flatten_append, List.append_nil, List.nil_append, cnt_append, cnt_cons, cnt_nil, List.set_cons_zero, List.set_cons_succ, List.length_nil, List.length_cons, Nat.zero_add, List.append]; omega)) ?_ ?_
        · exact ⟨Nat.le_refl _, hszs, rfl, hLs⟩
        rintro ⟨j, d2, c2⟩ ⟨hj, hsz2, he2, hL2⟩
        dsimp only at hj hsz2 he2 hL2 ⊢
        have hl2 : d2.toList.length = d.size := by rw [Array.length_toList]; exact hsz2
        refine cw_seq ?_
        refine cw_seq ?_
        refine cw_region ?_
        refine ow_val rfl rfl (v_move rfl) ?_
        refine ow_val rfl rfl (v_geq rfl rfl) ?_
        refine ow_nil ?_
        refine xw_then ?_
        refine cw_dec rfl (fun hc65 => ?_) (fun hc65 => ?_)
        refine cw_skip ?_
        refine xw_then ?_
        refine cw_seq ?_
        refine cw_block ?_
        refine cw_seq ?_
        refine cw_seq ?_
        refine cw_quiet Ty.mixed (by decide +kernel) ?_
        refine kw_val rfl rfl (v_move rfl) ?_
        refine kw_val rfl rfl (v_move rfl) ?_
        refine kw_val rfl rfl (v_indexAddr_ls Try.underlying99 (kdTy) rfl rfl (by assumption) rfl (by omega)) ?_
        refine kw_val rfl rfl (v_load rfl (Go.Sl.Vw.var (kdTy) ((hL2.vw (by repeat (first | exact Sub.here | exact Sub.nil | assumption | refine Sub.there ?_)))) (by omega))) ?_
        refine kw_val rfl rfl (v_move rfl) ?_
        refine kw_val rfl rfl (v_move rfl) ?_
        refine kw_val rfl rfl (v_sub rfl rfl (nw_i64 (by omega) (by omega))) ?_
        refine kw_val rfl rfl (v_indexAddr_ls Try.underlying99 (kdTy) rfl rfl (by assumption) (Int.toNat_of_nonneg (by omega)).symm (by omega)) ?_
        refine kw_val rfl rfl (v_load rfl (Go.Sl.Vw.var (kdTy) ((hL2.vw (by repeat (first | exact Sub.here | exact Sub.nil | assumption | refine Sub.there ?_)))) (by omega))) ?_
        refine kw_val rfl rfl (v_call rfl rfl (lessK_c)) ?_
        refine kw_val rfl rfl (v_not rfl) ?_
        refine kw_nil ?_
        refine xw_then ?_
        refine cw_dec rfl (fun hc78 => ?_) (fun hc78 => ?_)
        refine cw_exit ?_
        refine xw_then_exit ?_
        refine xw_block_other rfl ?_
        refine xw_then_exit ?_
        refine xw_round_exit ?_
        refine xw_block_exit ?_
        rotate_left
        refine cw_skip ?_
        refine xw_then ?_
        refine cw_mix [] [15, 16, 17] [0, 1, 2, 3, 4, 5, 6, 7, 8, 9, 10, 11, 12, 13, 14] Ty.mixed rfl rfl rfl rfl (by decide +kernel) ?_
        refine hw_pure rfl rfl (v_move rfl) rfl ?_
        refine hw_pure rfl rfl (v_move rfl) rfl ?_
        refine hw_pure rfl rfl (v_move rfl) rfl ?_
        refine hw_pure rfl rfl (v_move rfl) rfl ?_
        refine hw_pure rfl rfl (v_sub rfl rfl (nw_i64 (by omega) (by omega))) rfl ?_
        refine hw_pure rfl rfl (v_move rfl) rfl ?_
        refine hw_pure rfl rfl (v_move rfl) rfl ?_
        refine hw_pure rfl rfl (v_sub rfl rfl (nw_i64 (by omega) (by omega))) rfl ?_
        refine hw_pure rfl rfl (v_indexAddr_ls Try.underlying99 (kdTy) rfl rfl (by assumption) (Int.toNat_of_nonneg (by omega)).symm (by omega)) rfl ?_
        refine hw_read rfl rfl rfl (v_load rfl (Go.Sl.Vw.var (kdTy) ((hL2.vw (by repeat (first | exact Sub.here | exact Sub.nil | assumption | refine Sub.there ?_)))) (by omega))) ?_
        refine hw_pure rfl rfl (v_move rfl) rfl ?_
        refine hw_pure rfl rfl (v_move rfl) rfl ?_
        refine hw_pure rfl rfl (v_indexAddr_ls Try.underlying99 (kdTy) rfl rfl (by assumption) rfl (by omega)) rfl ?_
        refine hw_read rfl rfl rfl (v_load rfl (Go.Sl.Vw.var (kdTy) ((hL2.vw (by repeat (first | exact Sub.here | exact Sub.nil | assumption | refine Sub.there ?_)))) (by omega))) ?_
        refine hw_pure rfl rfl (v_indexAddr_ls Try.underlying99 (kdTy) rfl rfl (by assumption) rfl (by omega)) rfl ?_
        refine hw_nil ?_
        refine sw_nil ?_
        rotate_left
        refine cw_exit ?_
        refine xw_then_exit ?_
        refine xw_round_exit ?_
        refine xw_block_exit ?_
        rotate_left
        · rw [bangD (i := j) _ rfl, bangD (i := j - 1) _ (by omega)] at hc78
          rw [shiftDown_stop (fun h => by simp [h.2] at hc78)] at he2
          exact xw_joint ((d2, c2) : Array Int × Hp) ⟨hsz2, by dsimp only; rw [if_pos (by omega)]; exact he2, hL2⟩ (by first | exact Cov.refl _ | (intro p; simp only [List.flatten_cons, List.flatten_nil, List.flatten_append, List.append_nil, List.nil_append, cnt_append, cnt_cons, cnt_nil, List.set_cons_zero, List.set_cons_succ, List.length_nil, List.length_cons, Nat.zero_add, List.append]; omega)) (by repeat (first | exact True.intro | refine And.intro rfl ?_))
        · rw [bangD (i := j) _ rfl, bangD (i := j - 1) _ (by omega)] at hc78
          rw [shiftDown_go (by omega) (by simpa using hc78)] at he2
          skip
          refine ow_storeL (i := j) (a := d2.toList[((j : Int) - 1).toNat]'(by omega)) rfl rfl rfl kdTy hL2 (by repeat (first | exact Sel.here | apply Sel.there)) (by omega) (hL2.ok _ (List.getElem_mem _)) ?_
          intro cua hLua
          have hlua : (d2.toList.set j (d2.toList[((j : Int) - 1).toNat]'(by omega))).length = d2.toList.length := List.length_set
          refine ow_val rfl rfl (v_indexAddr_ls Try.underlying99 (kdTy) rfl rfl (by assumption) (Int.toNat_of_nonneg (by omega)).symm (by omega)) ?_
          refine ow_storeL (i := ((j : Int) - 1).toNat) (a := d2.toList[j]'(by omega)) rfl rfl rfl kdTy hLua (by repeat (first | exact Sel.here | apply Sel.there)) (by rw [List.length_set]; omega) (hL2.ok _ (List.getElem_mem _)) ?_
          intro cu hLu
          rw [swpL (i' := j) (j' := j - 1) (bangD _ (by omega)) (bangD _ (by omega)) (by omega) (by omega)] at hLu
          refine ow_nil ?_
          refine xw_np ?_
          refine xw_block ?_
          refine xw_then ?_
          refine cw_region ?_
          refine ow_val rfl rfl (v_move rfl) ?_
          refine ow_val rfl rfl (v_sub rfl rfl (nw_i64 (by omega) (by omega))) ?_
          refine ow_val rfl rfl (v_assign rfl) ?_
          refine ow_nil ?_
          exact xw_round ((j - 1, Sort.swp d2 j (j - 1), cu) : Nat × Array Int × Hp) ⟨by dsimp only; omega, by dsimp only; rw [swp_sz]; exact hsz2, he2, hLu⟩ (by dsimp only; omega) (by first | exact Cov.refl _ | (intro p; simp only [List.flatten_cons, List.flatten_nil, List.flatten_append, List.append_nil, List.nil_append, cnt_append, cnt_cons, cnt_nil, List.set_cons_zero, List.set_cons_succ, List.length_nil, List.length_cons, Nat.zero_add, List.append]; omega)) (by repeat (first | exact True.intro | refine And.intro rfl ?_ | refine And.intro (congrArg (fun z : Int => some (Value.int IntKind.i64 z)) (by (try dsimp only); omega)) ?_))
        · rw [shiftDown_stop (fun h => by have := h.1; omega)] at he2
          exact xw_joint ((d2, c2) : Array Int × Hp) ⟨hsz2, by dsimp only; rw [if_pos (by omega)]; exact he2, hL2⟩ (by first | exact Cov.refl _ | (intro p; simp only [List.flatten_cons, List.flatten_nil, List.flatten_append, List.append_nil, List.nil_append, cnt_append, cnt_cons, cnt_nil, List.set_cons_zero, List.set_cons_succ, List.length_nil, List.length_cons, Nat.zero_add, List.append]; omega)) (by repeat (first | exact True.intro | refine And.intro rfl ?_))
      · exact xw_joint ((ds, cs) : Array Int × Hp) ⟨hszs, by dsimp only; rw [if_neg (by omega)], hLs⟩ (by first | exact Cov.refl _ | (intro p; simp only [List.flatten_cons, List.flatten_nil, List.flatten_append, List.append_nil, List.nil_append, cnt_append, cnt_cons, cnt_nil, List.set_cons_zero, List.set_cons_succ, List.length_nil, List.length_cons, Nat.zero_add, List.append]; omega)) (by repeat (first | exact True.intro | refine And.intro rfl ?_))
    rintro ⟨d3, c3⟩ ⟨hsz3, he3, hL3⟩
    dsimp only at hsz3 he3 hL3 ⊢
    have hend : ∀ (d4 : Array Int), d4 = (if b - k ≥ 2 then Sort.shiftUp Sort.ltInt b (k + 1) d3 else d3) → Sort.partialIns Sort.ltInt a b (5 - (t + 1)) k d4 = Sort.partialIns Sort.ltInt a b 5 (a + 1) d := fun d4 h4 => by
      have hq3 := hq2 d3 d4 he3 h4
      rw [if_neg (by omega), if_neg (by omega)] at hq3
      rw [show 5 - (t + 1) = t' by omega]
      exact hq3.symm
    refine cw_seq ?_
    refine cw_region ?_
    refine ow_val rfl rfl (v_move rfl) ?_
    refine ow_val rfl rfl (v_move rfl) ?_
    refine ow_val rfl rfl (v_sub rfl rfl (nw_i64 (by omega) (by omega))) ?_
    refine ow_val rfl rfl (v_geq rfl rfl) ?_
    refine ow_nil ?_
    refine xw_then ?_
    refine cw_dec rfl (fun hc98 => ?_) (fun hc98 => ?_)
    refine cw_seq ?_
    refine cw_region ?_
    refine ow_val rfl rfl (v_move rfl) ?_
    refine ow_val rfl rfl (v_add rfl rfl (nw_i64 (by omega) (by omega))) ?_
    refine ow_val rfl rfl (v_assign rfl) ?_
    refine ow_nil ?_
    refine xw_then ?_
    refine cw_block ?_
    rotate_left
    refine cw_skip ?_
    refine xw_block ?_
    refine xw_then ?_
    refine cw_region ?_
    refine ow_val rfl rfl (v_move rfl) ?_
    refine ow_val rfl rfl (v_add rfl rfl (nw_i64 (by omega) (by omega))) ?_
    refine ow_val rfl rfl (v_assign rfl) ?_
    refine ow_nil ?_
    rotate_left
    · refine cw_loop2 (ι := ((Nat × Array Int × Hp))) [(0, _), (1, _), (2, _), (7, _), (8, _)] ⟨rfl, rfl, rfl, rfl, rfl, trivial⟩ ((fun x => [(10, .int .i64 x.1)])) ((fun x => k + 1 ≤ x.1 ∧ x.1 ≤ b ∧ x.2.1.size = d.size ∧ Sort.shiftUp Sort.ltInt b x.1 x.2.1 = Sort.shiftUp Sort.ltInt b (k + 1) d3 ∧ Ls enKd 59 (.slice ao d.size cap) x.2.2 x.2.1.toList)) ((fun x => b - x.1)) ((fun x => x.2.2 :: F)) (((k + 1, d3, c3) : Nat × Array Int × Hp)) (by repeat (first | exact True.intro | refine And.intro rfl ?_)) (by first | exact Cov.refl _ | (intro p; simp only [List.flatten_cons, List.flatten_nil, List.flatten_append, List.append_nil, List.nil_append, cnt_append, cnt_cons, cnt_nil, List.set_cons_zero, List.set_cons_succ, List.length_nil, List.length_cons, Nat.zero_add, List.append]; omega)) ?_ ?_
      · exact ⟨Nat.le_refl _, by dsimp only; omega, hsz3, rfl, hL3⟩
      rintro ⟨j, d2, c2⟩ ⟨hj, hj2, hsz2, he2, hL2⟩
      dsimp only at hj hj2 hsz2 he2 hL2 ⊢
      have hl2 : d2.toList.length = d.size := by rw [Array.length_toList]; exact hsz2
      refine cw_seq ?_
      refine cw_seq ?_
      refine cw_region ?_
      refine ow_val rfl rfl (v_move rfl) ?_
      refine ow_val rfl rfl (v_move rfl) ?_
      refine ow_val rfl rfl (v_lss rfl rfl) ?_
      refine ow_nil ?_
      refine xw_then ?_
      refine cw_dec rfl (fun hc103 => ?_) (fun hc103 => ?_)
      refine cw_skip ?_
      refine xw_then ?_
      refine cw_seq ?_
      refine cw_block ?_
      refine cw_seq ?_
      refine cw_seq ?_
      refine cw_quiet Ty.mixed (by decide +kernel) ?_
      refine kw_val rfl rfl (v_move rfl) ?_
      refine kw_val rfl rfl (v_move rfl) ?_
      refine kw_val rfl rfl (v_indexAddr_ls Try.underlying99 (kdTy) rfl rfl (by assumption) rfl (by omega)) ?_
      refine kw_val rfl rfl (v_load rfl (Go.Sl.Vw.var (kdTy) ((hL2.vw (by repeat (first | exact Sub.here | exact Sub.nil | assumption | refine Sub.there ?_)))) (by omega))) ?_
      refine kw_val rfl rfl (v_move rfl) ?_
      refine kw_val rfl rfl (v_move rfl) ?_
      refine kw_val rfl rfl (v_sub rfl rfl (nw_i64 (by omega) (by omega))) ?_
      refine kw_val rfl rfl (v_indexAddr_ls Try.underlying99 (kdTy) rfl rfl (by assumption) (Int.toNat_of_nonneg (by omega)).symm (by omega)) ?_
      refine kw_val rfl rfl (v_load rfl (Go.Sl.Vw.var (kdTy) ((hL2.vw (by repeat (first | exact Sub.here | exact Sub.nil | assumption | refine Sub.there ?_)))) (by omega))) ?_
      refine kw_val rfl rfl (v_call rfl rfl (lessK_c)) ?_
      refine kw_val rfl rfl (v_not rfl) ?_
      refine kw_nil ?_
      refine xw_then ?_
      refine cw_dec rfl (fun hc116 => ?_) (fun hc116 => ?_)
      refine cw_exit ?_
      refine xw_then_exit ?_
      refine xw_block_other rfl ?_
      refine xw_then_exit ?_
      refine xw_round_exit ?_
      refine xw_block_exit ?_
      refine xw_block ?_
      refine xw_then ?_
      refine cw_region ?_
      refine ow_val rfl rfl (v_move rfl) ?_
      refine ow_val rfl rfl (v_add rfl rfl (nw_i64 (by omega) (by omega))) ?_
      refine ow_val rfl rfl (v_assign rfl) ?_
      refine ow_nil ?_
      rotate_left
      refine cw_skip ?_
      refine xw_then ?_
      refine cw_mix [] [15, 16, 17] [0, 1, 2, 3, 4, 5, 6, 7, 8, 9, 10, 11, 12, 13, 14] Ty.mixed rfl rfl rfl rfl (by decide +kernel) ?_
      refine hw_pure rfl rfl (v_move rfl) rfl ?_
      refine hw_pure rfl rfl (v_move rfl) rfl ?_
      refine hw_pure rfl rfl (v_move rfl) rfl ?_
      refine hw_pure rfl rfl (v_move rfl) rfl ?_
      refine hw_pure rfl rfl (v_sub rfl rfl (nw_i64 (by omega) (by omega))) rfl ?_
      refine hw_pure rfl rfl (v_move rfl) rfl ?_
      refine hw_pure rfl rfl (v_move rfl) rfl ?_
      refine hw_pure rfl rfl (v_sub rfl rfl (nw_i64 (by omega) (by omega))) rfl ?_
      refine hw_pure rfl rfl (v_indexAddr_ls Try.underlying99 (kdTy) rfl rfl (by assumption) (Int.toNat_of_nonneg (by omega)).symm (by omega)) rfl ?_
      refine hw_read rfl rfl rfl (v_load rfl (Go.Sl.Vw.var (kdTy) ((hL2.vw (by repeat (first | exact Sub.here | exact Sub.nil | assumption | refine Sub.there ?_)))) (by omega))) ?_
      refine hw_pure rfl rfl (v_move rfl) rfl ?_
      refine hw_pure rfl rfl (v_move rfl) rfl ?_
      refine hw_pure rfl rfl (v_indexAddr_ls Try.underlying99 (kdTy) rfl rfl (by assumption) rfl (by omega)) rfl ?_
      refine hw_read rfl rfl rfl (v_load rfl (Go.Sl.Vw.var (kdTy) ((hL2.vw (by repeat (first | exact Sub.here | exact Sub.nil | assumption | refine Sub.there ?_)))) (by omega))) ?_
      refine hw_pure rfl rfl (v_indexAddr_ls Try.underlying99 (kdTy) rfl rfl (by assumption) rfl (by omega)) rfl ?_
      refine hw_nil ?_
      refine sw_nil ?_
      rotate_left
      refine cw_exit ?_
      refine xw_then_exit ?_
      refine xw_round_exit ?_
      refine xw_block_exit ?_
      refine xw_block ?_
      refine xw_then ?_
      refine cw_region ?_
      refine ow_val rfl rfl (v_move rfl) ?_
      refine ow_val rfl rfl (v_add rfl rfl (nw_i64 (by omega) (by omega))) ?_
      refine ow_val rfl rfl (v_assign rfl) ?_
      refine ow_nil ?_
      rotate_left
      · rw [bangD (i := j) _ rfl, bangD (i := j - 1) _ (by omega)] at hc116
        rw [shiftUp_stop (fun h => by simp [h.2] at hc116)] at he2
        exact xw_round ((t + 1, k, d2, c2) : Nat × Nat × Array Int × Hp) ⟨by dsimp only; omega, by dsimp only; omega, hk2, hsz2, hend d2 (by rw [if_pos (by omega)]; exact he2), hL2⟩ (by dsimp only; omega) (by first | exact Cov.refl _ | (intro p; simp only [List.flatten_cons, List.flatten_nil, List.flatten_append, List.append_nil, List.nil_append, cnt_append, cnt_cons, cnt_nil, List.set_cons_zero, List.set_cons_succ, List.length_nil, List.length_cons, Nat.zero_add, List.append]; omega)) (by repeat (first | exact True.intro | refine And.intro rfl ?_))
      · rw [bangD (i := j) _ rfl, bangD (i := j - 1) _ (by omega)] at hc116
        rw [shiftUp_go (by omega) (by simpa using hc116)] at he2
        skip
        refine ow_storeL (i := j) (a := d2.toList[((j : Int) - 1).toNat]'(by omega)) rfl rfl rfl kdTy hL2 (by repeat (first | exact Sel.here | apply Sel.there)) (by omega) (hL2.ok _ (List.getElem_mem _)) ?_
        intro cua hLua
        have hlua : (d2.toList.set j (d2.toList[((j : Int) - 1).toNat]'(by omega))).length = d2.toList.length := List.length_set
        refine ow_val rfl rfl (v_indexAddr_ls Try.underlying99 (kdTy) rfl rfl (by assumption) (Int.toNat_of_nonneg (by omega)).symm (by omega)) ?_
        refine ow_storeL (i := ((j : Int) - 1).toNat) (a := d2.toList[j]'(by omega)) rfl rfl rfl kdTy hLua (by repeat (first | exact Sel.here | apply Sel.there)) (by rw [List.length_set]; omega) (hL2.ok _ (List.getElem_mem _)) ?_
        intro cu hLu
        rw [swpL (i' := j) (j' := j - 1) (bangD _ (by omega)) (bangD _ (by omega)) (by omega) (by omega)] at hLu
        refine ow_nil ?_
        refine xw_np ?_
        refine xw_block ?_
        refine xw_then ?_
        refine cw_region ?_
        refine ow_val rfl rfl (v_move rfl) ?_
        refine ow_val rfl rfl (v_add rfl rfl (nw_i64 (by omega) (by omega))) ?_
        refine ow_val rfl rfl (v_assign rfl) ?_
        refine ow_nil ?_
        exact xw_round ((j + 1, Sort.swp d2 j (j - 1), cu) : Nat × Array Int × Hp) ⟨by dsimp only; omega, by dsimp only; omega, by dsimp only; rw [swp_sz]; exact hsz2, he2, hLu⟩ (by dsimp only; omega) (by first | exact Cov.refl _ | (intro p; simp only [List.flatten_cons, List.flatten_nil, List.flatten_append, List.append_nil, List.nil_append, cnt_append, cnt_cons, cnt_nil, List.set_cons_zero, List.set_cons_succ, List.length_nil, List.length_cons, Nat.zero_add, List.append]; omega)) (by repeat (first | exact True.intro | refine And.intro rfl ?_))
      · rw [shiftUp_stop (fun h => by have := h.1; omega)] at he2
        exact xw_round ((t + 1, k, d2, c2) : Nat × Nat × Array Int × Hp) ⟨by dsimp only; omega, by dsimp only; omega, hk2, hsz2, hend d2 (by rw [if_pos (by omega)]; exact he2), hL2⟩ (by dsimp only; omega) (by first | exact Cov.refl _ | (intro p; simp only [List.flatten_cons, List.flatten_nil, List.flatten_append, List.append_nil, List.nil_append, cnt_append, cnt_cons, cnt_nil, List.set_cons_zero, List.set_cons_succ, List.length_nil, List.length_cons, Nat.zero_add, List.append]; omega)) (by repeat (first | exact True.intro | refine And.intro rfl ?_))
    · exact xw_round ((t + 1, k, d3, c3) : Nat × Nat × Array Int × Hp) ⟨by dsimp only; omega, by dsimp only; omega, hk2, hsz3, hend d3 (by rw [if_neg (by omega)]), hL3⟩ (by dsimp only; omega) (by first | exact Cov.refl _ | (intro p; simp only [List.flatten_cons, List.flatten_nil, List.flatten_append, List.append_nil, List.nil_append, cnt_append, cnt_cons, cnt_nil, List.set_cons_zero, List.set_cons_succ, List.length_nil, List.length_cons, Nat.zero_add, List.append]; omega)) (by repeat (first | exact True.intro | refine And.intro rfl ?_))
  · obtain rfl : t = 5 := by omega
    rw [← he]
    refine cw_seq ?_
    refine cw_region ?_
    refine ow_val rfl rfl (v_assign rfl) ?_
    refine ow_nil ?_
    refine xw_then ?_
    refine cw_ret ?_
    refine ret1 rfl (res_tmp rfl) ?_
    exact ⟨c1, rfl, hL1, (by first | exact Cov.refl _ | (intro p; simp only [List.flatten_cons, List.flatten_nil, List.flatten_append, List.append_nil, List.nil_append, cnt_append, cnt_cons, cnt_nil, List.set_cons_zero, List.set_cons_succ, List.length_nil, List.length_cons, Nat.zero_add, List.append]; omega))⟩

end Go.Proofs.Ytckdhelnafjddaa
