/- The library's sort at lists of small numbers: the heap. Conditions: lists are short. -/
import Derived.Test.YtckdhelnafjddaaSort
namespace Go.Proofs.Ytckdhelnafjddaa
open Go Go.Sl Go.Proofs
set_option maxRecDepth 20000
set_option linter.unusedVariables false
set_option linter.unusedSimpArgs false

set_option maxHeartbeats 4000000 in
theorem siftK_c {B : Nat} {w0 : World} {G : List Hp} {R : Hp → List Hp} {ao : Option Addr} {n cap lo hi first : Nat} {c : Hp} {d : Array Int} {xl xh xf : Int} (hxl : xl = lo) (hxh : xh = hi) (hxf : xf = first) (hsel : Sel G c R) (hL : Ls enKd 59 (.slice ao n cap) c d.toList) (hlo : lo ≤ hi) (hb : first + hi ≤ d.size) (hn : d.size ≤ 1000000) :
    Go.Sl.Fn Try.prog 135 #[.slice ao n cap, .int .i64 xl, .int .i64 xh, .int .i64 xf] B w0 G fun u G' => ∃ c' : Hp, u = .tuple #[] ∧ Ls enKd 59 (.slice ao n cap) c' (Sort.siftDown Sort.ltInt hi first lo d).toList ∧ G' = R c' := by
  subst hxl hxh hxf
  refine Fn.sel0 hsel fun F hR hF => ?_
  have hl := hL.len
  rw [Array.length_toList] at hl
  subst hl
  refine fn_enter Try.func135 rfl (by kernel_rfl) Try.ntmps135 (by simp) ?_
  refine cw_seq ?_
  refine cw_region ?_
  refine ow_val rfl rfl (v_move rfl) ?_
  refine ow_val rfl rfl (v_assign rfl) ?_
  refine ow_nil ?_
  refine xw_then ?_
  refine cw_block ?_
  refine cw_loop2 (ι := ((Nat × Array Int × Hp))) [(0, _), (2, _), (3, _)] ⟨rfl, rfl, rfl, trivial⟩ ((fun x => [(8, .int .i64 x.1)])) ((fun x => x.1 ≤ hi ∧ x.2.1.size = d.size ∧ Sort.siftDown Sort.ltInt hi first x.1 x.2.1 = Sort.siftDown Sort.ltInt hi first lo d ∧ Ls enKd 59 (.slice ao d.size cap) x.2.2 x.2.1.toList)) ((fun x => hi - x.1)) ((fun x => x.2.2 :: F)) (((lo, d, c) : Nat × Array Int × Hp)) (by repeat (first | exact True.intro | refine And.intro rfl ?_)) (by first | exact Cov.refl _ | (intro p; simp only [List.flatten_cons, List.flatten_nil, List.flatten_append, List.append_nil, List.nil_append, cnt_append, cnt_cons, cnt_nil, List.set_cons_zero, List.set_cons_succ, List.length_nil, List.length_cons, Nat.zero_add, List.append]; omega)) ?_ ?_
  · exact ⟨hlo, rfl, rfl, hL⟩
  rintro ⟨r, d1, c1⟩ ⟨hr, hsz, he, hL1⟩
  dsimp only at hr hsz he hL1 ⊢
  have hl1 : d1.toList.length = d.size := by rw [Array.length_toList]; exact hsz
  refine cw_block ?_
  refine cw_seq ?_
  refine cw_region ?_
  refine ow_val rfl rfl (v_move rfl) ?_
  refine ow_val rfl rfl (v_mul rfl rfl (nw_i64 (by omega) (by omega))) ?_
  refine ow_val rfl rfl (v_add rfl rfl (nw_i64 (by omega) (by omega))) ?_
  refine ow_val rfl rfl (v_assign rfl) ?_
  refine ow_nil ?_
  refine xw_then ?_
  refine cw_seq ?_
  refine cw_seq ?_
  refine cw_region ?_
  refine ow_val rfl rfl (v_move rfl) ?_
  refine ow_val rfl rfl (v_move rfl) ?_
  refine ow_val rfl rfl (v_geq rfl rfl) ?_
  refine ow_nil ?_
  refine xw_then ?_
  refine cw_dec rfl (fun hc16 => ?_) (fun hc16 => ?_)
  refine cw_exit ?_
  refine xw_then_exit ?_
  refine xw_block_other rfl ?_
  refine xw_round_exit ?_
  refine xw_block_exit ?_
  refine ret0n rfl ?_
  rotate_left
  refine cw_skip ?_
  refine xw_then ?_
  rotate_left
  · rw [siftDown_stop (by omega)] at he
    rw [← he]
    exact ⟨c1, rfl, hL1, (by first | exact Cov.refl _ | (intro p; simp only [List.flatten_cons, List.flatten_nil, List.flatten_append, List.append_nil, List.nil_append, cnt_append, cnt_cons, cnt_nil, List.set_cons_zero, List.set_cons_succ, List.length_nil, List.length_cons, Nat.zero_add, List.append]; omega))⟩
  have hk := kid_lt (f := first) (d := d1) (show 2 * r + 1 < hi by omega)
  have hk2 := kid_iff (hi := hi) (f := first) (r := r) (d := d1)
  have hk3 := kid_no (hi := hi) (f := first) (r := r) (d := d1)
  have hg := siftDown_go (f := first) (d := d1) (show 2 * r + 1 < hi by omega)
  rw [he] at hg
  generalize kid hi first r d1 = k at *
  refine cw_cut2 (ι := (Unit)) [(0, _), (2, _), (3, _), (8, _)] ⟨rfl, rfl, rfl, rfl, trivial⟩ ((fun _ => [(9, .int .i64 k)])) ((fun _ : Unit => True)) ((fun _ => c1 :: F)) ?_ ?_
  · refine cw_seq ?_
    refine cw_quiet Ty.mixed (by decide +kernel) ?_
    refine kw_val rfl rfl (v_move rfl) ?_
    refine kw_val rfl rfl (v_add rfl rfl (nw_i64 (by omega) (by omega))) ?_
    refine kw_val rfl rfl (v_move rfl) ?_
    refine kw_val rfl rfl (v_lss rfl rfl) ?_
    refine kw_val rfl rfl (v_move rfl) ?_
    refine kw_dec 21 rfl (fun hc21 => ?_) (fun hc21 => ?_)
    refine kw_val rfl rfl (v_move rfl) ?_
    refine kw_val rfl rfl (v_move rfl) ?_
    refine kw_val rfl rfl (v_move rfl) ?_
    refine kw_val rfl rfl (v_add rfl rfl (nw_i64 (by omega) (by omega))) ?_
    refine kw_val rfl rfl (v_indexAddr_ls Try.underlying99 (kdTy) rfl rfl (by assumption) (Int.toNat_of_nonneg (by omega)).symm (by omega)) ?_
    refine kw_val rfl rfl (v_load rfl (Go.Sl.Vw.var (kdTy) ((hL1.vw (by repeat (first | exact Sub.here | exact Sub.nil | assumption | refine Sub.there ?_)))) (by omega))) ?_
    refine kw_val rfl rfl (v_move rfl) ?_
    refine kw_val rfl rfl (v_move rfl) ?_
    refine kw_val rfl rfl (v_move rfl) ?_
    refine kw_val rfl rfl (v_add rfl rfl (nw_i64 (by omega) (by omega))) ?_
    refine kw_val rfl rfl (v_add rfl rfl (nw_i64 (by omega) (by omega))) ?_
    refine kw_val rfl rfl (v_indexAddr_ls Try.underlying99 (kdTy) rfl rfl (by assumption) (Int.toNat_of_nonneg (by omega)).symm (by omega)) ?_
    refine kw_val rfl rfl (v_load rfl (Go.Sl.Vw.var (kdTy) ((hL1.vw (by repeat (first | exact Sub.here | exact Sub.nil | assumption | refine Sub.there ?_)))) (by omega))) ?_
    refine kw_val rfl rfl (v_call rfl rfl (lessK_c)) ?_
    refine kw_val rfl rfl (v_pick_true rfl rfl) ?_
    refine kw_nil ?_
    refine xw_then ?_
    refine cw_dec rfl (fun hc36 => ?_) (fun hc36 => ?_)
    refine cw_region ?_
    refine ow_val rfl rfl (v_move rfl) ?_
    refine ow_val rfl rfl (v_add rfl rfl (nw_i64 (by omega) (by omega))) ?_
    refine ow_val rfl rfl (v_assign rfl) ?_
    refine ow_nil ?_
    rotate_left
    refine cw_skip ?_
    rotate_left
    refine kw_skip rfl rfl ?_
    refine kw_skip rfl rfl ?_
    refine kw_skip rfl rfl ?_
    refine kw_skip rfl rfl ?_
    refine kw_skip rfl rfl ?_
    refine kw_skip rfl rfl ?_
    refine kw_skip rfl rfl ?_
    refine kw_skip rfl rfl ?_
    refine kw_skip rfl rfl ?_
    refine kw_skip rfl rfl ?_
    refine kw_skip rfl rfl ?_
    refine kw_skip rfl rfl ?_
    refine kw_skip rfl rfl ?_
    refine kw_skip rfl rfl ?_
    refine kw_val rfl rfl (v_pick_false rfl rfl) ?_
    refine kw_nil ?_
    refine xw_then ?_
    refine cw_false rfl ?_
    refine cw_skip ?_
    rotate_left
    · rw [bangD (i := first + (2 * r + 1)) _ (by omega), bangD (i := first + (2 * r + 1) + 1) _ (by omega)] at hc36
      have h9 := (hk2 (by omega)).1 hc36
      exact xw_joint () trivial (by first | exact Cov.refl _ | (intro p; simp only [List.flatten_cons, List.flatten_nil, List.flatten_append, List.append_nil, List.nil_append, cnt_append, cnt_cons, cnt_nil, List.set_cons_zero, List.set_cons_succ, List.length_nil, List.length_cons, Nat.zero_add, List.append]; omega)) (by repeat (first | exact True.intro | refine And.intro rfl ?_ | refine And.intro (congrArg (fun z : Int => some (Value.int IntKind.i64 z)) (by (try dsimp only); omega)) ?_))
    · rw [bangD (i := first + (2 * r + 1)) _ (by omega), bangD (i := first + (2 * r + 1) + 1) _ (by omega)] at hc36
      have h9 : k ≠ 2 * r + 2 := fun h => hc36 ((hk2 (by omega)).2 h)
      exact xw_joint () trivial (by first | exact Cov.refl _ | (intro p; simp only [List.flatten_cons, List.flatten_nil, List.flatten_append, List.append_nil, List.nil_append, cnt_append, cnt_cons, cnt_nil, List.set_cons_zero, List.set_cons_succ, List.length_nil, List.length_cons, Nat.zero_add, List.append]; omega)) (by repeat (first | exact True.intro | refine And.intro rfl ?_ | refine And.intro (congrArg (fun z : Int => some (Value.int IntKind.i64 z)) (by (try dsimp only); omega)) ?_))
    · have h9 := hk3 (by omega)
      exact xw_joint () trivial (by first | exact Cov.refl _ | (intro p; simp only [List.flatten_cons, List.flatten_nil, List.flatten_append, List.append_nil, List.nil_append, cnt_append, cnt_cons, cnt_nil, List.set_cons_zero, List.set_cons_succ, List.length_nil, List.length_cons, Nat.zero_add, List.append]; omega)) (by repeat (first | exact True.intro | refine And.intro rfl ?_ | refine And.intro (congrArg (fun z : Int => some (Value.int IntKind.i64 z)) (by (try dsimp only); omega)) ?_))
  rintro ⟨⟩ -
  refine cw_seq ?_
  refine cw_seq ?_
  refine cw_quiet Ty.mixed (by decide +kernel) ?_
  refine kw_val rfl rfl (v_move rfl) ?_
  refine kw_val rfl rfl (v_move rfl) ?_
  refine kw_val rfl rfl (v_move rfl) ?_
  refine kw_val rfl rfl (v_add rfl rfl (nw_i64 (by omega) (by omega))) ?_
  refine kw_val rfl rfl (v_indexAddr_ls Try.underlying99 (kdTy) rfl rfl (by assumption) rfl (by omega)) ?_
  refine kw_val rfl rfl (v_load rfl (Go.Sl.Vw.var (kdTy) ((hL1.vw (by repeat (first | exact Sub.here | exact Sub.nil | assumption | refine Sub.there ?_)))) (by omega))) ?_
  refine kw_val rfl rfl (v_move rfl) ?_
  refine kw_val rfl rfl (v_move rfl) ?_
  refine kw_val rfl rfl (v_move rfl) ?_
  refine kw_val rfl rfl (v_add rfl rfl (nw_i64 (by omega) (by omega))) ?_
  refine kw_val rfl rfl (v_indexAddr_ls Try.underlying99 (kdTy) rfl rfl (by assumption) rfl (by omega)) ?_
  refine kw_val rfl rfl (v_load rfl (Go.Sl.Vw.var (kdTy) ((hL1.vw (by repeat (first | exact Sub.here | exact Sub.nil | assumption | refine Sub.there ?_)))) (by omega))) ?_
  refine kw_val rfl rfl (v_call rfl rfl (lessK_c)) ?_
  refine kw_val rfl rfl (v_not rfl) ?_
  refine kw_nil ?_
  refine xw_then ?_
  refine cw_dec rfl (fun hc52 => ?_) (fun hc52 => ?_)
  refine cw_ret ?_
  refine xw_then_ret ?_
  refine xw_block_ret ?_
  refine xw_round_ret ?_
  refine xw_block_ret ?_
  refine ret0 rfl ?_
  rotate_left
  refine cw_skip ?_
  refine xw_then ?_
  rotate_left
  · rw [bangD (i := first + r) _ (by omega), bangD (i := first + k) _ (by omega)] at hc52
    rw [if_neg (by simpa using hc52)] at hg
    rw [hg]
    exact ⟨c1, rfl, hL1, (by first | exact Cov.refl _ | (intro p; simp only [List.flatten_cons, List.flatten_nil, List.flatten_append, List.append_nil, List.nil_append, cnt_append, cnt_cons, cnt_nil, List.set_cons_zero, List.set_cons_succ, List.length_nil, List.length_cons, Nat.zero_add, List.append]; omega))⟩
  rw [bangD (i := first + r) _ (by omega), bangD (i := first + k) _ (by omega)] at hc52
  rw [if_pos (by simpa using hc52)] at hg
  refine cw_seq ?_
  refine cw_mix [] [21, 22, 23] [0, 1, 2, 3, 4, 5, 6, 7, 8, 9, 10, 11, 12, 13, 14, 15, 16, 17, 18, 19, 20] Ty.mixed rfl rfl rfl rfl (by decide +kernel) ?_
  refine hw_pure rfl rfl (v_move rfl) rfl ?_
  refine hw_pure rfl rfl (v_move rfl) rfl ?_
  refine hw_pure rfl rfl (v_move rfl) rfl ?_
  refine hw_pure rfl rfl (v_add rfl rfl (nw_i64 (by omega) (by omega))) rfl ?_
  refine hw_pure rfl rfl (v_move rfl) rfl ?_
  refine hw_pure rfl rfl (v_move rfl) rfl ?_
  refine hw_pure rfl rfl (v_move rfl) rfl ?_
  refine hw_pure rfl rfl (v_add rfl rfl (nw_i64 (by omega) (by omega))) rfl ?_
  refine hw_pure rfl rfl (v_move rfl) rfl ?_
  refine hw_pure rfl rfl (v_move rfl) rfl ?_
  refine hw_pure rfl rfl (v_move rfl) rfl ?_
  refine hw_pure rfl rfl (v_add rfl rfl (nw_i64 (by omega) (by omega))) rfl ?_
  refine hw_pure rfl rfl (v_indexAddr_ls Try.underlying99 (kdTy) rfl rfl (by assumption) rfl (by omega)) rfl ?_
  refine hw_read rfl rfl rfl (v_load rfl (Go.Sl.Vw.var (kdTy) ((hL1.vw (by repeat (first | exact Sub.here | exact Sub.nil | assumption | refine Sub.there ?_)))) (by omega))) ?_
  refine hw_pure rfl rfl (v_move rfl) rfl ?_
  refine hw_pure rfl rfl (v_move rfl) rfl ?_
  refine hw_pure rfl rfl (v_move rfl) rfl ?_
  refine hw_pure rfl rfl (v_add rfl rfl (nw_i64 (by omega) (by omega))) rfl ?_
  refine hw_pure rfl rfl (v_indexAddr_ls Try.underlying99 (kdTy) rfl rfl (by assumption) rfl (by omega)) rfl ?_
  refine hw_read rfl rfl rfl (v_load rfl (Go.Sl.Vw.var (kdTy) ((hL1.vw (by repeat (first | exact Sub.here | exact Sub.nil | assumption | refine Sub.there ?_)))) (by omega))) ?_
  refine hw_pure rfl rfl (v_indexAddr_ls Try.underlying99 (kdTy) rfl rfl (by assumption) rfl (by omega)) rfl ?_
  refine hw_nil ?_
  refine sw_nil ?_
  refine ow_storeL (i := ((first : Int) + (r : Int)).toNat) (a := d1.toList[((first : Int) + (k : Int)).toNat]'(by omega)) rfl rfl rfl kdTy hL1 (by repeat (first | exact Sel.here | apply Sel.there)) (by omega) (hL1.ok _ (List.getElem_mem _)) ?_
  intro csa hLsa
  have hlsa : (d1.toList.set ((first : Int) + (r : Int)).toNat (d1.toList[((first : Int) + (k : Int)).toNat]'(by omega))).length = d1.toList.length := List.length_set
  refine ow_val rfl rfl (v_indexAddr_ls Try.underlying99 (kdTy) rfl rfl (by assumption) rfl (by omega)) ?_
  refine ow_storeL (i := ((first : Int) + (k : Int)).toNat) (a := d1.toList[((first : Int) + (r : Int)).toNat]'(by omega)) rfl rfl rfl kdTy hLsa (by repeat (first | exact Sel.here | apply Sel.there)) (by rw [List.length_set]; omega) (hL1.ok _ (List.getElem_mem _)) ?_
  intro cs hLs
  rw [swpL (i' := first + r) (j' := first + k) (bangD _ (by omega)) (bangD _ (by omega)) (by omega) (by omega)] at hLs
  refine ow_nil ?_
  refine xw_np ?_
  refine xw_then ?_
  refine cw_region ?_
  refine ow_val rfl rfl (v_move rfl) ?_
  refine ow_val rfl rfl (v_assign rfl) ?_
  refine ow_nil ?_
  refine xw_block ?_
  exact xw_round ((k, Sort.swp d1 (first + r) (first + k), cs) : Nat × Array Int × Hp) ⟨by dsimp only; omega, by dsimp only; rw [swp_sz]; exact hsz, hg.symm, hLs⟩ (by dsimp only; omega) (by first | exact Cov.refl _ | (intro p; simp only [List.flatten_cons, List.flatten_nil, List.flatten_append, List.append_nil, List.nil_append, cnt_append, cnt_cons, cnt_nil, List.set_cons_zero, List.set_cons_succ, List.length_nil, List.length_cons, Nat.zero_add, List.append]; omega)) (by repeat (first | exact True.intro | refine And.intro rfl ?_ | refine And.intro (congrArg (fun z : Int => some (Value.int IntKind.i64 z)) (by (try dsimp only); omega)) ?_))
set_option maxHeartbeats 4000000 in
theorem heapK_c {B : Nat} {w0 : World} {G : List Hp} {R : Hp → List Hp} {ao : Option Addr} {n cap a b : Nat} {c : Hp} {d : Array Int} (hsel : Sel G c R) (hL : Ls enKd 59 (.slice ao n cap) c d.toList) (hab : a < b) (hb : b ≤ d.size) (hn : d.size ≤ 1000000) :
    Go.Sl.Fn Try.prog 111 #[.slice ao n cap, .int .i64 a, .int .i64 b] B w0 G fun u G' => ∃ c' : Hp, u = .tuple #[] ∧ Ls enKd 59 (.slice ao n cap) c' (Sort.heapSort Sort.ltInt d a b).toList ∧ G' = R c' := by
  refine Fn.sel0 hsel fun F hR hF => ?_
  have hl := hL.len
  rw [Array.length_toList] at hl
  subst hl
  unfold Sort.heapSort
  refine fn_enter Try.func111 rfl (by kernel_rfl) Try.ntmps111 (by simp) ?_
  refine cw_seq ?_
  refine cw_region ?_
  refine ow_val rfl rfl (v_move rfl) ?_
  refine ow_val rfl rfl (v_assign rfl) ?_
  refine ow_nil ?_
  refine xw_then ?_
  refine cw_seq ?_
  refine cw_region ?_
  refine ow_val rfl rfl (v_assign rfl) ?_
  refine ow_nil ?_
  refine xw_then ?_
  refine cw_seq ?_
  refine cw_region ?_
  refine ow_val rfl rfl (v_move rfl) ?_
  refine ow_val rfl rfl (v_move rfl) ?_
  refine ow_val rfl rfl (v_sub rfl rfl (nw_i64 (by omega) (by omega))) ?_
  refine ow_val rfl rfl (v_assign rfl) ?_
  refine ow_nil ?_
  refine xw_then ?_
  refine cw_seq ?_
  refine cw_seq ?_
  refine cw_region ?_
  refine ow_val rfl rfl (v_move rfl) ?_
  refine ow_val rfl rfl (v_sub rfl rfl (nw_i64 (by omega) (by omega))) ?_
  refine ow_val rfl rfl (v_quo rfl rfl (by omega) rfl) ?_
  refine ow_val rfl rfl (v_assign rfl) ?_
  refine ow_nil ?_
  refine xw_then ?_
  refine cw_block ?_
  have hq : IntKind.i64.wrap (((b : Int) - a - 1).tdiv 2) = (((b - a - 1) / 2 + 1 : Nat) : Int) - 1 := by
    rw [Int.tdiv_eq_ediv_of_nonneg (by omega)]
    exact (nw_i64 (by omega) (by omega)).trans (by omega)
  rw [hq]
  refine cw_loop2 (ι := ((Nat × Array Int × Hp))) [(0, _), (6, _), (7, _), (8, _)] ⟨rfl, rfl, rfl, rfl, trivial⟩ ((fun x => [(9, .int .i64 ((x.1 : Int) - 1))])) ((fun x => x.1 ≤ (b - a - 1) / 2 + 1 ∧ x.2.1.size = d.size ∧ Sort.heapBuild Sort.ltInt (b - a) a x.1 x.2.1 = Sort.heapBuild Sort.ltInt (b - a) a ((b - a - 1) / 2 + 1) d ∧ Ls enKd 59 (.slice ao d.size cap) x.2.2 x.2.1.toList)) ((fun x => x.1)) ((fun x => x.2.2 :: F)) ((((b - a - 1) / 2 + 1, d, c) : Nat × Array Int × Hp)) (by repeat (first | exact True.intro | refine And.intro rfl ?_)) (by first | exact Cov.refl _ | (intro p; simp only [List.flatten_cons, List.flatten_nil, List.flatten_append, List.append_nil, List.nil_append, cnt_append, cnt_cons, cnt_nil, List.set_cons_zero, List.set_cons_succ, List.length_nil, List.length_cons, Nat.zero_add, List.append]; omega)) ?_ ?_
  · exact ⟨Nat.le_refl _, rfl, rfl, hL⟩
  rintro ⟨k, d1, c1⟩ ⟨hk, hsz, he, hL1⟩
  dsimp only at hk hsz he hL1 ⊢
  refine cw_seq ?_
  refine cw_seq ?_
  refine cw_region ?_
  refine ow_val rfl rfl (v_move rfl) ?_
  refine ow_val rfl rfl (v_geq rfl rfl) ?_
  refine ow_nil ?_
  refine xw_then ?_
  refine cw_dec rfl (fun hc19 => ?_) (fun hc19 => ?_)
  refine cw_skip ?_
  refine xw_then ?_
  rotate_left
  refine cw_exit ?_
  refine xw_then_exit ?_
  refine xw_round_exit ?_
  refine xw_block_exit ?_
  refine xw_then ?_
  rotate_left
  · obtain ⟨k, rfl⟩ : ∃ k', k = k' + 1 := ⟨k - 1, by omega⟩
    have he2 : Sort.heapBuild Sort.ltInt (b - a) a (k + 1) d1 = Sort.heapBuild Sort.ltInt (b - a) a k (Sort.siftDown Sort.ltInt (b - a) a k d1) := rfl
    refine cw_seq ?_
    refine cw_block ?_
    refine cw_region ?_
    refine ow_val rfl rfl (v_move rfl) ?_
    refine ow_val rfl rfl (v_move rfl) ?_
    refine ow_val rfl rfl (v_move rfl) ?_
    refine ow_val rfl rfl (v_move rfl) ?_
    (refine ow_call rfl rfl rfl rfl (siftK_c (lo := k) (hi := b - a) (first := a) (by omega) (by omega) rfl (by repeat (first | exact Sel.here | apply Sel.there)) hL1 (by omega) (by omega) (by omega)) ?_; rintro _ _ ⟨x26, rfl, hq26, rfl⟩)
    refine ow_nil ?_
    refine xw_block ?_
    refine xw_then ?_
    refine cw_region ?_
    refine ow_val rfl rfl (v_move rfl) ?_
    refine ow_val rfl rfl (v_sub rfl rfl (nw_i64 (by omega) (by omega))) ?_
    refine ow_val rfl rfl (v_assign rfl) ?_
    refine ow_nil ?_
    exact xw_round ((k, Sort.siftDown Sort.ltInt (b - a) a k d1, x26) : Nat × Array Int × Hp) ⟨by dsimp only; omega, by dsimp only; rw [siftDown_size]; exact hsz, by rw [← he, he2], hq26⟩ (by dsimp only; omega) (by first | exact Cov.refl _ | (intro p; simp only [List.flatten_cons, List.flatten_nil, List.flatten_append, List.append_nil, List.nil_append, cnt_append, cnt_cons, cnt_nil, List.set_cons_zero, List.set_cons_succ, List.length_nil, List.length_cons, Nat.zero_add, List.append]; omega)) (by repeat (first | exact True.intro | refine And.intro rfl ?_ | refine And.intro (congrArg (fun z : Int => some (Value.int IntKind.i64 z)) (by (try dsimp only); omega)) ?_))
  obtain rfl : k = 0 := by omega
  rw [show Sort.heapBuild Sort.ltInt (b - a) a 0 d1 = d1 from rfl] at he
  rw [← he]
  refine cw_seq ?_
  refine cw_region ?_
  refine ow_val rfl rfl (v_move rfl) ?_
  refine ow_val rfl rfl (v_sub rfl rfl (nw_i64 (by omega) (by omega))) ?_
  refine ow_val rfl rfl (v_assign rfl) ?_
  refine ow_nil ?_
  refine xw_then ?_
  refine cw_block ?_
  rw [show (b : Int) - a - 1 = ((b - a : Nat) : Int) - 1 by omega]
  refine cw_loop2 (ι := ((Nat × Array Int × Hp))) [(0, _), (6, _), (7, _)] ⟨rfl, rfl, rfl, trivial⟩ ((fun x => [(10, .int .i64 ((x.1 : Int) - 1))])) ((fun x => x.1 ≤ b - a ∧ x.2.1.size = d.size ∧ Sort.heapPop Sort.ltInt a x.1 x.2.1 = Sort.heapPop Sort.ltInt a (b - a) d1 ∧ Ls enKd 59 (.slice ao d.size cap) x.2.2 x.2.1.toList)) ((fun x => x.1)) ((fun x => x.2.2 :: F)) (((b - a, d1, c1) : Nat × Array Int × Hp)) (by repeat (first | exact True.intro | refine And.intro rfl ?_)) (by first | exact Cov.refl _ | (intro p; simp only [List.flatten_cons, List.flatten_nil, List.flatten_append, List.append_nil, List.nil_append, cnt_append, cnt_cons, cnt_nil, List.set_cons_zero, List.set_cons_succ, List.length_nil, List.length_cons, Nat.zero_add, List.append]; omega)) ?_ ?_
  · exact ⟨Nat.le_refl _, hsz, rfl, hL1⟩
  rintro ⟨k, d2, c2⟩ ⟨hk, hsz2, he2, hL2⟩
  dsimp only at hk hsz2 he2 hL2 ⊢
  refine cw_seq ?_
  refine cw_seq ?_
  refine cw_region ?_
  refine ow_val rfl rfl (v_move rfl) ?_
  refine ow_val rfl rfl (v_geq rfl rfl) ?_
  refine ow_nil ?_
  refine xw_then ?_
  refine cw_dec rfl (fun hc30 => ?_) (fun hc30 => ?_)
  refine cw_skip ?_
  refine xw_then ?_
  rotate_left
  refine cw_exit ?_
  refine xw_then_exit ?_
  refine xw_round_exit ?_
  refine xw_block_exit ?_
  refine ret0n rfl ?_
  rotate_left
  · obtain ⟨k, rfl⟩ : ∃ k', k = k' + 1 := ⟨k - 1, by omega⟩
    have he3 : Sort.heapPop Sort.ltInt a (k + 1) d2 = Sort.heapPop Sort.ltInt a k (Sort.siftDown Sort.ltInt k a 0 (Sort.swp d2 a (a + k))) := rfl
    have hl2 : d2.toList.length = d.size := by rw [Array.length_toList]; exact hsz2
    refine cw_seq ?_
    refine cw_block ?_
    refine cw_seq ?_
    refine cw_mix [] [17, 18, 19] [0, 1, 2, 3, 4, 5, 6, 7, 8, 9, 10, 11, 12, 13, 14, 15, 16] Ty.mixed rfl rfl rfl rfl (by decide +kernel) ?_
    refine hw_pure rfl rfl (v_move rfl) rfl ?_
    refine hw_pure rfl rfl (v_move rfl) rfl ?_
    refine hw_pure rfl rfl (v_move rfl) rfl ?_
    refine hw_pure rfl rfl (v_move rfl) rfl ?_
    refine hw_pure rfl rfl (v_move rfl) rfl ?_
    refine hw_pure rfl rfl (v_add rfl rfl (nw_i64 (by omega) (by omega))) rfl ?_
    refine hw_pure rfl rfl (v_move rfl) rfl ?_
    refine hw_pure rfl rfl (v_move rfl) rfl ?_
    refine hw_pure rfl rfl (v_move rfl) rfl ?_
    refine hw_pure rfl rfl (v_add rfl rfl (nw_i64 (by omega) (by omega))) rfl ?_
    refine hw_pure rfl rfl (v_indexAddr_ls Try.underlying99 (kdTy) rfl rfl (by assumption) (Int.toNat_of_nonneg (by omega)).symm (by omega)) rfl ?_
    refine hw_read rfl rfl rfl (v_load rfl (Go.Sl.Vw.var (kdTy) ((hL2.vw (by repeat (first | exact Sub.here | exact Sub.nil | assumption | refine Sub.there ?_)))) (by omega))) ?_
    refine hw_pure rfl rfl (v_move rfl) rfl ?_
    refine hw_pure rfl rfl (v_move rfl) rfl ?_
    refine hw_pure rfl rfl (v_indexAddr_ls Try.underlying99 (kdTy) rfl rfl (by assumption) rfl (by omega)) rfl ?_
    refine hw_read rfl rfl rfl (v_load rfl (Go.Sl.Vw.var (kdTy) ((hL2.vw (by repeat (first | exact Sub.here | exact Sub.nil | assumption | refine Sub.there ?_)))) (by omega))) ?_
    refine hw_pure rfl rfl (v_indexAddr_ls Try.underlying99 (kdTy) rfl rfl (by assumption) rfl (by omega)) rfl ?_
    refine hw_nil ?_
    refine sw_nil ?_
    refine ow_storeL (i := a) (a := d2.toList[((a : Int) + (((k + 1 : Nat) : Int) - 1)).toNat]'(by omega)) rfl rfl rfl kdTy hL2 (by repeat (first | exact Sel.here | apply Sel.there)) (by omega) (hL2.ok _ (List.getElem_mem _)) ?_
    intro csa hLsa
    have hlsa : (d2.toList.set a (d2.toList[((a : Int) + (((k + 1 : Nat) : Int) - 1)).toNat]'(by omega))).length = d2.toList.length := List.length_set
    refine ow_val rfl rfl (v_indexAddr_ls Try.underlying99 (kdTy) rfl rfl (by assumption) (Int.toNat_of_nonneg (by omega)).symm (by omega)) ?_
    refine ow_storeL (i := ((a : Int) + (((k + 1 : Nat) : Int) - 1)).toNat) (a := d2.toList[a]'(by omega)) rfl rfl rfl kdTy hLsa (by repeat (first | exact Sel.here | apply Sel.there)) (by rw [List.length_set]; omega) (hL2.ok _ (List.getElem_mem _)) ?_
    intro cs hLs
    rw [swpL (i' := a) (j' := a + k) (bangD _ (by omega)) (bangD _ (by omega)) (by omega) (by omega)] at hLs
    refine ow_nil ?_
    refine xw_np ?_
    refine xw_then ?_
    refine cw_region ?_
    refine ow_val rfl rfl (v_move rfl) ?_
    refine ow_val rfl rfl (v_move rfl) ?_
    refine ow_val rfl rfl (v_move rfl) ?_
    refine ow_val rfl rfl (v_move rfl) ?_
    (refine ow_call rfl rfl rfl rfl (siftK_c (lo := 0) (hi := k) (first := a) rfl (by omega) rfl (by repeat (first | exact Sel.here | apply Sel.there)) hLs (by omega) (by rw [swp_sz]; omega) (by rw [swp_sz]; omega)) ?_; rintro _ _ ⟨x55, rfl, hq55, rfl⟩)
    refine ow_nil ?_
    refine xw_block ?_
    refine xw_then ?_
    refine cw_region ?_
    refine ow_val rfl rfl (v_move rfl) ?_
    refine ow_val rfl rfl (v_sub rfl rfl (nw_i64 (by omega) (by omega))) ?_
    refine ow_val rfl rfl (v_assign rfl) ?_
    refine ow_nil ?_
    exact xw_round ((k, Sort.siftDown Sort.ltInt k a 0 (Sort.swp d2 a (a + k)), x55) : Nat × Array Int × Hp) ⟨by dsimp only; omega, by dsimp only; rw [siftDown_size, swp_sz]; exact hsz2, by rw [← he2, he3], hq55⟩ (by dsimp only; omega) (by first | exact Cov.refl _ | (intro p; simp only [List.flatten_cons, List.flatten_nil, List.flatten_append, List.append_nil, List.nil_append, cnt_append, cnt_cons, cnt_nil, List.set_cons_zero, List.set_cons_succ, List.length_nil, List.length_cons, Nat.zero_add, List.append]; omega)) (by repeat (first | exact True.intro | refine And.intro rfl ?_ | refine And.intro (congrArg (fun z : Int => some (Value.int IntKind.i64 z)) (by (try dsimp only); omega)) ?_))
  obtain rfl : k = 0 := by omega
  rw [show Sort.heapPop Sort.ltInt a 0 d2 = d2 from rfl] at he2
  rw [← he2]
  skip
  exact ⟨c2, rfl, hL2, (by first | exact Cov.refl _ | (intro p; simp only [List.flatten_cons, List.flatten_nil, List.flatten_append, List.append_nil, List.nil_append, cnt_append, cnt_cons, cnt_nil, List.set_cons_zero, List.set_cons_succ, List.length_nil, List.length_cons, Nat.zero_add, List.append]; omega))⟩
set_option maxHeartbeats 4000000 in
theorem revRK_c {B : Nat} {w0 : World} {G : List Hp} {R : Hp → List Hp} {ao : Option Addr} {n cap a b : Nat} {c : Hp} {d : Array Int} (hsel : Sel G c R) (hL : Ls enKd 59 (.slice ao n cap) c d.toList) (hab : a < b) (hb : b ≤ d.size) (hn : d.size ≤ 1000000) :
    Go.Sl.Fn Try.prog 114 #[.slice ao n cap, .int .i64 a, .int .i64 b] B w0 G fun u G' => ∃ c' : Hp, u = .tuple #[] ∧ Ls enKd 59 (.slice ao n cap) c' (Sort.reverseRange d a b).toList ∧ G' = R c' := by
  refine Fn.sel0 hsel fun F hR hF => ?_
  have hl := hL.len
  rw [Array.length_toList] at hl
  subst hl
  unfold Sort.reverseRange
  refine fn_enter Try.func114 rfl (by kernel_rfl) Try.ntmps114 (by simp) ?_
  refine cw_seq ?_
  refine cw_region ?_
  refine ow_val rfl rfl (v_move rfl) ?_
  refine ow_val rfl rfl (v_assign rfl) ?_
  refine ow_nil ?_
  refine xw_then ?_
  refine cw_seq ?_
  refine cw_region ?_
  refine ow_val rfl rfl (v_move rfl) ?_
  refine ow_val rfl rfl (v_sub rfl rfl (nw_i64 (by omega) (by omega))) ?_
  refine ow_val rfl rfl (v_assign rfl) ?_
  refine ow_nil ?_
  refine xw_then ?_
  refine cw_block ?_
  rw [show (b : Int) - 1 = ((b - 1 : Nat) : Int) by omega]
  refine cw_loop2 (ι := ((Nat × Nat × Array Int × Hp))) [(0, _)] ⟨rfl, trivial⟩ ((fun x => [(6, .int .i64 x.1), (7, .int .i64 x.2.1)])) ((fun x => a ≤ x.1 ∧ x.1 ≤ b ∧ x.2.1 < b ∧ x.2.2.1.size = d.size ∧ Sort.reverseLoop x.1 x.2.1 x.2.2.1 = Sort.reverseLoop a (b - 1) d ∧ Ls enKd 59 (.slice ao d.size cap) x.2.2.2 x.2.2.1.toList)) ((fun x => b - x.1)) ((fun x => x.2.2.2 :: F)) (((a, b - 1, d, c) : Nat × Nat × Array Int × Hp)) (by repeat (first | exact True.intro | refine And.intro rfl ?_)) (by first | exact Cov.refl _ | (intro p; simp only [List.flatten_cons, List.flatten_nil, List.flatten_append, List.append_nil, List.nil_append, cnt_append, cnt_cons, cnt_nil, List.set_cons_zero, List.set_cons_succ, List.length_nil, List.length_cons, Nat.zero_add, List.append]; omega)) ?_ ?_
  · exact ⟨Nat.le_refl _, by dsimp only; omega, by dsimp only; omega, rfl, rfl, hL⟩
  rintro ⟨i, j, d1, c1⟩ ⟨hi, hib, hj, hsz, he, hL1⟩
  dsimp only at hi hib hj hsz he hL1 ⊢
  have hl1 : d1.toList.length = d.size := by rw [Array.length_toList]; exact hsz
  refine cw_seq ?_
  refine cw_seq ?_
  refine cw_region ?_
  refine ow_val rfl rfl (v_move rfl) ?_
  refine ow_val rfl rfl (v_move rfl) ?_
  refine ow_val rfl rfl (v_lss rfl rfl) ?_
  refine ow_nil ?_
  refine xw_then ?_
  refine cw_dec rfl (fun hc13 => ?_) (fun hc13 => ?_)
  refine cw_skip ?_
  refine xw_then ?_
  refine cw_block ?_
  rotate_left
  refine cw_exit ?_
  refine xw_then_exit ?_
  refine xw_round_exit ?_
  refine xw_block_exit ?_
  refine ret0n rfl ?_
  rotate_left
  · rw [revLoop_go (by omega)] at he
    refine cw_seq ?_
    refine cw_mix [] [13, 14, 15] [0, 1, 2, 3, 4, 5, 6, 7, 8, 9, 10, 11, 12] Ty.mixed rfl rfl rfl rfl (by decide +kernel) ?_
    refine hw_pure rfl rfl (v_move rfl) rfl ?_
    refine hw_pure rfl rfl (v_move rfl) rfl ?_
    refine hw_pure rfl rfl (v_move rfl) rfl ?_
    refine hw_pure rfl rfl (v_move rfl) rfl ?_
    refine hw_pure rfl rfl (v_move rfl) rfl ?_
    refine hw_pure rfl rfl (v_move rfl) rfl ?_
    refine hw_pure rfl rfl (v_indexAddr_ls Try.underlying99 (kdTy) rfl rfl (by assumption) rfl (by omega)) rfl ?_
    refine hw_read rfl rfl rfl (v_load rfl (Go.Sl.Vw.var (kdTy) ((hL1.vw (by repeat (first | exact Sub.here | exact Sub.nil | assumption | refine Sub.there ?_)))) (by omega))) ?_
    refine hw_pure rfl rfl (v_move rfl) rfl ?_
    refine hw_pure rfl rfl (v_move rfl) rfl ?_
    refine hw_pure rfl rfl (v_indexAddr_ls Try.underlying99 (kdTy) rfl rfl (by assumption) rfl (by omega)) rfl ?_
    refine hw_read rfl rfl rfl (v_load rfl (Go.Sl.Vw.var (kdTy) ((hL1.vw (by repeat (first | exact Sub.here | exact Sub.nil | assumption | refine Sub.there ?_)))) (by omega))) ?_
    refine hw_pure rfl rfl (v_indexAddr_ls Try.underlying99 (kdTy) rfl rfl (by assumption) rfl (by omega)) rfl ?_
    refine hw_nil ?_
    refine sw_nil ?_
    refine ow_storeL (i := i) (a := d1.toList[j]'(by omega)) rfl rfl rfl kdTy hL1 (by repeat (first | exact Sel.here | apply Sel.there)) (by omega) (hL1.ok _ (List.getElem_mem _)) ?_
    intro csa hLsa
    have hlsa : (d1.toList.set i (d1.toList[j]'(by omega))).length = d1.toList.length := List.length_set
    refine ow_val rfl rfl (v_indexAddr_ls Try.underlying99 (kdTy) rfl rfl (by assumption) rfl (by omega)) ?_
    refine ow_storeL (i := j) (a := d1.toList[i]'(by omega)) rfl rfl rfl kdTy hLsa (by repeat (first | exact Sel.here | apply Sel.there)) (by rw [List.length_set]; omega) (hL1.ok _ (List.getElem_mem _)) ?_
    intro cs hLs
    rw [swpL (i' := i) (j' := j) (bangD _ (by omega)) (bangD _ (by omega)) (by omega) (by omega)] at hLs
    refine ow_nil ?_
    refine xw_np ?_
    refine xw_then ?_
    refine cw_seq ?_
    refine cw_region ?_
    refine ow_val rfl rfl (v_move rfl) ?_
    refine ow_val rfl rfl (v_add rfl rfl (nw_i64 (by omega) (by omega))) ?_
    refine ow_val rfl rfl (v_assign rfl) ?_
    refine ow_nil ?_
    refine xw_then ?_
    refine cw_region ?_
    refine ow_val rfl rfl (v_move rfl) ?_
    refine ow_val rfl rfl (v_sub rfl rfl (nw_i64 (by omega) (by omega))) ?_
    refine ow_val rfl rfl (v_assign rfl) ?_
    refine ow_nil ?_
    refine xw_block ?_
    exact xw_round ((i + 1, j - 1, Sort.swp d1 i j, cs) : Nat × Nat × Array Int × Hp) ⟨by dsimp only; omega, by dsimp only; omega, by dsimp only; omega, by dsimp only; rw [swp_sz]; exact hsz, he, hLs⟩ (by dsimp only; omega) (by first | exact Cov.refl _ | (intro p; simp only [List.flatten_cons, List.flatten_nil, List.flatten_append, List.append_nil, List.nil_append, cnt_append, cnt_cons, cnt_nil, List.set_cons_zero, List.set_cons_succ, List.length_nil, List.length_cons, Nat.zero_add, List.append]; omega)) (by repeat (first | exact True.intro | refine And.intro rfl ?_ | refine And.intro (congrArg (fun z : Int => some (Value.int IntKind.i64 z)) (by (try dsimp only); omega)) ?_))
  · rw [revLoop_stop (by omega)] at he
    rw [← he]
    skip
    exact ⟨c1, rfl, hL1, (by first | exact Cov.refl _ | (intro p; simp only [List.flatten_cons, List.flatten_nil, List.flatten_append, List.append_nil, List.nil_append, cnt_append, cnt_cons, cnt_nil, List.set_cons_zero, List.set_cons_succ, List.length_nil, List.length_cons, Nat.zero_add, List.append]; omega))⟩

end Go.Proofs.Ytckdhelnafjddaa
