/- RulesCounts: whatever the input it returns true, and the input reads as it did. Conditions: none. -/
import Derived.Test.YtckdhelnafjddaaRuK
import Derived.Test.YtckdhelnafjddaaRuC
namespace Go.Proofs.Ytckdhelnafjddaa.lawRulesCounts
open Go Go.Sl Go.Proofs Go.RowKit Go.ChangeShapes Go.WideShapes Go.ChangeAt Go.Proofs.Ytckdhelnafjddaa
set_option maxRecDepth 20000
set_option linter.unusedVariables false
set_option linter.unusedSimpArgs false

theorem strict {l : List Int} (h : l.Pairwise (· ≤ ·)) (hn : l.Nodup) {i : Nat} (h0 : 0 < i) (hi : i < l.length) : l[i - 1] < l[i] := by
  have h1 := (List.pairwise_iff_getElem.1 h) (i - 1) i (by omega) hi (by omega)
  have h2 : l[i - 1] ≠ l[i] := fun e => by
    have := (List.getElem_inj hn).1 e
    omega
  omega
set_option maxHeartbeats 8000000 in
theorem law {B : Nat} {w0 : World} {es : List EvE} {ao : Option Addr} {ca : Nat} (hn : es.length ≤ 9223372036854775807) (hV : ∀ G, Vw enEv (St B w0 G) (.slice ao es.length ca) es) :
    FnC Try.prog 9 #[.slice ao es.length ca] B w0 [] (R0 (.bool true)) := fun F => by
  refine fn_enter Try.func9 rfl (by kernel_rfl) Try.ntmps9 (by simp) ?_
  refine cw_seq ?_
  refine cw_region ?_
  refine ow_val rfl rfl (v_assign rfl) ?_
  refine ow_nil ?_
  refine xw_then ?_
  refine cw_seq ?_
  refine cw_seq ?_
  refine cw_region ?_
  refine ow_val rfl rfl (v_call rfl rfl (awake31_c)) ?_
  refine ow_val rfl rfl (v_not_true rfl) ?_
  refine ow_nil ?_
  refine xw_then ?_
  refine cw_false rfl ?_
  refine cw_skip ?_
  refine xw_then ?_
  refine cw_seq ?_
  refine cw_seq ?_
  refine cw_region ?_
  refine ow_val rfl rfl (v_move rfl) ?_
  (refine ow_call rfl rfl rfl rfl (evLight_c (hV _) hn) ?_; rintro _ _ ⟨x14, rfl, hq14, rfl⟩)
  refine ow_val rfl rfl (v_not_bool rfl) ?_
  refine ow_nil ?_
  refine xw_then ?_
  refine cw_bool rfl (fun hc15 => ?_) (fun hc15 => ?_)
  refine cw_seq ?_
  refine cw_region ?_
  refine ow_val rfl rfl (v_assign rfl) ?_
  refine ow_nil ?_
  refine xw_then ?_
  refine cw_ret ?_
  refine xw_then_ret ?_
  refine ret1 rfl (res_tmp rfl) ?_
  rotate_left
  refine cw_skip ?_
  refine xw_then ?_
  rotate_left
  · exact done0 rfl (by first | exact Cov.refl _ | (intro p; simp only [List.flatten_cons, List.flatten_nil, List.flatten_append, List.append_nil, List.nil_append, cnt_append, cnt_cons, cnt_nil, List.set_cons_zero, List.set_cons_succ, List.length_nil, List.length_cons, Nat.zero_add, List.append]; omega))
  rename_i F
  obtain ⟨h60, -⟩ : es.length ≤ 60 ∧ ∀ e ∈ es, e.m.n.length ≤ 30 ∧ e.m.d.length ≤ 100 := hq14 (by simpa using hc15)
  clear hq14 hc15
  refine cw_seq ?_
  refine cw_region ?_
  refine ow_val rfl rfl (v_move rfl) ?_
  (refine ow_call rfl rfl rfl rfl (count_c (hV _) (by omega)) ?_; rintro _ _ ⟨x17, rfl, hq17, rfl⟩)
  refine ow_val rfl rfl (v_assign rfl) ?_
  refine ow_nil ?_
  refine xw_then ?_
  refine cw_seq ?_
  refine cw_region ?_
  refine ow_val rfl rfl (v_assign rfl) ?_
  refine ow_nil ?_
  refine xw_then ?_
  obtain ⟨bm, cm⟩ := x17
  have hMG : MapG .u8 (cf (es.map (·.m))) bm cm := hq17
  obtain ⟨m, hMR, hlk⟩ := hMG
  have hMG : MapG .u8 (cf (es.map (·.m))) bm cm := hq17
  have hCM := CntMap.of hMR.choose_spec.choose_spec.2.2.1 hlk
  have hml := hCM.len
  rw [List.length_map] at hml
  have hkb : ∀ q ∈ m, (0 ≤ q.1 ∧ q.1 ≤ 255) ∧ ∃ n : Int, q.2 = .int .i64 n ∧ 0 < n := fun q hq => by
    obtain ⟨h1, h2⟩ := hCM.ok q hq
    obtain ⟨e, he, hek⟩ := cnt_pos h2
    obtain ⟨x, hx, rfl⟩ := List.mem_map.1 he
    have h3 : x.m.ok := (hV []).ok x hx
    exact ⟨by rw [← hek]; exact h3.k, _, h1, by omega⟩
  dsimp only
  refine cw_seq ?_
  refine cw_region ?_
  refine ow_val rfl rfl (v_move rfl) ?_
  (refine ow_call rfl rfl rfl rfl (kinds_c hMR (by repeat (first | exact Sub.here | exact Sub.nil | assumption | refine Sub.there ?_)) (by omega) hkb) ?_; rintro _ _ ⟨x19, rfl, hq19, rfl⟩)
  refine ow_val rfl rfl (v_assign rfl) ?_
  refine ow_nil ?_
  refine xw_then ?_
  obtain ⟨ko, kc, ck, ks⟩ := x19
  obtain ⟨k1, k2, k3⟩ := hq19
  dsimp only at k1 k2 k3 ⊢
  have hnd : ks.Nodup := k1.nodup_iff.2 hCM.nd
  have hkl : ks.length = m.length := by have := k1.length_eq; rwa [List.length_map] at this
  have hpos : ∀ i (h : i < ks.length), 0 < cntK (es.map (·.m)) ks[i] := fun i h => by
    obtain ⟨q, hq, h2⟩ := List.mem_map.1 (k1.mem_iff.1 (List.getElem_mem h))
    rw [← h2]
    exact (hCM.ok q hq).2
  have hall : sumK (es.map (·.m)) ks = es.length := by
    have := sumK_all hnd (es := es.map (·.m)) fun e he => k1.mem_iff.2 (hCM.all e he)
    rwa [List.length_map] at this
  have hcle : ∀ k, cntK (es.map (·.m)) k ≤ es.length := fun k => by
    have := cntK_le (es := es.map (·.m)) (k := k)
    rwa [List.length_map] at this
  refine cw_seq ?_
  refine cw_seq ?_
  refine cw_region ?_
  refine ow_val rfl rfl (v_move rfl) ?_
  refine ow_val rfl rfl (v_len rfl Try.underlying99 rfl) ?_
  refine ow_val rfl rfl (v_move rfl) ?_
  refine ow_nil ?_
  refine xw_then ?_
  refine cw_block ?_
  refine cw_cov (ck :: cm :: F) (by first | exact Cov.refl _ | (intro p; simp only [List.flatten_cons, List.flatten_nil, List.flatten_append, List.append_nil, List.nil_append, cnt_append, cnt_cons, cnt_nil, List.set_cons_zero, List.set_cons_succ, List.length_nil, List.length_cons, Nat.zero_add, List.append]; omega)) ?_
  refine cw_loop2 (ι := (Nat)) [(0, _), (3, _), (5, _), (12, _), (20, _), (21, _)] ⟨rfl, rfl, rfl, rfl, rfl, rfl, trivial⟩ ((fun i => [(22, .int .i64 i), (4, .int .i64 (sumK (es.map (·.m)) (ks.take i) : Nat))])) ((fun i => i ≤ ks.length)) ((fun i => ks.length - i)) ((fun _ => ck :: cm :: F)) ((0 : Nat)) (by repeat (first | exact True.intro | refine And.intro rfl ?_)) (by first | exact Cov.refl _ | (intro p; simp only [List.flatten_cons, List.flatten_nil, List.flatten_append, List.append_nil, List.nil_append, cnt_append, cnt_cons, cnt_nil, List.set_cons_zero, List.set_cons_succ, List.length_nil, List.length_cons, Nat.zero_add, List.append]; omega)) ?_ ?_
  · exact Nat.zero_le _
  rintro i hi
  have hsl : sumK (es.map (·.m)) (ks.take i) ≤ es.length := by
    have h := sumK_app (es := es.map (·.m)) (a := ks.take i) (b := ks.drop i)
    rw [List.take_append_drop, hall] at h
    omega
  refine cw_seq ?_
  refine cw_region ?_
  refine ow_val rfl rfl (v_lss rfl rfl) ?_
  refine ow_nil ?_
  refine xw_then ?_
  refine cw_seq ?_
  refine cw_dec rfl (fun hc23 => ?_) (fun hc23 => ?_)
  refine cw_skip ?_
  refine xw_then ?_
  rotate_left
  refine cw_exit ?_
  refine xw_then_exit ?_
  refine xw_round_exit ?_
  refine xw_block_exit ?_
  refine xw_then ?_
  rotate_left
  · have hi2 : i < ks.length := by omega
    have hpi := hpos i hi2
    have hst : 0 < i → ks[i - 1] < ks[i] := fun h0 => strict k2 hnd h0 hi2
    refine cw_seq ?_
    refine cw_block ?_
    refine cw_seq ?_
    refine cw_region ?_
    refine ow_val rfl rfl (v_move rfl) ?_
    refine ow_val rfl rfl (v_indexAddr_ls Try.underlying99 (kdTy) rfl rfl (by assumption) rfl (by omega)) ?_
    refine ow_val rfl rfl (v_load rfl (Go.Sl.Vw.var (kdTy) ((k3.vw (by repeat (first | exact Sub.here | exact Sub.nil | assumption | refine Sub.there ?_)))) (by omega))) ?_
    refine ow_val rfl rfl (v_assign rfl) ?_
    refine ow_val rfl rfl (v_assign rfl) ?_
    refine ow_nil ?_
    refine xw_then ?_
    refine cw_seq ?_
    refine cw_region ?_
    refine ow_val rfl rfl (v_assign rfl) ?_
    refine ow_nil ?_
    refine xw_then ?_
    refine cw_cut2 (ι := (Hp)) [(0, _), (3, _), (4, _), (5, _), (6, _), (7, _), (12, _), (20, _), (21, _), (22, _)] ⟨rfl, rfl, rfl, rfl, rfl, rfl, rfl, rfl, rfl, rfl, trivial⟩ ((fun _ => [(8, .int .i64 (cntK (es.map (·.m)) ks[i] : Nat))])) ((fun _ => True)) ((fun _ => ck :: cm :: F)) ?_ ?_
    · refine cw_seq ?_
      refine cw_region ?_
      refine ow_val rfl rfl (v_move rfl) ?_
      refine ow_val rfl rfl (v_len rfl Try.underlying57 rfl) ?_
      refine ow_val rfl rfl (v_move rfl) ?_
      refine ow_nil ?_
      refine xw_then ?_
      refine cw_block ?_
      refine cw_loop2 (ι := (Nat)) [(0, _), (3, _), (4, _), (5, _), (6, _), (7, _), (12, _), (20, _), (21, _), (22, _), (27, _), (28, _)] ⟨rfl, rfl, rfl, rfl, rfl, rfl, rfl, rfl, rfl, rfl, rfl, rfl, trivial⟩ ((fun j => [(29, .int .i64 j), (8, .int .i64 (cntK ((es.take j).map (·.m)) ks[i] : Nat))])) ((fun j => j ≤ es.length)) ((fun j => es.length - j)) ((fun _ => ck :: cm :: F)) ((0 : Nat)) (by repeat (first | exact True.intro | refine And.intro rfl ?_)) (by first | exact Cov.refl _ | (intro p; simp only [List.flatten_cons, List.flatten_nil, List.flatten_append, List.append_nil, List.nil_append, cnt_append, cnt_cons, cnt_nil, List.set_cons_zero, List.set_cons_succ, List.length_nil, List.length_cons, Nat.zero_add, List.append]; omega)) ?_ ?_
      · exact Nat.zero_le _
      rintro j hj
      have hcj : cntK ((es.take j).map (·.m)) ks[i] ≤ es.length := by
        have := cntK_le (es := (es.take j).map (·.m)) (k := ks[i])
        rw [List.length_map, List.length_take] at this
        omega
      refine cw_seq ?_
      refine cw_region ?_
      refine ow_val rfl rfl (v_lss rfl rfl) ?_
      refine ow_nil ?_
      refine xw_then ?_
      refine cw_seq ?_
      refine cw_dec rfl (fun hc30 => ?_) (fun hc30 => ?_)
      refine cw_skip ?_
      refine xw_then ?_
      rotate_left
      refine cw_exit ?_
      refine xw_then_exit ?_
      refine xw_round_exit ?_
      refine xw_block_exit ?_
      rotate_left
      · have hj2 : j < es.length := by omega
        have hok := (hV []).ok _ (List.getElem_mem hj2)
        have hce : ∀ u ∈ (es[j]).m.cells (es[j]).p, u.oneCell' = true := EvM.cells_one
        have hle : ((es[j]).m.cells (es[j]).p).length = 4 := rfl
        have hV0 := hV (ck :: cm :: F)
        have hsn : cntK ((es.take (j + 1)).map (·.m)) ks[i] = cntK ((es.take j).map (·.m)) ks[i] + if ks[i] = (es[j]).m.k then 1 else 0 := by
          rw [List.take_succ_eq_append_getElem hj2, List.map_append]
          exact cntK_snoc
        refine cw_seq ?_
        refine cw_block ?_
        refine cw_seq ?_
        refine cw_region ?_
        refine ow_val rfl rfl (v_indexAddr_vw Try.underlying57 (evTy) rfl rfl (by assumption) rfl (by omega)) ?_
        refine ow_val rfl rfl (v_load rfl (Go.Sl.Vw.var (evTy) (hV _) (by omega))) ?_
        (refine ow_alloc rfl rfl Ty.ze62 ?_; intro b10)
        refine ow_storeE rfl (evTy) rfl rfl .here (by first | rfl | assumption) (by assumption) ?_
        refine ow_nil ?_
        refine xw_then ?_
        refine cw_seq ?_
        refine cw_region ?_
        refine ow_val rfl rfl (v_fieldAddr0 Ty.fd62_0 rfl) ?_
        refine ow_val rfl rfl (v_load rfl (Var.at1 Ty.sc59 .here ((GetN.lit rfl)))) ?_
        refine ow_val rfl rfl (v_move rfl) ?_
        refine ow_val rfl rfl (v_eql rfl rfl) ?_
        refine ow_nil ?_
        refine xw_then ?_
        refine cw_dec rfl (fun hc36 => ?_) (fun hc36 => ?_)
        refine cw_region ?_
        refine ow_val rfl rfl (v_move rfl) ?_
        refine ow_val rfl rfl (v_add rfl rfl (nw_i64 (by omega) (by omega))) ?_
        refine ow_val rfl rfl (v_assign rfl) ?_
        refine ow_nil ?_
        refine xw_block ?_
        refine xw_then ?_
        refine cw_region ?_
        refine ow_val rfl rfl (v_add rfl rfl (nw_i64 (by omega) (by omega))) ?_
        refine ow_val rfl rfl (v_move rfl) ?_
        refine ow_nil ?_
        rotate_left
        refine cw_skip ?_
        refine xw_block ?_
        refine xw_then ?_
        refine cw_region ?_
        refine ow_val rfl rfl (v_add rfl rfl (nw_i64 (by omega) (by omega))) ?_
        refine ow_val rfl rfl (v_move rfl) ?_
        refine ow_nil ?_
        rotate_left
        · exact xw_round (j + 1) (by omega) (by omega) (by first | exact Cov.refl _ | (intro p; simp only [List.flatten_cons, List.flatten_nil, List.flatten_append, List.append_nil, List.nil_append, cnt_append, cnt_cons, cnt_nil, List.set_cons_zero, List.set_cons_succ, List.length_nil, List.length_cons, Nat.zero_add, List.append]; omega)) ⟨rfl, congrArg (fun z : Int => some (Value.int IntKind.i64 z)) (by rw [hsn, if_pos (by omega)]; omega), (by repeat (first | exact True.intro | refine And.intro rfl ?_))⟩
        · exact xw_round (j + 1) (by omega) (by omega) (by first | exact Cov.refl _ | (intro p; simp only [List.flatten_cons, List.flatten_nil, List.flatten_append, List.append_nil, List.nil_append, cnt_append, cnt_cons, cnt_nil, List.set_cons_zero, List.set_cons_succ, List.length_nil, List.length_cons, Nat.zero_add, List.append]; omega)) ⟨rfl, congrArg (fun z : Int => some (Value.int IntKind.i64 z)) (by rw [hsn, if_neg (by omega)]; omega), (by repeat (first | exact True.intro | refine And.intro rfl ?_))⟩
      · obtain rfl : j = es.length := by omega
        rw [List.take_length]
        exact xw_joint ck trivial (by first | exact Cov.refl _ | (intro p; simp only [List.flatten_cons, List.flatten_nil, List.flatten_append, List.append_nil, List.nil_append, cnt_append, cnt_cons, cnt_nil, List.set_cons_zero, List.set_cons_succ, List.length_nil, List.length_cons, Nat.zero_add, List.append]; omega)) (by repeat (first | exact True.intro | refine And.intro rfl ?_))
    rintro _ -
    have hc0 := hcle ks[i]
    have hse : sumK (es.map (·.m)) (ks.take (i + 1)) = sumK (es.map (·.m)) (ks.take i) + cntK (es.map (·.m)) ks[i] := by
      rw [List.take_succ_eq_append_getElem hi2, sumK_app]
      rfl
    refine cw_seq ?_
    refine cw_seq ?_
    refine cw_region ?_
    refine ow_val rfl rfl (v_move rfl) ?_
    refine ow_val rfl rfl (v_eql rfl rfl) ?_
    refine ow_val rfl rfl (v_move rfl) ?_
    refine ow_dec 42 rfl (fun hc42 => ?_) (fun hc42 => ?_)
    (exfalso; omega)
    refine ow_val rfl rfl (v_move rfl) ?_
    refine ow_val rfl rfl (v_move rfl) ?_
    refine ow_val rfl rfl ((v_cnt rfl rfl (by repeat (first | exact Sub.here | exact Sub.nil | assumption | refine Sub.there ?_)) hMG)) ?_
    refine ow_val rfl rfl (v_move rfl) ?_
    refine ow_val rfl rfl (v_neq rfl rfl) ?_
    refine ow_val rfl rfl (v_pick_false rfl rfl) ?_
    refine ow_val rfl rfl (v_move rfl) ?_
    refine ow_dec 49 rfl (fun hc49 => ?_) (fun hc49 => ?_)
    (exfalso; omega)
    refine ow_val rfl rfl (v_move rfl) ?_
    refine ow_val rfl rfl (v_gtr rfl rfl) ?_
    refine ow_val rfl rfl (v_move rfl) ?_
    refine ow_dec 52 rfl (fun hc52 => ?_) (fun hc52 => ?_)
    refine ow_val rfl rfl (v_move rfl) ?_
    refine ow_val rfl rfl (v_move rfl) ?_
    refine ow_val rfl rfl (v_sub rfl rfl (nw_i64 (by omega) (by omega))) ?_
    refine ow_val rfl rfl (v_indexAddr_ls Try.underlying99 (kdTy) rfl rfl (by assumption) (Int.toNat_of_nonneg (by omega)).symm (by omega)) ?_
    refine ow_val rfl rfl (v_load rfl (Go.Sl.Vw.var (kdTy) ((k3.vw (by repeat (first | exact Sub.here | exact Sub.nil | assumption | refine Sub.there ?_)))) (by omega))) ?_
    refine ow_val rfl rfl (v_move rfl) ?_
    refine ow_val rfl rfl (v_geq rfl rfl) ?_
    refine ow_val rfl rfl (v_pick_true rfl rfl) ?_
    refine ow_val rfl rfl (v_pick_false rfl rfl) ?_
    refine ow_nil ?_
    refine xw_then ?_
    refine cw_dec rfl (fun hc61 => ?_) (fun hc61 => ?_)
    refine cw_seq ?_
    refine cw_region ?_
    refine ow_val rfl rfl (v_assign rfl) ?_
    refine ow_nil ?_
    refine xw_then ?_
    refine cw_ret ?_
    refine xw_then_ret ?_
    refine xw_block_ret ?_
    refine xw_then_ret ?_
    refine xw_round_ret ?_
    refine xw_block_ret ?_
    refine xw_then_ret ?_
    refine ret1 rfl (res_tmp rfl) ?_
    rotate_left
    refine cw_skip ?_
    refine xw_then ?_
    refine cw_region ?_
    refine ow_val rfl rfl (v_move rfl) ?_
    refine ow_val rfl rfl (v_move rfl) ?_
    refine ow_val rfl rfl (v_add rfl rfl (nw_i64 (by omega) (by omega))) ?_
    refine ow_val rfl rfl (v_assign rfl) ?_
    refine ow_nil ?_
    refine xw_block ?_
    refine xw_then ?_
    refine cw_region ?_
    refine ow_val rfl rfl (v_add rfl rfl (nw_i64 (by omega) (by omega))) ?_
    refine ow_val rfl rfl (v_move rfl) ?_
    refine ow_nil ?_
    rotate_left
    refine ow_skip rfl rfl ?_
    refine ow_skip rfl rfl ?_
    refine ow_skip rfl rfl ?_
    refine ow_skip rfl rfl ?_
    refine ow_skip rfl rfl ?_
    refine ow_skip rfl rfl ?_
    refine ow_skip rfl rfl ?_
    refine ow_val rfl rfl (v_pick_false rfl rfl) ?_
    refine ow_val rfl rfl (v_pick_false rfl rfl) ?_
    refine ow_nil ?_
    refine xw_then ?_
    refine cw_false rfl ?_
    refine cw_skip ?_
    refine xw_then ?_
    refine cw_region ?_
    refine ow_val rfl rfl (v_move rfl) ?_
    refine ow_val rfl rfl (v_move rfl) ?_
    refine ow_val rfl rfl (v_add rfl rfl (nw_i64 (by omega) (by omega))) ?_
    refine ow_val rfl rfl (v_assign rfl) ?_
    refine ow_nil ?_
    refine xw_block ?_
    refine xw_then ?_
    refine cw_region ?_
    refine ow_val rfl rfl (v_add rfl rfl (nw_i64 (by omega) (by omega))) ?_
    refine ow_val rfl rfl (v_move rfl) ?_
    refine ow_nil ?_
    rotate_left
    · exfalso
      have h1 := hst (by omega)
      have h2 : ks[((i : Int) - 1).toNat]'(by omega) = ks[i - 1] := by congr 1; omega
      rw [h2] at hc61
      omega
    · exact xw_round (i + 1) (by omega) (by omega) (by first | exact Cov.refl _ | (intro p; simp only [List.flatten_cons, List.flatten_nil, List.flatten_append, List.append_nil, List.nil_append, cnt_append, cnt_cons, cnt_nil, List.set_cons_zero, List.set_cons_succ, List.length_nil, List.length_cons, Nat.zero_add, List.append]; omega)) ⟨rfl, congrArg (fun z : Int => some (Value.int IntKind.i64 z)) (by rw [hse]; omega), (by repeat (first | exact True.intro | refine And.intro rfl ?_))⟩
    · exact xw_round (i + 1) (by omega) (by omega) (by first | exact Cov.refl _ | (intro p; simp only [List.flatten_cons, List.flatten_nil, List.flatten_append, List.append_nil, List.nil_append, cnt_append, cnt_cons, cnt_nil, List.set_cons_zero, List.set_cons_succ, List.length_nil, List.length_cons, Nat.zero_add, List.append]; omega)) ⟨rfl, congrArg (fun z : Int => some (Value.int IntKind.i64 z)) (by rw [hse]; omega), (by repeat (first | exact True.intro | refine And.intro rfl ?_))⟩
  · refine cw_seq ?_
    refine cw_region ?_
    refine ow_val rfl rfl (v_move rfl) ?_
    refine ow_val rfl rfl (v_move rfl) ?_
    refine ow_val rfl rfl (v_len rfl Try.underlying57 rfl) ?_
    refine ow_val rfl rfl (v_eql rfl rfl) ?_
    refine ow_val rfl rfl (v_assign rfl) ?_
    refine ow_nil ?_
    refine xw_then ?_
    refine cw_ret ?_
    refine ret1 rfl (res_tmp rfl) ?_
    obtain rfl : i = ks.length := by omega
    rw [List.take_length, hall, decide_eq_true rfl]
    exact done0 rfl (by first | exact Cov.refl _ | (intro p; simp only [List.flatten_cons, List.flatten_nil, List.flatten_append, List.append_nil, List.nil_append, cnt_append, cnt_cons, cnt_nil, List.set_cons_zero, List.set_cons_succ, List.length_nil, List.length_cons, Nat.zero_add, List.append]; omega))

theorem walk {H : Type} {enc : TypeId × Value → H} (W : World) (base : Nat) (args : Array Value) (ds : List (DataW H)) (p : List MemPlace)
    (hval : ∀ (j : Nat) t v, Try.f9.params[j]? = some t → args[j]? = some v → Value.okWide Try.prog W .any base t v)
    (hA : DataW.TrodAll enc Try.prog W 0 (fun _ => true) true Try.f9.params.toList args.toList ds p) :
    Calls Try.prog 9 args W fun e w' => e = .returned (.bool true) ∧ Below W.heap.size W w' := by
  rw [Try.params9] at hA hval
  obtain ⟨v0, vs0, d0, ds0, p0, q0, hargs, rfl, rfl, h0, r0⟩ := trodAll_cons hA
  obtain ⟨rfl, rfl, rfl⟩ := trodAll_nil r0
  obtain rfl : args = #[v0] := by cases args; simp_all
  obtain ⟨es, ao, ca, rfl, hn, hV, hD⟩ := open_events (hval 0 57 v0 rfl rfl) h0
  exact (law hn hV []).call

theorem own : ownKnob Try.prog.godebug = none := by kernel_rfl
theorem laidOut : laidOutB Try.prog = true := by kernel_rfl
theorem reads : ∀ t ∈ Try.f9.params.toList, Try.prog.readableRec t = true ∧ t < Try.prog.types.size := by
  rw [Try.params9]
  intro t ht
  simp only [List.mem_cons, List.not_mem_nil, or_false] at ht
  rcases ht with rfl
  · exact ⟨by kernel_rfl, of_decide_eq_true (by kernel_rfl)⟩

set_option maxRecDepth 100000 in
theorem lifted (os : Os) (started : os.Started) (H : Type) (enc : TypeId × Value → H) :
    ReturnsInHanded {} Try.checked os 9 .any (Rows.rulesCountsSpec.pre6 enc Try.prog Try.f9 Rows.rulesCountsRow.domain false) (Rows.rulesCountsSpec.post enc Try.prog Try.f9 false true false false) := by
  refine returnsInHanded_of_change (C := Try.checked) own started (by kernel_rfl) Try.func9
    (ChangeSpec.witness6 (enc := enc) (C := Try.checked) false ⟨#[], #[.slice none 0 0], []⟩ 8 (by kernel_rfl) (by kernel_rfl) (by kernel_rfl) (by kernel_rfl)) ?_
  intro W base args ds gs before hval hW _ _
  have hW' := hW
  obtain ⟨p, q, hA0, hV, rfl, _, _⟩ := hW
  obtain ⟨rfl, rfl⟩ := trodVars_none hV
  have hA : DataW.TrodAll enc Try.prog W 0 (fun _ => true) true Try.f9.params.toList args.toList ds p := hA0
  have hlen := trodAll_len hA
  refine (walk W base args ds p hval hA).mono fun e W' ⟨he, bel⟩ => ?_
  subst he
  rw [Try.params9] at hlen
  match ds, hlen.2, hA, hW' with
  | [d0], _, hA, hW' => exact ⟨_, rfl, _, _, _, [], _, [], hW', trodAll_mk1 (shut_bool Try.underlying4 _), trodAll_stays laidOut bel reads hA, rfl, bel.frame _, fun h => by cases h⟩

theorem over : Rows.rulesCountsRow.holds Try.pinned (OpenSpec.ofChange Rows.rulesCountsSpec) :=
  OpenClaim.holds_of_wide 9 Try.f9 rfl rfl rfl rfl rfl rfl rfl ⟨rfl, rfl, rfl, rfl, rfl⟩ rfl rfl rfl rfl rfl (by kernel_rfl) Try.func9 (by kernel_rfl)
    (of_decide_eq_true (by kernel_rfl)) (by unfold Func.isWrapper; first | (rw [if_pos (by decide +kernel)]; kernel_rfl) | (rw [if_neg (by decide +kernel)]; exact ⟨rfl, rfl⟩))
    (fun os started H enc _ => lifted os started H enc)

theorem proved : Rows.RulesCountsSaid := over

end Go.Proofs.Ytckdhelnafjddaa.lawRulesCounts
