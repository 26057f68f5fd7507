/- The rules' checker: one event. Conditions: numbers fit their types. -/
import Derived.Test.YtckdhelnafjddaaRuM
namespace Go.Proofs.Ytckdhelnafjddaa
open Go Go.Sl Go.Proofs Go.RowKit Go.ChangeShapes Go.WideShapes Go.ChangeAt
set_option maxRecDepth 20000
set_option linter.unusedVariables false
set_option linter.unusedSimpArgs false

def CkAt (c : CkM) (b : Nat) (h : Hp) : Prop := ∃ p D, h = [(b, .cells (c.cells p).toArray 132 (0, 0))] ++ D ∧ StDeep c.st p D ∧ p.live
theorem step_pre {c : CkM} {e : EvM} {v : Int} (h : c.pre e = v) (hv : v ≠ 0) : c.step e = (c, v) := by
  unfold CkM.step
  rw [h, if_pos hv]
theorem step_fold {c : CkM} {e : EvM} (h : c.pre e = 0) (hv : (c.st.step e).2 ≠ 0) : c.step e = (c, 1) := by
  unfold CkM.step
  rw [if_neg (by simp [h]), if_pos hv]
theorem step_post {c : CkM} {e : EvM} (h : c.pre e = 0) (hv : (c.st.step e).2 = 0) : c.step e = CkM.post { c with st := (c.st.step e).1 } e (c.st.mt.getD 7 0) := by
  unfold CkM.step
  rw [if_neg (by simp [h]), if_neg (by simp [hv])]
theorem step_zero_chk {s : StM} {e : EvM} (h : (s.step e).2 = 0) : e.chk = 0 := by
  unfold StM.step at h
  split at h
  · exact h
  · rename_i h1
    exact Decidable.of_not_not h1
theorem step_zero_sp {s : StM} {e : EvM} (h : (s.step e).2 = 0) (hk : 2 ≤ e.k ∧ e.k ≤ 7) : e.at 0 < 3 := by
  unfold StM.step at h
  split at h
  · rename_i h1
    exact absurd h h1
  split at h
  · exact absurd (show (11 : Int) = 0 from h) (by decide)
  split at h
  · exact absurd (show (2 : Int) = 0 from h) (by decide)
  · omega
theorem chk_zero_at {e : EvM} (h : e.chk = 0) (i : Nat) : e.at i ≤ 4611686018427387903 := by
  unfold EvM.chk at h
  split at h
  · exact absurd h (by decide)
  split at h
  · exact absurd h (by decide)
  split at h
  · exact absurd h (by decide)
  split at h
  · exact absurd h (by decide)
  split at h
  · rename_i h1
    by_cases hi : i < e.n.length
    · rw [← EvM.at_get hi]
      exact h1 _ (List.getElem_mem hi)
    · rw [EvM.at_big hi]
      decide
  · exact absurd h (by decide)
theorem ck_setac {c : CkM} {p : StP} {T : TypeId} (hw : c.WF) {i : Nat} {v : Int} (hi : i < 3) : SetN (.cells (c.cells p).toArray T (0, 0)) (37 + i * 1) [.int .i64 v] (.cells (({ c with ac := c.ac.set i v } : CkM).cells p).toArray T (0, 0)) := by
  have h1 := StM.cells_len (p := p) hw.st
  have h2 := hw.ac
  rw [Nat.mul_one]
  have h3 := SetN.one (l := c.cells p) (e := T) (off := 37 + i) (v := .int .i64 v) (by unfold CkM.cells CkM.tl; simp; omega)
  unfold CkM.cells CkM.tl at h3 ⊢
  rw [List.set_append_right _ _ (by omega), h1, Nat.add_sub_cancel_left, List.set_append_left _ _ (by rw [List.length_map]; omega), ← List.map_set] at h3
  exact h3
theorem ck_setlf {c : CkM} {p : StP} {T : TypeId} (hw : c.WF) {v : Int} : SetN (.cells (c.cells p).toArray T (0, 0)) 40 [.int .i64 v] (.cells (({ c with lf := v } : CkM).cells p).toArray T (0, 0)) := by
  have h1 := StM.cells_len (p := p) hw.st
  have h2 := hw.ac
  have h3 := SetN.one (l := c.cells p) (e := T) (off := 40) (v := .int .i64 v) (by unfold CkM.cells CkM.tl; simp; omega)
  unfold CkM.cells CkM.tl at h3 ⊢
  rw [List.set_append_right _ _ (by omega), h1, List.set_append_right _ _ (by rw [List.length_map]; omega), List.length_map, h2] at h3
  exact h3
theorem wrap_i {n : Int} (h : 0 ≤ n ∧ n ≤ 9223372036854775807) : IntKind.i64.wrap n = n := by
  have h1 : n % 18446744073709551616 = n := by omega
  show (if (true && decide (n % 18446744073709551616 ≥ 9223372036854775808)) = true then n % 18446744073709551616 - 18446744073709551616 else n % 18446744073709551616) = n
  rw [h1, if_neg (by simp; omega)]
set_option maxHeartbeats 8000000 in
theorem ckEvent_c {B : Nat} {w0 : World} {G : List Hp} {R : Hp → List Hp} {c : CkM} {b : Nat} {h De : Hp} {e : EvM} {p : EvP} (hsel : Sel G h R) (hO : CkAt c b h) (hw : c.WF) (hz : c.st.Sz 900000) (he : e.ok) (hD : EvDeep B w0 e p De) (hs : Sub De (R [])) :
    Go.Sl.Fn Try.prog 60 #[.pointer (some ⟨b, 0, none⟩), .agg (e.cells p).toArray] B w0 G fun u G' => ∃ h' : Hp, u = .int .u8 (c.step e).2 ∧ CkAt (c.step e).1 b h' ∧ G' = R h' := by
  refine Fn.sel0 hsel fun F hR hF => ?_
  have hsF := Sub.rest hs hR
  have hOO := hO
  obtain ⟨q, D, rfl, hS, hlv⟩ := hO
  have hc1 : ∀ u ∈ e.cells p, u.oneCell' = true := EvM.cells_one
  have hc4 : (e.cells p).length = 4 := rfl
  have a0 := EvM.at_q he 0
  have a1 := EvM.at_q he 1
  have a2 := EvM.at_q he 2
  have a4 := EvM.at_q he 4
  have hcl := StM.cells_len (p := q) hw.st
  have hco : ∀ u ∈ c.st.cells q, u.oneCell' = true := StM.cells_one
  refine fn_enter Try.func60 rfl (by kernel_rfl) Try.ntmps60 (by simp) ?_
  refine cw_seq ?_
  refine cw_region ?_
  (refine ow_box rfl rfl rfl rfl ?_; intro b3)
  refine ow_val rfl rfl (v_assign rfl) ?_
  refine ow_nil ?_
  refine xw_then ?_
  refine cw_flat ([(b3, .cells (e.cells p).toArray 62 (0, 0))] :: [(b, .cells (c.cells q).toArray 132 (0, 0))] :: D :: F) (.of_eq (by simp)) ?_
  refine cw_cut2 (ι := (Unit)) [(0, _), (3, _)] ⟨rfl, rfl, trivial⟩ ((fun _ => [])) ((fun _ => c.pre e = 0)) ((fun _ => [(b3, .cells (e.cells p).toArray 62 (0, 0))] :: [(b, .cells (c.cells q).toArray 132 (0, 0))] :: D :: F)) ?_ ?_
  · refine cw_seq ?_
    refine cw_region ?_
    refine ow_val rfl rfl (v_fieldAddr0 Ty.fd62_0 rfl) ?_
    refine ow_val rfl rfl (v_load rfl (Var.at1 Ty.sc59 .here ((GetN.one rfl)))) ?_
    refine ow_nil ?_
    refine xw_then ?_
    refine cw_block ?_
    refine cw_seq ?_
    refine cw_region ?_
    refine ow_val rfl rfl (v_eql rfl rfl) ?_
    refine ow_val rfl rfl (v_assign rfl) ?_
    refine ow_nil ?_
    refine xw_then ?_
    refine cw_dec rfl (fun hc12 => ?_) (fun hc12 => ?_)
    refine cw_seq ?_
    refine cw_quiet Ty.mixed (by decide +kernel) ?_
    refine kw_val rfl rfl (v_load rfl (Var.atN Ty.ag62 .here GetN.all (by first | rfl | assumption))) ?_
    refine kw_val rfl rfl (v_call rfl rfl (evNum_c (i := 0) (hD _ (by repeat (first | exact Sub.here | exact Sub.nil | assumption | refine Sub.there ?_))) (by omega))) ?_
    refine kw_val rfl rfl (v_move rfl) ?_
    refine kw_val rfl rfl (v_nilCheck rfl) ?_
    refine kw_val rfl rfl (v_fieldAddr0 Ty.fd132_0 rfl) ?_
    refine kw_val rfl rfl (v_fieldAddr0 Ty.fd75_0 rfl) ?_
    refine kw_val rfl rfl (v_load rfl (Var.at1 Ty.sc22 (.there .here) ((GetN.one rfl)))) ?_
    refine kw_val rfl rfl (v_lss rfl rfl) ?_
    refine kw_nil ?_
    refine xw_then ?_
    refine cw_dec rfl (fun hc21 => ?_) (fun hc21 => ?_)
    refine cw_seq ?_
    refine cw_region ?_
    refine ow_val rfl rfl (v_assign rfl) ?_
    refine ow_nil ?_
    refine xw_then ?_
    refine cw_ret ?_
    refine xw_block_ret ?_
    refine xw_joint_ret ?_
    refine ret1 rfl (res_tmp rfl) ?_
    rotate_left
    refine cw_skip ?_
    refine xw_block ?_
    rotate_left
    refine cw_seq ?_
    refine cw_region ?_
    refine ow_val rfl rfl (v_eql rfl rfl) ?_
    refine ow_val rfl rfl (v_assign rfl) ?_
    refine ow_nil ?_
    refine xw_then ?_
    refine cw_dec rfl (fun hc22 => ?_) (fun hc22 => ?_)
    refine cw_seq ?_
    refine cw_quiet Ty.mixed (by decide +kernel) ?_
    refine kw_val rfl rfl (v_move rfl) ?_
    refine kw_val rfl rfl (v_load rfl (Var.atN Ty.ag62 .here GetN.all (by first | rfl | assumption))) ?_
    refine kw_val rfl rfl (v_call rfl rfl (evNum_c (i := 0) (hD _ (by repeat (first | exact Sub.here | exact Sub.nil | assumption | refine Sub.there ?_))) (by omega))) ?_
    refine kw_val rfl rfl (v_load rfl (Var.atN Ty.ag62 .here GetN.all (by first | rfl | assumption))) ?_
    refine kw_val rfl rfl (v_call rfl rfl (evNum_c (i := 1) (hD _ (by repeat (first | exact Sub.here | exact Sub.nil | assumption | refine Sub.there ?_))) (by omega))) ?_
    refine kw_val rfl rfl (v_load rfl (Var.atN Ty.ag62 .here GetN.all (by first | rfl | assumption))) ?_
    refine kw_val rfl rfl (v_call rfl rfl (evNum_c (i := 2) (hD _ (by repeat (first | exact Sub.here | exact Sub.nil | assumption | refine Sub.there ?_))) (by omega))) ?_
    refine kw_val rfl rfl (v_call rfl rfl (ckLost_c (by repeat (first | exact Sub.here | exact Sub.nil | assumption | refine Sub.there ?_)) hw a0 a1 a2)) ?_
    refine kw_val rfl rfl (v_not_bool rfl) ?_
    refine kw_nil ?_
    refine xw_then ?_
    refine cw_bool rfl (fun hc32 => ?_) (fun hc32 => ?_)
    refine cw_seq ?_
    refine cw_region ?_
    refine ow_val rfl rfl (v_assign rfl) ?_
    refine ow_nil ?_
    refine xw_then ?_
    refine cw_ret ?_
    refine xw_block_ret ?_
    refine xw_joint_ret ?_
    refine ret1 rfl (res_tmp rfl) ?_
    rotate_left
    refine cw_skip ?_
    refine xw_block ?_
    rotate_left
    refine cw_seq ?_
    refine cw_region ?_
    refine ow_val rfl rfl (v_eql rfl rfl) ?_
    refine ow_val rfl rfl (v_assign rfl) ?_
    refine ow_nil ?_
    refine xw_then ?_
    refine cw_dec rfl (fun hc33 => ?_) (fun hc33 => ?_)
    refine cw_seq ?_
    refine cw_quiet Ty.mixed (by decide +kernel) ?_
    refine kw_val rfl rfl (v_move rfl) ?_
    refine kw_val rfl rfl (v_load rfl (Var.atN Ty.ag62 .here GetN.all (by first | rfl | assumption))) ?_
    refine kw_val rfl rfl (v_call rfl rfl (evNum_c (i := 2) (hD _ (by repeat (first | exact Sub.here | exact Sub.nil | assumption | refine Sub.there ?_))) (by omega))) ?_
    refine kw_val rfl rfl (v_load rfl (Var.atN Ty.ag62 .here GetN.all (by first | rfl | assumption))) ?_
    refine kw_val rfl rfl (v_call rfl rfl (evNum_c (i := 4) (hD _ (by repeat (first | exact Sub.here | exact Sub.nil | assumption | refine Sub.there ?_))) (by omega))) ?_
    refine kw_val rfl rfl (v_eql rfl rfl) ?_
    refine kw_val rfl rfl (v_call rfl rfl (ckSent_c (by repeat (first | exact Sub.here | exact Sub.nil | assumption | refine Sub.there ?_)) hw hS (by repeat (first | exact Sub.here | exact Sub.nil | assumption | refine Sub.there ?_)) (hz.mono (by decide)) a2)) ?_
    refine kw_val rfl rfl (v_assign rfl) ?_
    refine kw_nil ?_
    refine xw_then ?_
    refine cw_seq ?_
    refine cw_region ?_
    refine ow_val rfl rfl (v_move rfl) ?_
    refine ow_val rfl rfl (v_neq rfl rfl) ?_
    refine ow_nil ?_
    refine xw_then ?_
    refine cw_dec rfl (fun hc43 => ?_) (fun hc43 => ?_)
    refine cw_seq ?_
    refine cw_region ?_
    refine ow_val rfl rfl (v_move rfl) ?_
    refine ow_val rfl rfl (v_assign rfl) ?_
    refine ow_nil ?_
    refine xw_then ?_
    refine cw_ret ?_
    refine xw_block_ret ?_
    refine xw_joint_ret ?_
    refine ret1 rfl (res_tmp rfl) ?_
    rotate_left
    refine cw_skip ?_
    refine xw_block ?_
    rotate_left
    refine cw_skip ?_
    refine xw_block ?_
    rotate_left
    · have hst := step_pre (c := c) (e := e) (v := 5) (by unfold CkM.pre; rw [if_pos hc12, if_pos hc21]) (by decide)
      exact ⟨_, by rw [hst], by rw [hst]; exact hOO, (by first | exact Cov.refl _ | (intro p; simp only [List.flatten_cons, List.flatten_nil, List.flatten_append, List.append_nil, List.nil_append, cnt_append, cnt_cons, cnt_nil, List.set_cons_zero, List.set_cons_succ, List.length_nil, List.length_cons, Nat.zero_add, List.append]; omega))⟩
    · exact xw_joint () (by unfold CkM.pre; rw [if_pos hc12, if_neg hc21]) (by first | exact Cov.refl _ | (intro p; simp only [List.flatten_cons, List.flatten_nil, List.flatten_append, List.append_nil, List.nil_append, cnt_append, cnt_cons, cnt_nil, List.set_cons_zero, List.set_cons_succ, List.length_nil, List.length_cons, Nat.zero_add, List.append]; omega)) (by repeat (first | exact True.intro | refine And.intro rfl ?_))
    · have hst := step_pre (c := c) (e := e) (v := 2) (by unfold CkM.pre; rw [if_neg hc12, if_pos hc22, if_neg (by simpa using hc32)]) (by decide)
      exact ⟨_, by rw [hst], by rw [hst]; exact hOO, (by first | exact Cov.refl _ | (intro p; simp only [List.flatten_cons, List.flatten_nil, List.flatten_append, List.append_nil, List.nil_append, cnt_append, cnt_cons, cnt_nil, List.set_cons_zero, List.set_cons_succ, List.length_nil, List.length_cons, Nat.zero_add, List.append]; omega))⟩
    · exact xw_joint () (by unfold CkM.pre; rw [if_neg hc12, if_pos hc22, if_pos (by simpa using hc32)]) (by first | exact Cov.refl _ | (intro p; simp only [List.flatten_cons, List.flatten_nil, List.flatten_append, List.append_nil, List.nil_append, cnt_append, cnt_cons, cnt_nil, List.set_cons_zero, List.set_cons_succ, List.length_nil, List.length_cons, Nat.zero_add, List.append]; omega)) (by repeat (first | exact True.intro | refine And.intro rfl ?_))
    · have hst := step_pre (c := c) (e := e) (by unfold CkM.pre; rw [if_neg hc12, if_neg hc22, if_pos hc33]) hc43
      exact ⟨_, by rw [hst], by rw [hst]; exact hOO, (by first | exact Cov.refl _ | (intro p; simp only [List.flatten_cons, List.flatten_nil, List.flatten_append, List.append_nil, List.nil_append, cnt_append, cnt_cons, cnt_nil, List.set_cons_zero, List.set_cons_succ, List.length_nil, List.length_cons, Nat.zero_add, List.append]; omega))⟩
    · exact xw_joint () (by unfold CkM.pre; rw [if_neg hc12, if_neg hc22, if_pos hc33]; exact Decidable.of_not_not hc43) (by first | exact Cov.refl _ | (intro p; simp only [List.flatten_cons, List.flatten_nil, List.flatten_append, List.append_nil, List.nil_append, cnt_append, cnt_cons, cnt_nil, List.set_cons_zero, List.set_cons_succ, List.length_nil, List.length_cons, Nat.zero_add, List.append]; omega)) (by repeat (first | exact True.intro | refine And.intro rfl ?_))
    · exact xw_joint () (by unfold CkM.pre; rw [if_neg hc12, if_neg hc22, if_neg hc33]) (by first | exact Cov.refl _ | (intro p; simp only [List.flatten_cons, List.flatten_nil, List.flatten_append, List.append_nil, List.nil_append, cnt_append, cnt_cons, cnt_nil, List.set_cons_zero, List.set_cons_succ, List.length_nil, List.length_cons, Nat.zero_add, List.append]; omega)) (by repeat (first | exact True.intro | refine And.intro rfl ?_))
  · rintro _ hpre
    refine cw_seq ?_
    refine cw_region ?_
    refine ow_val rfl rfl (v_move rfl) ?_
    refine ow_val rfl rfl (v_nilCheck rfl) ?_
    refine ow_val rfl rfl (v_fieldAddr0 Ty.fd132_0 rfl) ?_
    refine ow_val rfl rfl (v_fieldAddr0 Ty.fd75_2 rfl) ?_
    refine ow_val rfl rfl (v_indexAddrA (i := 7) Try.underlying69 Ty.el69 rfl rfl rfl (by omega)) ?_
    refine ow_val rfl rfl (v_load rfl (Var.at1 Ty.sc22 (.there .here) ((ck_mt hw (i := 7) (by omega))))) ?_
    refine ow_val rfl rfl (v_assign rfl) ?_
    refine ow_nil ?_
    refine xw_then ?_
    have hw' := StM.step_wf hw.st he
    have g1 := StM.cells_len (p := q) hw.st
    have hzl : ∀ (s : StM) (p : StP), s.WF → (s.cells p).length = zeroL.length := fun s p h => StM.cells_len h
    refine cw_cut2 (ι := ((Nat × StP × Hp))) [(0, _), (3, _), (6, _)] ⟨rfl, rfl, rfl, trivial⟩ ((fun x => [(7, .pointer (some ⟨x.1, 0, none⟩)), (8, .int .i64 (c.st.step e).2)])) ((fun x => StDeep (c.st.step e).1 x.2.1 x.2.2 ∧ x.2.1.live)) ((fun x => [(x.1, .cells ((c.st.step e).1.cells x.2.1).toArray 75 (0, 0))] :: x.2.2 :: [(b3, .cells (e.cells p).toArray 62 (0, 0))] :: [(b, .cells (c.cells q).toArray 132 (0, 0))] :: D :: F)) ?_ ?_
    · refine cw_any Ty.mixed ?_
      refine aw_pure 0 rfl (by decide +kernel) rfl rfl (v_move rfl) rfl ?_
      refine aw_pure 1 rfl (by decide +kernel) rfl rfl (v_nilCheck rfl) rfl ?_
      refine aw_pure 2 rfl (by decide +kernel) rfl rfl (v_fieldAddr0 Ty.fd132_0 rfl) rfl ?_
      refine aw_step3 3 4 9 (by decide +kernel) rfl rfl rfl ?_ ?_ ?_
      refine ow_val rfl rfl (v_load rfl (Var.atN Ty.ag75 (.there .here) ((ck_st GetN.all)) (by first | rfl | assumption))) ?_
      refine ow_nil ?_
      refine xw_nx ?_
      refine aw_step2 4 9 (by decide +kernel) rfl rfl ?_ ?_
      refine ow_val rfl rfl (v_load rfl (Var.atN Ty.ag62 .here GetN.all (by first | rfl | assumption))) ?_
      refine ow_nil ?_
      refine xw_nx ?_
      refine aw_step2 5 9 (by decide +kernel) rfl rfl ?_ ?_
      (refine ow_call rfl rfl rfl rfl (stFoldV_c hS (by repeat (first | exact Sub.here | exact Sub.nil | assumption | refine Sub.there ?_)) hw.st hz he hD (by repeat (first | exact Sub.here | exact Sub.nil | assumption | refine Sub.there ?_))) ?_; rintro _ _ ⟨x57, rfl, hq57, rfl⟩)
      refine ow_nil ?_
      refine xw_nx ?_
      refine aw_pure 6 rfl (by decide +kernel) rfl rfl (v_move rfl) rfl ?_
      refine aw_pure 7 rfl (by decide +kernel) rfl rfl (v_extract rfl rfl) rfl ?_
      refine aw_pure 8 rfl (by decide +kernel) rfl rfl (v_extract rfl rfl) rfl ?_
      refine aw_step1 9 (by decide +kernel) rfl ?_
      (refine ow_alloc rfl rfl Ty.ze75 ?_; intro b7)
      refine ow_nil ?_
      refine xw_nx ?_
      refine aw_step1 10 (by decide +kernel) rfl ?_
      rotate_left
      (refine ow_alloc rfl rfl Ty.ze75 ?_; intro b7)
      refine ow_nil ?_
      refine xw_nx ?_
      refine aw_step1 5 (by decide +kernel) rfl ?_
      (refine ow_call rfl rfl rfl rfl (stFoldV_c hS (by repeat (first | exact Sub.here | exact Sub.nil | assumption | refine Sub.there ?_)) hw.st hz he hD (by repeat (first | exact Sub.here | exact Sub.nil | assumption | refine Sub.there ?_))) ?_; rintro _ _ ⟨x57, rfl, hq57, rfl⟩)
      refine ow_nil ?_
      refine xw_nx ?_
      refine aw_pure 6 rfl (by decide +kernel) rfl rfl (v_move rfl) rfl ?_
      refine aw_pure 7 rfl (by decide +kernel) rfl rfl (v_extract rfl rfl) rfl ?_
      refine aw_pure 8 rfl (by decide +kernel) rfl rfl (v_extract rfl rfl) rfl ?_
      refine aw_step1 10 (by decide +kernel) rfl ?_
      rotate_left
      (refine ow_alloc rfl rfl Ty.ze75 ?_; intro b7)
      refine ow_nil ?_
      refine xw_nx ?_
      refine aw_step1 4 (by decide +kernel) rfl ?_
      refine ow_val rfl rfl (v_load rfl (Var.atN Ty.ag62 (.there .here) GetN.all (by first | rfl | assumption))) ?_
      refine ow_nil ?_
      refine xw_nx ?_
      refine aw_step1 5 (by decide +kernel) rfl ?_
      (refine ow_call rfl rfl rfl rfl (stFoldV_c hS (by repeat (first | exact Sub.here | exact Sub.nil | assumption | refine Sub.there ?_)) hw.st hz he hD (by repeat (first | exact Sub.here | exact Sub.nil | assumption | refine Sub.there ?_))) ?_; rintro _ _ ⟨x57, rfl, hq57, rfl⟩)
      refine ow_nil ?_
      refine xw_nx ?_
      refine aw_pure 6 rfl (by decide +kernel) rfl rfl (v_move rfl) rfl ?_
      refine aw_pure 7 rfl (by decide +kernel) rfl rfl (v_extract rfl rfl) rfl ?_
      refine aw_pure 8 rfl (by decide +kernel) rfl rfl (v_extract rfl rfl) rfl ?_
      refine aw_step1 10 (by decide +kernel) rfl ?_
      rotate_left
      refine ow_val rfl rfl (v_load rfl (Var.atN Ty.ag62 .here GetN.all (by first | rfl | assumption))) ?_
      refine ow_nil ?_
      refine xw_nx ?_
      refine aw_step2 3 9 (by decide +kernel) rfl rfl ?_ ?_
      refine ow_val rfl rfl (v_load rfl (Var.atN Ty.ag75 (.there .here) ((ck_st GetN.all)) (by first | rfl | assumption))) ?_
      refine ow_nil ?_
      refine xw_nx ?_
      refine aw_step2 5 9 (by decide +kernel) rfl rfl ?_ ?_
      (refine ow_call rfl rfl rfl rfl (stFoldV_c hS (by repeat (first | exact Sub.here | exact Sub.nil | assumption | refine Sub.there ?_)) hw.st hz he hD (by repeat (first | exact Sub.here | exact Sub.nil | assumption | refine Sub.there ?_))) ?_; rintro _ _ ⟨x57, rfl, hq57, rfl⟩)
      refine ow_nil ?_
      refine xw_nx ?_
      refine aw_pure 6 rfl (by decide +kernel) rfl rfl (v_move rfl) rfl ?_
      refine aw_pure 7 rfl (by decide +kernel) rfl rfl (v_extract rfl rfl) rfl ?_
      refine aw_pure 8 rfl (by decide +kernel) rfl rfl (v_extract rfl rfl) rfl ?_
      refine aw_step1 9 (by decide +kernel) rfl ?_
      (refine ow_alloc rfl rfl Ty.ze75 ?_; intro b7)
      refine ow_nil ?_
      refine xw_nx ?_
      refine aw_step1 10 (by decide +kernel) rfl ?_
      rotate_left
      (refine ow_alloc rfl rfl Ty.ze75 ?_; intro b7)
      refine ow_nil ?_
      refine xw_nx ?_
      refine aw_step1 5 (by decide +kernel) rfl ?_
      (refine ow_call rfl rfl rfl rfl (stFoldV_c hS (by repeat (first | exact Sub.here | exact Sub.nil | assumption | refine Sub.there ?_)) hw.st hz he hD (by repeat (first | exact Sub.here | exact Sub.nil | assumption | refine Sub.there ?_))) ?_; rintro _ _ ⟨x57, rfl, hq57, rfl⟩)
      refine ow_nil ?_
      refine xw_nx ?_
      refine aw_pure 6 rfl (by decide +kernel) rfl rfl (v_move rfl) rfl ?_
      refine aw_pure 7 rfl (by decide +kernel) rfl rfl (v_extract rfl rfl) rfl ?_
      refine aw_pure 8 rfl (by decide +kernel) rfl rfl (v_extract rfl rfl) rfl ?_
      refine aw_step1 10 (by decide +kernel) rfl ?_
      rotate_left
      (refine ow_alloc rfl rfl Ty.ze75 ?_; intro b7)
      refine ow_nil ?_
      refine xw_nx ?_
      refine aw_step1 3 (by decide +kernel) rfl ?_
      refine ow_val rfl rfl (v_load rfl (Var.atN Ty.ag75 (.there (.there .here)) ((ck_st GetN.all)) (by first | rfl | assumption))) ?_
      refine ow_nil ?_
      refine xw_nx ?_
      refine aw_step1 5 (by decide +kernel) rfl ?_
      (refine ow_call rfl rfl rfl rfl (stFoldV_c hS (by repeat (first | exact Sub.here | exact Sub.nil | assumption | refine Sub.there ?_)) hw.st hz he hD (by repeat (first | exact Sub.here | exact Sub.nil | assumption | refine Sub.there ?_))) ?_; rintro _ _ ⟨x57, rfl, hq57, rfl⟩)
      refine ow_nil ?_
      refine xw_nx ?_
      refine aw_pure 6 rfl (by decide +kernel) rfl rfl (v_move rfl) rfl ?_
      refine aw_pure 7 rfl (by decide +kernel) rfl rfl (v_extract rfl rfl) rfl ?_
      refine aw_pure 8 rfl (by decide +kernel) rfl rfl (v_extract rfl rfl) rfl ?_
      refine aw_step1 10 (by decide +kernel) rfl ?_
      rotate_left
      (refine ow_alloc rfl rfl Ty.ze75 ?_; intro b7)
      refine ow_nil ?_
      refine xw_nx ?_
      refine aw_step2 3 4 (by decide +kernel) rfl rfl ?_ ?_
      refine ow_val rfl rfl (v_load rfl (Var.atN Ty.ag75 (.there (.there .here)) ((ck_st GetN.all)) (by first | rfl | assumption))) ?_
      refine ow_nil ?_
      refine xw_nx ?_
      refine aw_step1 4 (by decide +kernel) rfl ?_
      refine ow_val rfl rfl (v_load rfl (Var.atN Ty.ag62 (.there .here) GetN.all (by first | rfl | assumption))) ?_
      refine ow_nil ?_
      refine xw_nx ?_
      refine aw_step1 5 (by decide +kernel) rfl ?_
      (refine ow_call rfl rfl rfl rfl (stFoldV_c hS (by repeat (first | exact Sub.here | exact Sub.nil | assumption | refine Sub.there ?_)) hw.st hz he hD (by repeat (first | exact Sub.here | exact Sub.nil | assumption | refine Sub.there ?_))) ?_; rintro _ _ ⟨x57, rfl, hq57, rfl⟩)
      refine ow_nil ?_
      refine xw_nx ?_
      refine aw_pure 6 rfl (by decide +kernel) rfl rfl (v_move rfl) rfl ?_
      refine aw_pure 7 rfl (by decide +kernel) rfl rfl (v_extract rfl rfl) rfl ?_
      refine aw_pure 8 rfl (by decide +kernel) rfl rfl (v_extract rfl rfl) rfl ?_
      refine aw_step1 10 (by decide +kernel) rfl ?_
      rotate_left
      refine ow_val rfl rfl (v_load rfl (Var.atN Ty.ag62 (.there .here) GetN.all (by first | rfl | assumption))) ?_
      refine ow_nil ?_
      refine xw_nx ?_
      refine aw_step1 3 (by decide +kernel) rfl ?_
      refine ow_val rfl rfl (v_load rfl (Var.atN Ty.ag75 (.there (.there .here)) ((ck_st GetN.all)) (by first | rfl | assumption))) ?_
      refine ow_nil ?_
      refine xw_nx ?_
      refine aw_step1 5 (by decide +kernel) rfl ?_
      (refine ow_call rfl rfl rfl rfl (stFoldV_c hS (by repeat (first | exact Sub.here | exact Sub.nil | assumption | refine Sub.there ?_)) hw.st hz he hD (by repeat (first | exact Sub.here | exact Sub.nil | assumption | refine Sub.there ?_))) ?_; rintro _ _ ⟨x57, rfl, hq57, rfl⟩)
      refine ow_nil ?_
      refine xw_nx ?_
      refine aw_pure 6 rfl (by decide +kernel) rfl rfl (v_move rfl) rfl ?_
      refine aw_pure 7 rfl (by decide +kernel) rfl rfl (v_extract rfl rfl) rfl ?_
      refine aw_pure 8 rfl (by decide +kernel) rfl rfl (v_extract rfl rfl) rfl ?_
      refine aw_step1 10 (by decide +kernel) rfl ?_
      rotate_left
      · obtain ⟨q7, D7⟩ := x57
        obtain ⟨hD7, hl7⟩ := hq57
        dsimp only at hD7 hl7 ⊢
        have n3 := hzl (c.st.step e).1 q7 hw'
        have n4 : ∀ u ∈ (c.st.step e).1.cells q7, u.oneCell' = true := StM.cells_one
        refine ow_cov ([(b7, .cells zeroL.toArray 75 (0, 0))] :: D7 :: [(b3, .cells (e.cells p).toArray 62 (0, 0))] :: [(b, .cells (c.cells q).toArray 132 (0, 0))] :: D :: F) (by unfold zeroL; exact (by first | exact Cov.refl _ | (intro p; simp only [List.flatten_cons, List.flatten_nil, List.flatten_append, List.append_nil, List.nil_append, cnt_append, cnt_cons, cnt_nil, List.set_cons_zero, List.set_cons_succ, List.length_nil, List.length_cons, Nat.zero_add, List.append]; omega))) ?_
        refine ow_storeN rfl rfl rfl Ty.ag75 (by first | rfl | assumption) (by first | assumption | simp) .here ((SetN.all n3)) ?_
        refine ow_nil ?_
        refine xw_nx ?_
        refine aw_pure 11 rfl (by decide +kernel) rfl rfl (v_assign rfl) rfl ?_
        refine aw_end (by decide +kernel) ?_
        refine xw_np ?_
        exact xw_joint ((b7, q7, D7) : Nat × StP × Hp) ⟨hD7, hl7⟩ (by first | exact Cov.refl _ | (intro p; simp only [List.flatten_cons, List.flatten_nil, List.flatten_append, List.append_nil, List.nil_append, cnt_append, cnt_cons, cnt_nil, List.set_cons_zero, List.set_cons_succ, List.length_nil, List.length_cons, Nat.zero_add, List.append]; omega)) (by repeat (first | exact True.intro | refine And.intro rfl ?_))
      · obtain ⟨q7, D7⟩ := x57
        obtain ⟨hD7, hl7⟩ := hq57
        dsimp only at hD7 hl7 ⊢
        have n3 := hzl (c.st.step e).1 q7 hw'
        have n4 : ∀ u ∈ (c.st.step e).1.cells q7, u.oneCell' = true := StM.cells_one
        refine ow_cov ([(b7, .cells zeroL.toArray 75 (0, 0))] :: D7 :: [(b3, .cells (e.cells p).toArray 62 (0, 0))] :: [(b, .cells (c.cells q).toArray 132 (0, 0))] :: D :: F) (by unfold zeroL; exact (by first | exact Cov.refl _ | (intro p; simp only [List.flatten_cons, List.flatten_nil, List.flatten_append, List.append_nil, List.nil_append, cnt_append, cnt_cons, cnt_nil, List.set_cons_zero, List.set_cons_succ, List.length_nil, List.length_cons, Nat.zero_add, List.append]; omega))) ?_
        refine ow_storeN rfl rfl rfl Ty.ag75 (by first | rfl | assumption) (by first | assumption | simp) .here ((SetN.all n3)) ?_
        refine ow_nil ?_
        refine xw_nx ?_
        refine aw_pure 11 rfl (by decide +kernel) rfl rfl (v_assign rfl) rfl ?_
        refine aw_end (by decide +kernel) ?_
        refine xw_np ?_
        exact xw_joint ((b7, q7, D7) : Nat × StP × Hp) ⟨hD7, hl7⟩ (by first | exact Cov.refl _ | (intro p; simp only [List.flatten_cons, List.flatten_nil, List.flatten_append, List.append_nil, List.nil_append, cnt_append, cnt_cons, cnt_nil, List.set_cons_zero, List.set_cons_succ, List.length_nil, List.length_cons, Nat.zero_add, List.append]; omega)) (by repeat (first | exact True.intro | refine And.intro rfl ?_))
      · obtain ⟨q7, D7⟩ := x57
        obtain ⟨hD7, hl7⟩ := hq57
        dsimp only at hD7 hl7 ⊢
        have n3 := hzl (c.st.step e).1 q7 hw'
        have n4 : ∀ u ∈ (c.st.step e).1.cells q7, u.oneCell' = true := StM.cells_one
        refine ow_cov ([(b7, .cells zeroL.toArray 75 (0, 0))] :: D7 :: [(b3, .cells (e.cells p).toArray 62 (0, 0))] :: [(b, .cells (c.cells q).toArray 132 (0, 0))] :: D :: F) (by unfold zeroL; exact (by first | exact Cov.refl _ | (intro p; simp only [List.flatten_cons, List.flatten_nil, List.flatten_append, List.append_nil, List.nil_append, cnt_append, cnt_cons, cnt_nil, List.set_cons_zero, List.set_cons_succ, List.length_nil, List.length_cons, Nat.zero_add, List.append]; omega))) ?_
        refine ow_storeN rfl rfl rfl Ty.ag75 (by first | rfl | assumption) (by first | assumption | simp) .here ((SetN.all n3)) ?_
        refine ow_nil ?_
        refine xw_nx ?_
        refine aw_pure 11 rfl (by decide +kernel) rfl rfl (v_assign rfl) rfl ?_
        refine aw_end (by decide +kernel) ?_
        refine xw_np ?_
        exact xw_joint ((b7, q7, D7) : Nat × StP × Hp) ⟨hD7, hl7⟩ (by first | exact Cov.refl _ | (intro p; simp only [List.flatten_cons, List.flatten_nil, List.flatten_append, List.append_nil, List.nil_append, cnt_append, cnt_cons, cnt_nil, List.set_cons_zero, List.set_cons_succ, List.length_nil, List.length_cons, Nat.zero_add, List.append]; omega)) (by repeat (first | exact True.intro | refine And.intro rfl ?_))
      · obtain ⟨q7, D7⟩ := x57
        obtain ⟨hD7, hl7⟩ := hq57
        dsimp only at hD7 hl7 ⊢
        have n3 := hzl (c.st.step e).1 q7 hw'
        have n4 : ∀ u ∈ (c.st.step e).1.cells q7, u.oneCell' = true := StM.cells_one
        refine ow_cov ([(b7, .cells zeroL.toArray 75 (0, 0))] :: D7 :: [(b3, .cells (e.cells p).toArray 62 (0, 0))] :: [(b, .cells (c.cells q).toArray 132 (0, 0))] :: D :: F) (by unfold zeroL; exact (by first | exact Cov.refl _ | (intro p; simp only [List.flatten_cons, List.flatten_nil, List.flatten_append, List.append_nil, List.nil_append, cnt_append, cnt_cons, cnt_nil, List.set_cons_zero, List.set_cons_succ, List.length_nil, List.length_cons, Nat.zero_add, List.append]; omega))) ?_
        refine ow_storeN rfl rfl rfl Ty.ag75 (by first | rfl | assumption) (by first | assumption | simp) .here ((SetN.all n3)) ?_
        refine ow_nil ?_
        refine xw_nx ?_
        refine aw_pure 11 rfl (by decide +kernel) rfl rfl (v_assign rfl) rfl ?_
        refine aw_end (by decide +kernel) ?_
        refine xw_np ?_
        exact xw_joint ((b7, q7, D7) : Nat × StP × Hp) ⟨hD7, hl7⟩ (by first | exact Cov.refl _ | (intro p; simp only [List.flatten_cons, List.flatten_nil, List.flatten_append, List.append_nil, List.nil_append, cnt_append, cnt_cons, cnt_nil, List.set_cons_zero, List.set_cons_succ, List.length_nil, List.length_cons, Nat.zero_add, List.append]; omega)) (by repeat (first | exact True.intro | refine And.intro rfl ?_))
      · obtain ⟨q7, D7⟩ := x57
        obtain ⟨hD7, hl7⟩ := hq57
        dsimp only at hD7 hl7 ⊢
        have n3 := hzl (c.st.step e).1 q7 hw'
        have n4 : ∀ u ∈ (c.st.step e).1.cells q7, u.oneCell' = true := StM.cells_one
        refine ow_cov ([(b7, .cells zeroL.toArray 75 (0, 0))] :: D7 :: [(b3, .cells (e.cells p).toArray 62 (0, 0))] :: [(b, .cells (c.cells q).toArray 132 (0, 0))] :: D :: F) (by unfold zeroL; exact (by first | exact Cov.refl _ | (intro p; simp only [List.flatten_cons, List.flatten_nil, List.flatten_append, List.append_nil, List.nil_append, cnt_append, cnt_cons, cnt_nil, List.set_cons_zero, List.set_cons_succ, List.length_nil, List.length_cons, Nat.zero_add, List.append]; omega))) ?_
        refine ow_storeN rfl rfl rfl Ty.ag75 (by first | rfl | assumption) (by first | assumption | simp) .here ((SetN.all n3)) ?_
        refine ow_nil ?_
        refine xw_nx ?_
        refine aw_pure 11 rfl (by decide +kernel) rfl rfl (v_assign rfl) rfl ?_
        refine aw_end (by decide +kernel) ?_
        refine xw_np ?_
        exact xw_joint ((b7, q7, D7) : Nat × StP × Hp) ⟨hD7, hl7⟩ (by first | exact Cov.refl _ | (intro p; simp only [List.flatten_cons, List.flatten_nil, List.flatten_append, List.append_nil, List.nil_append, cnt_append, cnt_cons, cnt_nil, List.set_cons_zero, List.set_cons_succ, List.length_nil, List.length_cons, Nat.zero_add, List.append]; omega)) (by repeat (first | exact True.intro | refine And.intro rfl ?_))
      · obtain ⟨q7, D7⟩ := x57
        obtain ⟨hD7, hl7⟩ := hq57
        dsimp only at hD7 hl7 ⊢
        have n3 := hzl (c.st.step e).1 q7 hw'
        have n4 : ∀ u ∈ (c.st.step e).1.cells q7, u.oneCell' = true := StM.cells_one
        refine ow_cov ([(b7, .cells zeroL.toArray 75 (0, 0))] :: D7 :: [(b3, .cells (e.cells p).toArray 62 (0, 0))] :: [(b, .cells (c.cells q).toArray 132 (0, 0))] :: D :: F) (by unfold zeroL; exact (by first | exact Cov.refl _ | (intro p; simp only [List.flatten_cons, List.flatten_nil, List.flatten_append, List.append_nil, List.nil_append, cnt_append, cnt_cons, cnt_nil, List.set_cons_zero, List.set_cons_succ, List.length_nil, List.length_cons, Nat.zero_add, List.append]; omega))) ?_
        refine ow_storeN rfl rfl rfl Ty.ag75 (by first | rfl | assumption) (by first | assumption | simp) .here ((SetN.all n3)) ?_
        refine ow_nil ?_
        refine xw_nx ?_
        refine aw_pure 11 rfl (by decide +kernel) rfl rfl (v_assign rfl) rfl ?_
        refine aw_end (by decide +kernel) ?_
        refine xw_np ?_
        exact xw_joint ((b7, q7, D7) : Nat × StP × Hp) ⟨hD7, hl7⟩ (by first | exact Cov.refl _ | (intro p; simp only [List.flatten_cons, List.flatten_nil, List.flatten_append, List.append_nil, List.nil_append, cnt_append, cnt_cons, cnt_nil, List.set_cons_zero, List.set_cons_succ, List.length_nil, List.length_cons, Nat.zero_add, List.append]; omega)) (by repeat (first | exact True.intro | refine And.intro rfl ?_))
      · obtain ⟨q7, D7⟩ := x57
        obtain ⟨hD7, hl7⟩ := hq57
        dsimp only at hD7 hl7 ⊢
        have n3 := hzl (c.st.step e).1 q7 hw'
        have n4 : ∀ u ∈ (c.st.step e).1.cells q7, u.oneCell' = true := StM.cells_one
        refine ow_cov ([(b7, .cells zeroL.toArray 75 (0, 0))] :: D7 :: [(b3, .cells (e.cells p).toArray 62 (0, 0))] :: [(b, .cells (c.cells q).toArray 132 (0, 0))] :: D :: F) (by unfold zeroL; exact (by first | exact Cov.refl _ | (intro p; simp only [List.flatten_cons, List.flatten_nil, List.flatten_append, List.append_nil, List.nil_append, cnt_append, cnt_cons, cnt_nil, List.set_cons_zero, List.set_cons_succ, List.length_nil, List.length_cons, Nat.zero_add, List.append]; omega))) ?_
        refine ow_storeN rfl rfl rfl Ty.ag75 (by first | rfl | assumption) (by first | assumption | simp) .here ((SetN.all n3)) ?_
        refine ow_nil ?_
        refine xw_nx ?_
        refine aw_pure 11 rfl (by decide +kernel) rfl rfl (v_assign rfl) rfl ?_
        refine aw_end (by decide +kernel) ?_
        refine xw_np ?_
        exact xw_joint ((b7, q7, D7) : Nat × StP × Hp) ⟨hD7, hl7⟩ (by first | exact Cov.refl _ | (intro p; simp only [List.flatten_cons, List.flatten_nil, List.flatten_append, List.append_nil, List.nil_append, cnt_append, cnt_cons, cnt_nil, List.set_cons_zero, List.set_cons_succ, List.length_nil, List.length_cons, Nat.zero_add, List.append]; omega)) (by repeat (first | exact True.intro | refine And.intro rfl ?_))
      · obtain ⟨q7, D7⟩ := x57
        obtain ⟨hD7, hl7⟩ := hq57
        dsimp only at hD7 hl7 ⊢
        have n3 := hzl (c.st.step e).1 q7 hw'
        have n4 : ∀ u ∈ (c.st.step e).1.cells q7, u.oneCell' = true := StM.cells_one
        refine ow_cov ([(b7, .cells zeroL.toArray 75 (0, 0))] :: D7 :: [(b3, .cells (e.cells p).toArray 62 (0, 0))] :: [(b, .cells (c.cells q).toArray 132 (0, 0))] :: D :: F) (by unfold zeroL; exact (by first | exact Cov.refl _ | (intro p; simp only [List.flatten_cons, List.flatten_nil, List.flatten_append, List.append_nil, List.nil_append, cnt_append, cnt_cons, cnt_nil, List.set_cons_zero, List.set_cons_succ, List.length_nil, List.length_cons, Nat.zero_add, List.append]; omega))) ?_
        refine ow_storeN rfl rfl rfl Ty.ag75 (by first | rfl | assumption) (by first | assumption | simp) .here ((SetN.all n3)) ?_
        refine ow_nil ?_
        refine xw_nx ?_
        refine aw_pure 11 rfl (by decide +kernel) rfl rfl (v_assign rfl) rfl ?_
        refine aw_end (by decide +kernel) ?_
        refine xw_np ?_
        exact xw_joint ((b7, q7, D7) : Nat × StP × Hp) ⟨hD7, hl7⟩ (by first | exact Cov.refl _ | (intro p; simp only [List.flatten_cons, List.flatten_nil, List.flatten_append, List.append_nil, List.nil_append, cnt_append, cnt_cons, cnt_nil, List.set_cons_zero, List.set_cons_succ, List.length_nil, List.length_cons, Nat.zero_add, List.append]; omega)) (by repeat (first | exact True.intro | refine And.intro rfl ?_))
    rintro ⟨b7, q7, D7⟩ ⟨hD7, hl7⟩
    dsimp only at hD7 hl7 ⊢
    have k1 := StM.cells_len (p := q7) hw'
    have k2 : ∀ u ∈ (c.st.step e).1.cells q7, u.oneCell' = true := StM.cells_one
    have k3 : ((c.st.step e).1.cells q7).length = (c.st.cells q).length := k1.trans g1.symm
    refine cw_seq ?_
    refine cw_seq ?_
    refine cw_region ?_
    refine ow_val rfl rfl (v_move rfl) ?_
    refine ow_val rfl rfl (v_neq rfl rfl) ?_
    refine ow_nil ?_
    refine xw_then ?_
    refine cw_dec rfl (fun hc61 => ?_) (fun hc61 => ?_)
    refine cw_seq ?_
    refine cw_region ?_
    refine ow_val rfl rfl (v_assign rfl) ?_
    refine ow_nil ?_
    refine xw_then ?_
    refine cw_ret ?_
    refine xw_then_ret ?_
    refine ret1 rfl (res_tmp rfl) ?_
    rotate_left
    refine cw_skip ?_
    refine xw_then ?_
    rotate_left
    · have hst := step_fold hpre hc61
      exact ⟨_, by rw [hst], by rw [hst]; exact hOO, (by first | exact Cov.refl _ | (intro p; simp only [List.flatten_cons, List.flatten_nil, List.flatten_append, List.append_nil, List.nil_append, cnt_append, cnt_cons, cnt_nil, List.set_cons_zero, List.set_cons_succ, List.length_nil, List.length_cons, Nat.zero_add, List.append]; omega))⟩
    have hok : (c.st.step e).2 = 0 := Decidable.of_not_not hc61
    have hst := step_post hpre hok
    unfold CkM.cells
    refine cw_seq ?_
    refine cw_region ?_
    refine ow_val rfl rfl (v_move rfl) ?_
    refine ow_val rfl rfl (v_load rfl (Var.atN Ty.ag75 .here GetN.all (by first | rfl | assumption))) ?_
    refine ow_val rfl rfl (v_nilCheck rfl) ?_
    refine ow_val rfl rfl (v_fieldAddr0 Ty.fd132_0 rfl) ?_
    refine ow_storeN rfl rfl rfl Ty.ag75 (by first | rfl | assumption) (by first | assumption | simp) (.there (.there (.there .here))) ((SetN.part (a := []) rfl k3)) ?_
    refine ow_nil ?_
    refine xw_then ?_
    have hchk := step_zero_chk hok
    have b1 := chk_zero_at hchk 1
    have hsp := fun h => step_zero_sp hok h
    obtain ⟨c', hc'⟩ : ∃ c' : CkM, c' = { c with st := (c.st.step e).1 } := ⟨_, rfl⟩
    have hw1 : c'.WF := by rw [hc']; exact ⟨hw', hw.ac, hw.aci, hw.lf⟩
    have hz1 : c'.st.Sz 1000000 := by rw [hc']; exact (StM.step_sz hz).mono (by decide)
    have hD1 : StDeep c'.st q7 D7 := by rw [hc']; exact hD7
    have hx : (c.st.step e).1.cells q7 = c'.st.cells q7 := by rw [hc']
    have hy : c.tl = c'.tl := by rw [hc']; rfl
    rw [← hc'] at hst
    rw [hx, hy]
    refine cw_cov ([(b7, .cells (c'.st.cells q7).toArray 75 (0, 0))] :: D7 :: [(b3, .cells (e.cells p).toArray 62 (0, 0))] :: [(b, .cells (c'.cells q7).toArray 132 (0, 0))] :: D :: F) (by unfold CkM.cells; exact (by first | exact Cov.refl _ | (intro p; simp only [List.flatten_cons, List.flatten_nil, List.flatten_append, List.append_nil, List.nil_append, cnt_append, cnt_cons, cnt_nil, List.set_cons_zero, List.set_cons_succ, List.length_nil, List.length_cons, Nat.zero_add, List.append]; omega))) ?_
    rw [hx] at k1 k2 k3
    rw [hst]
    clear hst hx hy hc' hpre hOO hD7 hw' hw hz hS hco hcl g1 hzl
    generalize c.st.mt.getD 7 0 = was
    have a0n := a0.1
    have a1n := a1.1
    refine cw_seq ?_
    refine cw_seq ?_
    refine cw_region ?_
    refine ow_val rfl rfl (v_fieldAddr0 Ty.fd62_0 rfl) ?_
    refine ow_val rfl rfl (v_load rfl (Var.at1 Ty.sc59 (.there (.there .here)) ((GetN.one rfl)))) ?_
    refine ow_nil ?_
    refine xw_then ?_
    refine cw_block ?_
    refine cw_seq ?_
    refine cw_region ?_
    refine ow_val rfl rfl (v_eql rfl rfl) ?_
    refine ow_val rfl rfl (v_assign rfl) ?_
    refine ow_nil ?_
    refine xw_then ?_
    refine cw_dec rfl (fun hc68 => ?_) (fun hc68 => ?_)
    refine cw_seq ?_
    refine cw_region ?_
    refine ow_val rfl rfl (v_load rfl (Var.atN Ty.ag62 (.there (.there .here)) GetN.all (by first | rfl | assumption))) ?_
    refine ow_val rfl rfl (v_call rfl rfl (evNum_c (i := 0) (hD _ (by repeat (first | exact Sub.here | exact Sub.nil | assumption | refine Sub.there ?_))) (by omega))) ?_
    refine ow_val rfl rfl (v_assign rfl) ?_
    refine ow_nil ?_
    refine xw_then ?_
    refine cw_mix [] [15] [0, 1, 2, 3, 4, 5, 6, 7, 8, 9, 10, 11, 12, 13, 14] Ty.mixed rfl rfl rfl rfl (by decide +kernel) ?_
    refine hw_pure rfl rfl (v_move rfl) rfl ?_
    refine hw_pure rfl rfl (v_move rfl) rfl ?_
    refine hw_pure rfl rfl (v_move rfl) rfl ?_
    refine hw_pure rfl rfl (v_move rfl) rfl ?_
    refine hw_pure rfl rfl (v_nilCheck rfl) rfl ?_
    refine hw_pure rfl rfl (v_fieldAddr0 Ty.fd132_1 rfl) rfl ?_
    refine hw_pure rfl rfl (v_indexAddrA Try.underlying130 Ty.el130 rfl rfl (Int.toNat_of_nonneg (by omega)).symm (by omega)) rfl ?_
    refine hw_read rfl rfl rfl (v_load rfl (Var.at1 Ty.sc2 (.there (.there (.there .here))) ((ck_ac hw1 (by omega))))) ?_
    refine hw_read rfl rfl rfl (v_load rfl (Var.atN Ty.ag62 (.there (.there .here)) GetN.all (by first | rfl | assumption))) ?_
    refine hw_read rfl rfl rfl (v_call rfl rfl (evNum_c (i := 1) (hD _ (by repeat (first | exact Sub.here | exact Sub.nil | assumption | refine Sub.there ?_))) (by omega))) ?_
    refine hw_read rfl rfl rfl (v_convert Try.underlying22 Try.underlying2 rfl (nw_i64 (by omega) (by omega))) ?_
    refine hw_pure rfl rfl (v_max rfl rfl) rfl ?_
    refine hw_pure rfl rfl (v_nilCheck rfl) rfl ?_
    refine hw_pure rfl rfl (v_fieldAddr0 Ty.fd132_1 rfl) rfl ?_
    refine hw_pure rfl rfl (v_indexAddrA Try.underlying130 Ty.el130 rfl rfl (Int.toNat_of_nonneg (by omega)).symm (by omega)) rfl ?_
    refine hw_nil ?_
    refine sw_nil ?_
    refine ow_store1 rfl rfl rfl rfl Ty.sc2 (.there (.there (.there .here))) ((ck_setac hw1 (by omega))) ?_
    refine ow_nil ?_
    refine xw_np ?_
    refine xw_block ?_
    refine xw_then ?_
    refine cw_seq ?_
    refine cw_region ?_
    refine ow_val rfl rfl (v_assign rfl) ?_
    refine ow_nil ?_
    refine xw_then ?_
    refine cw_ret ?_
    refine ret1 rfl (res_tmp rfl) ?_
    rotate_left
    refine cw_seq ?_
    refine cw_region ?_
    refine ow_val rfl rfl (v_eql rfl rfl) ?_
    refine ow_val rfl rfl (v_assign rfl) ?_
    refine ow_nil ?_
    refine xw_then ?_
    refine cw_dec rfl (fun hc87 => ?_) (fun hc87 => ?_)
    refine cw_seq ?_
    refine cw_region ?_
    refine ow_val rfl rfl (v_load rfl (Var.atN Ty.ag62 (.there (.there .here)) GetN.all (by first | rfl | assumption))) ?_
    refine ow_val rfl rfl (v_call rfl rfl (evNum_c (i := 4) (hD _ (by repeat (first | exact Sub.here | exact Sub.nil | assumption | refine Sub.there ?_))) (by omega))) ?_
    refine ow_val rfl rfl (v_eql rfl rfl) ?_
    refine ow_val rfl rfl (v_move rfl) ?_
    refine ow_dec 92 rfl (fun hc92 => ?_) (fun hc92 => ?_)
    refine ow_val rfl rfl (v_move rfl) ?_
    refine ow_val rfl rfl (v_nilCheck rfl) ?_
    refine ow_val rfl rfl (v_fieldAddr0 Ty.fd132_2 rfl) ?_
    refine ow_val rfl rfl (v_load rfl (Var.at1 Ty.sc3 (.there (.there (.there .here))) ((ck_lf hw1)))) ?_
    refine ow_val rfl rfl (v_gtr rfl rfl) ?_
    refine ow_val rfl rfl (v_pick_true rfl rfl) ?_
    refine ow_nil ?_
    refine xw_then ?_
    refine cw_dec rfl (fun hc98 => ?_) (fun hc98 => ?_)
    refine cw_region ?_
    refine ow_val rfl rfl (v_move rfl) ?_
    refine ow_val rfl rfl (v_nilCheck rfl) ?_
    refine ow_val rfl rfl (v_fieldAddr0 Ty.fd132_2 rfl) ?_
    refine ow_val rfl rfl (v_load rfl (Var.at1 Ty.sc3 (.there (.there (.there .here))) ((ck_lf hw1)))) ?_
    refine ow_val rfl rfl (v_sub rfl rfl rfl) ?_
    refine ow_val rfl rfl (v_nilCheck rfl) ?_
    refine ow_val rfl rfl (v_fieldAddr0 Ty.fd132_2 rfl) ?_
    refine ow_store1 rfl rfl rfl rfl Ty.sc3 (.there (.there (.there .here))) ((ck_setlf hw1)) ?_
    refine ow_nil ?_
    refine xw_block ?_
    refine xw_then ?_
    refine cw_seq ?_
    refine cw_region ?_
    refine ow_val rfl rfl (v_assign rfl) ?_
    refine ow_nil ?_
    refine xw_then ?_
    refine cw_ret ?_
    refine ret1 rfl (res_tmp rfl) ?_
    rotate_left
    refine cw_skip ?_
    refine xw_block ?_
    refine xw_then ?_
    refine cw_seq ?_
    refine cw_region ?_
    refine ow_val rfl rfl (v_assign rfl) ?_
    refine ow_nil ?_
    refine xw_then ?_
    refine cw_ret ?_
    refine ret1 rfl (res_tmp rfl) ?_
    rotate_left
    refine ow_skip rfl rfl ?_
    refine ow_skip rfl rfl ?_
    refine ow_skip rfl rfl ?_
    refine ow_skip rfl rfl ?_
    refine ow_skip rfl rfl ?_
    refine ow_val rfl rfl (v_pick_false rfl rfl) ?_
    refine ow_nil ?_
    refine xw_then ?_
    refine cw_false rfl ?_
    refine cw_skip ?_
    refine xw_block ?_
    refine xw_then ?_
    refine cw_seq ?_
    refine cw_region ?_
    refine ow_val rfl rfl (v_assign rfl) ?_
    refine ow_nil ?_
    refine xw_then ?_
    refine cw_ret ?_
    refine ret1 rfl (res_tmp rfl) ?_
    rotate_left
    refine cw_seq ?_
    refine cw_region ?_
    refine ow_val rfl rfl (v_eql rfl rfl) ?_
    refine ow_val rfl rfl (v_assign rfl) ?_
    refine ow_nil ?_
    refine xw_then ?_
    refine cw_dec rfl (fun hc106 => ?_) (fun hc106 => ?_)
    refine cw_seq ?_
    refine cw_seq ?_
    refine cw_region ?_
    refine ow_val rfl rfl (v_load rfl (Var.atN Ty.ag62 (.there (.there .here)) GetN.all (by first | rfl | assumption))) ?_
    refine ow_val rfl rfl (v_call rfl rfl (evNum_c (i := 7) (hD _ (by repeat (first | exact Sub.here | exact Sub.nil | assumption | refine Sub.there ?_))) (by omega))) ?_
    refine ow_val rfl rfl (v_move rfl) ?_
    refine ow_val rfl rfl (v_gtr rfl rfl) ?_
    refine ow_nil ?_
    refine xw_then ?_
    refine cw_dec rfl (fun hc111 => ?_) (fun hc111 => ?_)
    refine cw_region ?_
    refine ow_val rfl rfl (v_move rfl) ?_
    refine ow_val rfl rfl (v_nilCheck rfl) ?_
    refine ow_val rfl rfl (v_fieldAddr0 Ty.fd132_2 rfl) ?_
    refine ow_store1 rfl rfl rfl rfl Ty.sc3 (.there (.there (.there .here))) ((ck_setlf hw1)) ?_
    refine ow_nil ?_
    refine xw_then ?_
    refine cw_seq ?_
    refine cw_quiet Ty.mixed (by decide +kernel) ?_
    refine kw_val rfl rfl (v_load rfl (Var.atN Ty.ag62 (.there (.there .here)) GetN.all (by first | rfl | assumption))) ?_
    refine kw_val rfl rfl (v_call rfl rfl (evNum_c (i := 5) (hD _ (by repeat (first | exact Sub.here | exact Sub.nil | assumption | refine Sub.there ?_))) (by omega))) ?_
    refine kw_val rfl rfl (v_load rfl (Var.atN Ty.ag75 .here GetN.all (by first | rfl | assumption))) ?_
    refine kw_val rfl rfl (v_call rfl rfl (flight_c hD1 (by repeat (first | exact Sub.here | exact Sub.nil | assumption | refine Sub.there ?_)) hw1.st hz1)) ?_
    refine kw_val rfl rfl (v_neq rfl rfl) ?_
    refine kw_nil ?_
    refine xw_then ?_
    refine cw_dec rfl (fun hc119 => ?_) (fun hc119 => ?_)
    refine cw_seq ?_
    refine cw_region ?_
    refine ow_val rfl rfl (v_assign rfl) ?_
    refine ow_nil ?_
    refine xw_then ?_
    refine cw_ret ?_
    refine xw_block_ret ?_
    refine xw_then_ret ?_
    refine ret1 rfl (res_tmp rfl) ?_
    rotate_left
    refine cw_skip ?_
    refine xw_block ?_
    refine xw_then ?_
    refine cw_seq ?_
    refine cw_region ?_
    refine ow_val rfl rfl (v_assign rfl) ?_
    refine ow_nil ?_
    refine xw_then ?_
    refine cw_ret ?_
    refine ret1 rfl (res_tmp rfl) ?_
    rotate_left
    refine cw_skip ?_
    refine xw_then ?_
    refine cw_seq ?_
    refine cw_quiet Ty.mixed (by decide +kernel) ?_
    refine kw_val rfl rfl (v_load rfl (Var.atN Ty.ag62 (.there (.there .here)) GetN.all (by first | rfl | assumption))) ?_
    refine kw_val rfl rfl (v_call rfl rfl (evNum_c (i := 5) (hD _ (by repeat (first | exact Sub.here | exact Sub.nil | assumption | refine Sub.there ?_))) (by omega))) ?_
    refine kw_val rfl rfl (v_load rfl (Var.atN Ty.ag75 .here GetN.all (by first | rfl | assumption))) ?_
    refine kw_val rfl rfl (v_call rfl rfl (flight_c hD1 (by repeat (first | exact Sub.here | exact Sub.nil | assumption | refine Sub.there ?_)) hw1.st hz1)) ?_
    refine kw_val rfl rfl (v_neq rfl rfl) ?_
    refine kw_nil ?_
    refine xw_then ?_
    refine cw_dec rfl (fun hc119 => ?_) (fun hc119 => ?_)
    refine cw_seq ?_
    refine cw_region ?_
    refine ow_val rfl rfl (v_assign rfl) ?_
    refine ow_nil ?_
    refine xw_then ?_
    refine cw_ret ?_
    refine xw_block_ret ?_
    refine xw_then_ret ?_
    refine ret1 rfl (res_tmp rfl) ?_
    rotate_left
    refine cw_skip ?_
    refine xw_block ?_
    refine xw_then ?_
    refine cw_seq ?_
    refine cw_region ?_
    refine ow_val rfl rfl (v_assign rfl) ?_
    refine ow_nil ?_
    refine xw_then ?_
    refine cw_ret ?_
    refine ret1 rfl (res_tmp rfl) ?_
    rotate_left
    refine cw_seq ?_
    refine cw_region ?_
    refine ow_val rfl rfl (v_eql rfl rfl) ?_
    refine ow_val rfl rfl (v_assign rfl) ?_
    refine ow_nil ?_
    refine xw_then ?_
    refine cw_dec rfl (fun hc120 => ?_) (fun hc120 => ?_)
    refine cw_seq ?_
    refine cw_quiet Ty.mixed (by decide +kernel) ?_
    refine kw_val rfl rfl (v_load rfl (Var.atN Ty.ag62 (.there (.there .here)) GetN.all (by first | rfl | assumption))) ?_
    refine kw_val rfl rfl (v_call rfl rfl (evNum_c (i := 2) (hD _ (by repeat (first | exact Sub.here | exact Sub.nil | assumption | refine Sub.there ?_))) (by omega))) ?_
    refine kw_val rfl rfl (v_load rfl (Var.atN Ty.ag62 (.there (.there .here)) GetN.all (by first | rfl | assumption))) ?_
    refine kw_val rfl rfl (v_call rfl rfl (evNum_c (i := 1) (hD _ (by repeat (first | exact Sub.here | exact Sub.nil | assumption | refine Sub.there ?_))) (by omega))) ?_
    refine kw_val rfl rfl (v_gtr rfl rfl) ?_
    refine kw_val rfl rfl (v_move rfl) ?_
    refine kw_dec 127 rfl (fun hc127 => ?_) (fun hc127 => ?_)
    refine kw_skip rfl rfl ?_
    refine kw_skip rfl rfl ?_
    refine kw_skip rfl rfl ?_
    refine kw_skip rfl rfl ?_
    refine kw_skip rfl rfl ?_
    refine kw_val rfl rfl (v_pick_true rfl rfl) ?_
    refine kw_nil ?_
    refine xw_then ?_
    refine cw_true rfl ?_
    refine cw_seq ?_
    refine cw_region ?_
    refine ow_val rfl rfl (v_assign rfl) ?_
    refine ow_nil ?_
    refine xw_then ?_
    refine cw_ret ?_
    refine xw_block_ret ?_
    refine xw_then_ret ?_
    refine ret1 rfl (res_tmp rfl) ?_
    rotate_left
    refine kw_val rfl rfl (v_load rfl (Var.atN Ty.ag62 (.there (.there .here)) GetN.all (by first | rfl | assumption))) ?_
    refine kw_val rfl rfl (v_call rfl rfl (evNum_c (i := 4) (hD _ (by repeat (first | exact Sub.here | exact Sub.nil | assumption | refine Sub.there ?_))) (by omega))) ?_
    refine kw_val rfl rfl (v_load rfl (Var.atN Ty.ag62 (.there (.there .here)) GetN.all (by first | rfl | assumption))) ?_
    refine kw_val rfl rfl (v_call rfl rfl (evNum_c (i := 3) (hD _ (by repeat (first | exact Sub.here | exact Sub.nil | assumption | refine Sub.there ?_))) (by omega))) ?_
    refine kw_val rfl rfl (v_gtr rfl rfl) ?_
    refine kw_val rfl rfl (v_pick_false rfl rfl) ?_
    refine kw_nil ?_
    refine xw_then ?_
    refine cw_dec rfl (fun hc133 => ?_) (fun hc133 => ?_)
    refine cw_seq ?_
    refine cw_region ?_
    refine ow_val rfl rfl (v_assign rfl) ?_
    refine ow_nil ?_
    refine xw_then ?_
    refine cw_ret ?_
    refine xw_block_ret ?_
    refine xw_then_ret ?_
    refine ret1 rfl (res_tmp rfl) ?_
    rotate_left
    refine cw_skip ?_
    refine xw_block ?_
    refine xw_then ?_
    refine cw_seq ?_
    refine cw_region ?_
    refine ow_val rfl rfl (v_assign rfl) ?_
    refine ow_nil ?_
    refine xw_then ?_
    refine cw_ret ?_
    refine ret1 rfl (res_tmp rfl) ?_
    rotate_left
    refine cw_skip ?_
    refine xw_block ?_
    refine xw_then ?_
    refine cw_seq ?_
    refine cw_region ?_
    refine ow_val rfl rfl (v_assign rfl) ?_
    refine ow_nil ?_
    refine xw_then ?_
    refine cw_ret ?_
    refine ret1 rfl (res_tmp rfl) ?_
    rotate_left
    · have hp : c'.post e was = ({ c' with ac := c'.ac.set (e.at 0).toNat (max (c'.ac.getD (e.at 0).toNat 0) (e.at 1)) }, 0) := by
        unfold CkM.post
        rw [if_pos hc68]
      rw [hp]
      exact ⟨_, rfl, ⟨q7, D7, rfl, hD1, hl7⟩, (by first | exact Cov.refl _ | (intro p; simp only [List.flatten_cons, List.flatten_nil, List.flatten_append, List.append_nil, List.nil_append, cnt_append, cnt_cons, cnt_nil, List.set_cons_zero, List.set_cons_succ, List.length_nil, List.length_cons, Nat.zero_add, List.append]; omega))⟩
    · have hlw := hw1.lf
      rw [wrap_i (n := c'.lf - 1) (by omega)]
      have hp : c'.post e was = ({ c' with lf := c'.lf - 1 }, 0) := by
        unfold CkM.post
        rw [if_neg hc68, if_pos hc87, if_pos ⟨hc92, hc98⟩]
      rw [hp]
      exact ⟨_, rfl, ⟨q7, D7, rfl, hD1, hl7⟩, (by first | exact Cov.refl _ | (intro p; simp only [List.flatten_cons, List.flatten_nil, List.flatten_append, List.append_nil, List.nil_append, cnt_append, cnt_cons, cnt_nil, List.set_cons_zero, List.set_cons_succ, List.length_nil, List.length_cons, Nat.zero_add, List.append]; omega))⟩
    · have hp : c'.post e was = (c', 0) := by
        unfold CkM.post
        rw [if_neg hc68, if_pos hc87, if_neg (fun h => hc98 h.2)]
      rw [hp]
      exact ⟨_, rfl, ⟨q7, D7, rfl, hD1, hl7⟩, (by first | exact Cov.refl _ | (intro p; simp only [List.flatten_cons, List.flatten_nil, List.flatten_append, List.append_nil, List.nil_append, cnt_append, cnt_cons, cnt_nil, List.set_cons_zero, List.set_cons_succ, List.length_nil, List.length_cons, Nat.zero_add, List.append]; omega))⟩
    · have hp : c'.post e was = (c', 0) := by
        unfold CkM.post
        rw [if_neg hc68, if_pos hc87, if_neg (fun h => hc92 h.1)]
      rw [hp]
      exact ⟨_, rfl, ⟨q7, D7, rfl, hD1, hl7⟩, (by first | exact Cov.refl _ | (intro p; simp only [List.flatten_cons, List.flatten_nil, List.flatten_append, List.append_nil, List.nil_append, cnt_append, cnt_cons, cnt_nil, List.set_cons_zero, List.set_cons_succ, List.length_nil, List.length_cons, Nat.zero_add, List.append]; omega))⟩
    · have hp : c'.post e was = ({ c' with lf := 2 }, 3) := by
        unfold CkM.post
        rw [if_neg hc68, if_neg hc87, if_pos hc106, if_pos hc111, if_pos hc119]
      rw [hp]
      exact ⟨_, rfl, ⟨q7, D7, rfl, hD1, hl7⟩, (by first | exact Cov.refl _ | (intro p; simp only [List.flatten_cons, List.flatten_nil, List.flatten_append, List.append_nil, List.nil_append, cnt_append, cnt_cons, cnt_nil, List.set_cons_zero, List.set_cons_succ, List.length_nil, List.length_cons, Nat.zero_add, List.append]; omega))⟩
    · have hp : c'.post e was = ({ c' with lf := 2 }, 0) := by
        unfold CkM.post
        rw [if_neg hc68, if_neg hc87, if_pos hc106, if_pos hc111, if_neg hc119]
      rw [hp]
      exact ⟨_, rfl, ⟨q7, D7, rfl, hD1, hl7⟩, (by first | exact Cov.refl _ | (intro p; simp only [List.flatten_cons, List.flatten_nil, List.flatten_append, List.append_nil, List.nil_append, cnt_append, cnt_cons, cnt_nil, List.set_cons_zero, List.set_cons_succ, List.length_nil, List.length_cons, Nat.zero_add, List.append]; omega))⟩
    · have hp : c'.post e was = (c', 3) := by
        unfold CkM.post
        rw [if_neg hc68, if_neg hc87, if_pos hc106, if_neg hc111, if_pos hc119]
      rw [hp]
      exact ⟨_, rfl, ⟨q7, D7, rfl, hD1, hl7⟩, (by first | exact Cov.refl _ | (intro p; simp only [List.flatten_cons, List.flatten_nil, List.flatten_append, List.append_nil, List.nil_append, cnt_append, cnt_cons, cnt_nil, List.set_cons_zero, List.set_cons_succ, List.length_nil, List.length_cons, Nat.zero_add, List.append]; omega))⟩
    · have hp : c'.post e was = (c', 0) := by
        unfold CkM.post
        rw [if_neg hc68, if_neg hc87, if_pos hc106, if_neg hc111, if_neg hc119]
      rw [hp]
      exact ⟨_, rfl, ⟨q7, D7, rfl, hD1, hl7⟩, (by first | exact Cov.refl _ | (intro p; simp only [List.flatten_cons, List.flatten_nil, List.flatten_append, List.append_nil, List.nil_append, cnt_append, cnt_cons, cnt_nil, List.set_cons_zero, List.set_cons_succ, List.length_nil, List.length_cons, Nat.zero_add, List.append]; omega))⟩
    · have hp : c'.post e was = (c', 6) := by
        unfold CkM.post
        rw [if_neg hc68, if_neg hc87, if_neg hc106, if_pos hc120, if_pos (Or.inl hc127)]
      rw [hp]
      exact ⟨_, rfl, ⟨q7, D7, rfl, hD1, hl7⟩, (by first | exact Cov.refl _ | (intro p; simp only [List.flatten_cons, List.flatten_nil, List.flatten_append, List.append_nil, List.nil_append, cnt_append, cnt_cons, cnt_nil, List.set_cons_zero, List.set_cons_succ, List.length_nil, List.length_cons, Nat.zero_add, List.append]; omega))⟩
    · have hp : c'.post e was = (c', 6) := by
        unfold CkM.post
        rw [if_neg hc68, if_neg hc87, if_neg hc106, if_pos hc120, if_pos (Or.inr hc133)]
      rw [hp]
      exact ⟨_, rfl, ⟨q7, D7, rfl, hD1, hl7⟩, (by first | exact Cov.refl _ | (intro p; simp only [List.flatten_cons, List.flatten_nil, List.flatten_append, List.append_nil, List.nil_append, cnt_append, cnt_cons, cnt_nil, List.set_cons_zero, List.set_cons_succ, List.length_nil, List.length_cons, Nat.zero_add, List.append]; omega))⟩
    · have hp : c'.post e was = (c', 0) := by
        unfold CkM.post
        rw [if_neg hc68, if_neg hc87, if_neg hc106, if_pos hc120, if_neg (fun h => h.elim hc127 hc133)]
      rw [hp]
      exact ⟨_, rfl, ⟨q7, D7, rfl, hD1, hl7⟩, (by first | exact Cov.refl _ | (intro p; simp only [List.flatten_cons, List.flatten_nil, List.flatten_append, List.append_nil, List.nil_append, cnt_append, cnt_cons, cnt_nil, List.set_cons_zero, List.set_cons_succ, List.length_nil, List.length_cons, Nat.zero_add, List.append]; omega))⟩
    · have hp : c'.post e was = (c', 0) := by
        unfold CkM.post
        rw [if_neg hc68, if_neg hc87, if_neg hc106, if_neg hc120]
      rw [hp]
      exact ⟨_, rfl, ⟨q7, D7, rfl, hD1, hl7⟩, (by first | exact Cov.refl _ | (intro p; simp only [List.flatten_cons, List.flatten_nil, List.flatten_append, List.append_nil, List.nil_append, cnt_append, cnt_cons, cnt_nil, List.set_cons_zero, List.set_cons_succ, List.length_nil, List.length_cons, Nat.zero_add, List.append]; omega))⟩
end Go.Proofs.Ytckdhelnafjddaa
