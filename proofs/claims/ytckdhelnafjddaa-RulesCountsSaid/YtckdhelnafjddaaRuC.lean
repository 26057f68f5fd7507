/- The rules' checker: all events; the law's fixed fact. Conditions: numbers fit their types. -/
import Derived.Test.YtckdhelnafjddaaRuE
namespace Go.Proofs.Ytckdhelnafjddaa
open Go Go.Sl Go.Proofs Go.RowKit Go.ChangeShapes Go.WideShapes Go.ChangeAt
set_option maxRecDepth 20000
set_option linter.unusedVariables false
set_option linter.unusedSimpArgs false

theorem CkM.post_wf {c : CkM} {e : EvM} {was : Int} (h : c.WF) (h1 : 0 ≤ e.at 1 ∧ e.at 1 ≤ 4611686018427387903) : (CkM.post c e was).1.WF := by
  unfold CkM.post
  have hl := h.lf
  split
  · refine ⟨h.st, by dsimp only; rw [List.length_set]; exact h.ac, fun a ha => ?_, h.lf⟩
    rcases List.mem_or_eq_of_mem_set ha with ha | rfl
    · exact h.aci a ha
    · have := getD_aci h (e.at 0).toNat
      omega
  split
  · refine ⟨h.st, h.ac, h.aci, ?_⟩
    dsimp only
    split <;> omega
  split
  · refine ⟨h.st, h.ac, h.aci, ?_⟩
    dsimp only
    split <;> omega
  split
  · exact h
  · exact h
theorem CkM.post_st {c : CkM} {e : EvM} {was : Int} : (CkM.post c e was).1.st = c.st := by
  unfold CkM.post
  split
  · rfl
  split
  · rfl
  split
  · rfl
  split <;> rfl
theorem CkM.step_wf {c : CkM} {e : EvM} (h : c.WF) (he : e.ok) : (c.step e).1.WF := by
  unfold CkM.step
  split
  · exact h
  split
  · exact h
  rename_i h2
  have hok : (c.st.step e).2 = 0 := Decidable.of_not_not h2
  exact CkM.post_wf ⟨StM.step_wf h.st he, h.ac, h.aci, h.lf⟩ ⟨(EvM.at_q he 1).1, chk_zero_at (step_zero_chk hok) 1⟩
theorem CkM.step_sz {c : CkM} {e : EvM} {n : Nat} (h : c.st.Sz n) : (c.step e).1.st.Sz (n + 1) := by
  unfold CkM.step
  split
  · exact h.mono (Nat.le_succ _)
  split
  · exact h.mono (Nat.le_succ _)
  rw [CkM.post_st]
  exact StM.step_sz h
theorem CkM.zero_wf : CkM.zero.WF := ⟨StM.zero_wf, rfl, by simp [CkM.zero], ⟨by decide, by decide⟩⟩
theorem b_ac : Build Try.prog 130 #[(0, .int .i64 (-1)), (1, .int .i64 (-1)), (2, .int .i64 (-1))] (.agg #[.int .i64 (-1), .int .i64 (-1), .int .i64 (-1)]) := fun w => by kernel_rfl
theorem b_ck {p : StP} : Build Try.prog 132 #[(0, .agg (StM.zero.cells p).toArray), (1, .agg #[.int .i64 (-1), .int .i64 (-1), .int .i64 (-1)])] (.agg (CkM.zero.cells p).toArray) := fun w => by kernel_rfl
set_option maxHeartbeats 8000000 in
theorem ckCheck_c {B : Nat} {w0 : World} {G : List Hp} {ao : Option Addr} {n cap : Nat} {es : List EvE} {De : Hp} (hV : Vw enEv (St B w0 G) (.slice ao n cap) es) (hn : es.length ≤ 100000) (hDe : ∀ x ∈ es, EvDeep B w0 x.m x.p De) (hs : Sub De G) :
    Go.Sl.Fn Try.prog 37 #[.slice ao n cap] B w0 G fun u G' => u = .tuple #[.int .i64 ((runCk CkM.zero (es.map (·.m))).1 : Nat), .int .u8 (runCk CkM.zero (es.map (·.m))).2] ∧ G' = G := by
  refine Fn.pure ?_
  have hl := hV.len
  subst hl
  generalize hres : runCk CkM.zero (es.map (·.m)) = res
  refine fn_enter Try.func37 rfl (by kernel_rfl) Try.ntmps37 (by simp) ?_
  refine cw_seq ?_
  refine cw_region ?_
  refine ow_val rfl rfl (v_assign rfl) ?_
  refine ow_val rfl rfl (v_assign rfl) ?_
  refine ow_nil ?_
  refine xw_then ?_
  refine cw_seq ?_
  refine cw_region ?_
  (refine ow_call rfl rfl rfl rfl (stNew_c) ?_; rintro _ _ ⟨x8, rfl, hq8, rfl⟩)
  obtain ⟨p8, D8⟩ := x8
  obtain ⟨hD8, hl8⟩ := hq8
  dsimp only at hD8 hl8 ⊢
  have g1 : ∀ u ∈ CkM.zero.cells p8, u.oneCell' = true := fun u hu => by
    rcases List.mem_append.1 hu with hu | hu
    · exact StM.cells_one u hu
    · simp [CkM.tl, CkM.zero] at hu
      rcases hu with rfl | rfl | rfl <;> rfl
  have g2 : (CkM.zero.cells p8).length = 41 := rfl
  refine ow_val rfl rfl (v_build rfl (b_ac)) ?_
  refine ow_val rfl rfl (v_build rfl (b_ck)) ?_
  (refine ow_box rfl rfl rfl rfl ?_; intro b11)
  refine ow_val rfl rfl (v_assign rfl) ?_
  refine ow_nil ?_
  refine xw_then ?_
  refine cw_seq ?_
  refine cw_seq ?_
  refine cw_region ?_
  refine ow_val rfl rfl (v_move rfl) ?_
  refine ow_val rfl rfl (v_len rfl Try.underlying57 rfl) ?_
  refine ow_val rfl rfl (v_move rfl) ?_
  refine ow_nil ?_
  refine xw_then ?_
  refine cw_block ?_
  have hO0 : CkAt CkM.zero b11 ([(b11, .cells (CkM.zero.cells p8).toArray 132 (0, 0))] ++ D8) := ⟨p8, D8, rfl, hD8, hl8⟩
  refine cw_cov (([(b11, .cells (CkM.zero.cells p8).toArray 132 (0, 0))] ++ D8) :: G) (by first | exact Cov.refl _ | (intro p; simp only [List.flatten_cons, List.flatten_nil, List.flatten_append, List.append_nil, List.nil_append, cnt_append, cnt_cons, cnt_nil, List.set_cons_zero, List.set_cons_succ, List.length_nil, List.length_cons, Nat.zero_add, List.append]; omega)) ?_
  refine cw_loop2 (ι := ((Nat × CkM × Hp))) [(0, _), (4, _), (12, _), (13, _)] ⟨rfl, rfl, rfl, rfl, trivial⟩ ((fun x => [(14, .int .i64 x.1)])) ((fun x => x.1 ≤ es.length ∧ x.2.1.WF ∧ x.2.1.st.Sz x.1 ∧ CkAt x.2.1 b11 x.2.2 ∧ res = ((runCk x.2.1 ((es.drop x.1).map (·.m))).1 + x.1, (runCk x.2.1 ((es.drop x.1).map (·.m))).2))) ((fun x => es.length - x.1)) ((fun x => x.2.2 :: G)) (((0, CkM.zero, [(b11, .cells (CkM.zero.cells p8).toArray 132 (0, 0))] ++ D8) : Nat × CkM × Hp)) (by repeat (first | exact True.intro | refine And.intro rfl ?_)) (by first | exact Cov.refl _ | (intro p; simp only [List.flatten_cons, List.flatten_nil, List.flatten_append, List.append_nil, List.nil_append, cnt_append, cnt_cons, cnt_nil, List.set_cons_zero, List.set_cons_succ, List.length_nil, List.length_cons, Nat.zero_add, List.append]; omega)) ?_ ?_
  · exact ⟨Nat.zero_le _, CkM.zero_wf, StM.zero_sz, hO0, by rw [← hres]; rfl⟩
  rintro ⟨j, c, h⟩ ⟨hj, hw, hz, hO, hr⟩
  dsimp only at hj hw hz hO hr ⊢
  refine cw_seq ?_
  refine cw_region ?_
  refine ow_val rfl rfl (v_lss rfl rfl) ?_
  refine ow_nil ?_
  refine xw_then ?_
  refine cw_seq ?_
  refine cw_dec rfl (fun hc15 => ?_) (fun hc15 => ?_)
  refine cw_skip ?_
  refine xw_then ?_
  rotate_left
  refine cw_exit ?_
  refine xw_then_exit ?_
  refine xw_round_exit ?_
  refine xw_block_exit ?_
  refine xw_then ?_
  rotate_left
  · have hj2 : j < es.length := by omega
    have hok := hV.ok _ (List.getElem_mem hj2)
    have hoe : (es[j]).m.ok := hok
    have hDj := hDe _ (List.getElem_mem hj2)
    have hce : ∀ u ∈ (es[j]).m.cells (es[j]).p, u.oneCell' = true := EvM.cells_one
    have hle : ((es[j]).m.cells (es[j]).p).length = 4 := rfl
    have hdr : es.drop j = es[j] :: es.drop (j + 1) := List.drop_eq_getElem_cons hj2
    rw [hdr, List.map_cons] at hr
    refine cw_seq ?_
    refine cw_block ?_
    refine cw_seq ?_
    refine cw_region ?_
    refine ow_val rfl rfl (v_move rfl) ?_
    refine ow_val rfl rfl (v_indexAddr_vw Try.underlying57 (evTy) rfl rfl (by assumption) rfl (by omega)) ?_
    refine ow_val rfl rfl (v_load rfl (Go.Sl.Vw.var (evTy) (hV.cov (by first | exact Cov.refl _ | (intro p; simp only [List.flatten_cons, List.flatten_nil, List.flatten_append, List.append_nil, List.nil_append, cnt_append, cnt_cons, cnt_nil, List.set_cons_zero, List.set_cons_succ, List.length_nil, List.length_cons, Nat.zero_add, List.append]; omega))) (by omega))) ?_
    (refine ow_alloc rfl rfl Ty.ze62 ?_; intro b6)
    refine ow_val rfl rfl (v_assign rfl) ?_
    refine ow_storeE rfl (evTy) rfl rfl .here (by first | rfl | assumption) (by assumption) ?_
    refine ow_nil ?_
    refine xw_then ?_
    refine cw_seq ?_
    refine cw_region ?_
    refine ow_val rfl rfl (v_move rfl) ?_
    refine ow_val rfl rfl (v_load rfl (Var.atN Ty.ag62 .here GetN.all (by first | rfl | assumption))) ?_
    (refine ow_call rfl rfl rfl rfl (ckEvent_c (by repeat (first | exact Sel.here | apply Sel.there)) hO hw (hz.mono (by omega)) hoe hDj (by repeat (first | exact Sub.here | exact Sub.nil | assumption | refine Sub.there ?_))) ?_; rintro _ _ ⟨x21, rfl, hq21, rfl⟩)
    refine ow_val rfl rfl (v_assign rfl) ?_
    refine ow_nil ?_
    refine xw_then ?_
    refine cw_seq ?_
    refine cw_region ?_
    refine ow_val rfl rfl (v_move rfl) ?_
    refine ow_val rfl rfl (v_neq rfl rfl) ?_
    refine ow_nil ?_
    refine xw_then ?_
    refine cw_dec rfl (fun hc23 => ?_) (fun hc23 => ?_)
    refine cw_seq ?_
    refine cw_region ?_
    refine ow_val rfl rfl (v_move rfl) ?_
    refine ow_val rfl rfl (v_move rfl) ?_
    refine ow_val rfl rfl (v_assign rfl) ?_
    refine ow_val rfl rfl (v_assign rfl) ?_
    refine ow_nil ?_
    refine xw_then ?_
    refine cw_ret ?_
    refine xw_block_ret ?_
    refine xw_then_ret ?_
    refine xw_round_ret ?_
    refine xw_block_ret ?_
    refine xw_then_ret ?_
    refine ret2 rfl (res_tmp rfl) (res_tmp rfl) ?_
    rotate_left
    refine cw_skip ?_
    refine xw_block ?_
    refine xw_then ?_
    refine cw_region ?_
    refine ow_val rfl rfl (v_add rfl rfl (nw_i64 (by omega) (by omega))) ?_
    refine ow_val rfl rfl (v_move rfl) ?_
    refine ow_nil ?_
    rotate_left
    · rw [runCk, if_pos hc23, Nat.zero_add] at hr
      subst hr
      exact ⟨rfl, (by first | exact Cov.refl _ | (intro p; simp only [List.flatten_cons, List.flatten_nil, List.flatten_append, List.append_nil, List.nil_append, cnt_append, cnt_cons, cnt_nil, List.set_cons_zero, List.set_cons_succ, List.length_nil, List.length_cons, Nat.zero_add, List.append]; omega))⟩
    · rw [runCk, if_neg hc23] at hr
      exact xw_round ((j + 1, (c.step (es[j]).m).1, x21) : Nat × CkM × Hp) ⟨by dsimp only; omega, CkM.step_wf hw hoe, CkM.step_sz hz, hq21, by rw [hr]; dsimp only; rw [Nat.add_assoc, Nat.add_comm 1 j]⟩ (by dsimp only; omega) (by first | exact Cov.refl _ | (intro p; simp only [List.flatten_cons, List.flatten_nil, List.flatten_append, List.append_nil, List.nil_append, cnt_append, cnt_cons, cnt_nil, List.set_cons_zero, List.set_cons_succ, List.length_nil, List.length_cons, Nat.zero_add, List.append]; omega)) (by repeat (first | exact True.intro | refine And.intro rfl ?_))
  · have hj3 : j = es.length := by omega
    subst hj3
    rw [List.drop_length, List.map_nil, runCk, Nat.zero_add] at hr
    subst hr
    refine cw_seq ?_
    refine cw_region ?_
    refine ow_val rfl rfl (v_move rfl) ?_
    refine ow_val rfl rfl (v_len rfl Try.underlying57 rfl) ?_
    refine ow_val rfl rfl (v_assign rfl) ?_
    refine ow_val rfl rfl (v_assign rfl) ?_
    refine ow_nil ?_
    refine xw_then ?_
    refine cw_ret ?_
    refine ret2 rfl (res_tmp rfl) (res_tmp rfl) ?_
    exact ⟨rfl, (by first | exact Cov.refl _ | (intro p; simp only [List.flatten_cons, List.flatten_nil, List.flatten_append, List.append_nil, List.nil_append, cnt_append, cnt_cons, cnt_nil, List.set_cons_zero, List.set_cons_succ, List.length_nil, List.length_cons, Nat.zero_add, List.append]; omega))⟩
def bw1 : EvM := ⟨2, 0, [0, 3, 10, 0, 0], []⟩
theorem bw1_ok : bw1.ok := ⟨⟨by decide, by decide⟩, ⟨by decide, by decide⟩, by simp [bw1, inQ], by decide, by decide⟩
theorem bw_all : runCk CkM.zero [bw1, bw1] = (1, 1) := by decide +kernel
set_option maxHeartbeats 4000000 in
theorem awake31_c {B : Nat} {w0 : World} {G : List Hp} :
    Go.Sl.Fn Try.prog 33 #[] B w0 G fun u G' => u = .bool true ∧ G' = G := by
  refine Fn.pure ?_
  have k1 := bw1_ok
  refine fn_enter Try.func33 rfl (by kernel_rfl) Try.ntmps33 (by simp) ?_
  refine cw_seq ?_
  refine cw_region ?_
  refine ow_val rfl rfl (v_assign rfl) ?_
  refine ow_nil ?_
  refine xw_then ?_
  refine cw_seq ?_
  refine cw_region ?_
  (refine ow_buildL (es := ([0, 3, 10, 0, 0])) rfl rfl Try.underlying60 Ty.em60 (qTy) rfl rfl (by first | (simp [*]; done) | (repeat (first | exact List.forall_mem_nil _ | refine List.forall_mem_cons.2 ⟨?_, ?_⟩ | assumption | (show _ ∧ _; omega)))) (by simp only [List.length_cons, List.length_nil]; decide) ?_; intro ao4 c4 hL4)
  refine ow_val rfl rfl (v_build rfl (b_ev)) ?_
  (refine ow_alloc rfl rfl Ty.ze62 ?_; intro b1)
  refine ow_storeN rfl rfl rfl Ty.ag62 (by first | rfl | assumption) (by first | assumption | simp) .here (SetN.all (by first | rfl | assumption | simp_all)) ?_
  refine ow_nil ?_
  refine xw_then ?_
  have hx1 : ∀ u ∈ bw1.cells ⟨ao4, 5, none, 0⟩, u.oneCell' = true := EvM.cells_one
  have hx2 : (bw1.cells ⟨ao4, 5, none, 0⟩).length = 4 := rfl
  refine cw_cov ([(b1, .cells (bw1.cells ⟨ao4, 5, none, 0⟩).toArray 62 (0, 0))] :: c4 :: G) (by first | exact Cov.refl _ | (intro p; simp only [List.flatten_cons, List.flatten_nil, List.flatten_append, List.append_nil, List.nil_append, cnt_append, cnt_cons, cnt_nil, List.set_cons_zero, List.set_cons_succ, List.length_nil, List.length_cons, Nat.zero_add, List.append]; omega)) ?_
  refine cw_seq ?_
  refine cw_region ?_
  refine ow_val rfl rfl (v_load rfl (Var.atN Ty.ag62 .here GetN.all (by first | rfl | assumption))) ?_
  refine ow_val rfl rfl (v_load rfl (Var.atN Ty.ag62 .here GetN.all (by first | rfl | assumption))) ?_
  (refine ow_buildL (es := ([(⟨bw1, ⟨ao4, 5, none, 0⟩⟩ : EvE), ⟨bw1, ⟨ao4, 5, none, 0⟩⟩])) rfl rfl Try.underlying57 Ty.em57 (evTy) rfl rfl (by first | (simp [*]; done) | (repeat (first | exact List.forall_mem_nil _ | refine List.forall_mem_cons.2 ⟨?_, ?_⟩ | assumption | (show _ ∧ _; omega)))) (by simp only [List.length_cons, List.length_nil]; decide) ?_; intro ao9 c9 hL9)
  have hle : [(⟨bw1, ⟨ao4, 5, none, 0⟩⟩ : EvE), ⟨bw1, ⟨ao4, 5, none, 0⟩⟩].length ≤ 100000 := by show 2 ≤ 100000; decide
  have hd : EvDeep B w0 bw1 ⟨ao4, 5, none, 0⟩ c4 := fun G h => ⟨hL4.vw h, Ls.nil.vw (e := 5) Sub.nil⟩
  have hDe : ∀ x ∈ [(⟨bw1, ⟨ao4, 5, none, 0⟩⟩ : EvE), ⟨bw1, ⟨ao4, 5, none, 0⟩⟩], EvDeep B w0 x.m x.p c4 := List.forall_mem_cons.2 ⟨hd, List.forall_mem_cons.2 ⟨hd, List.forall_mem_nil _⟩⟩
  have hV := Go.Sl.Ls.vw (B := B) (w0 := w0) hL9 (Sub.here (G := [(b1, .cells (bw1.cells ⟨ao4, 5, none, 0⟩).toArray 62 (0, 0))] :: c4 :: G))
  have hA := ckCheck_c (es := [(⟨bw1, ⟨ao4, 5, none, 0⟩⟩ : EvE), ⟨bw1, ⟨ao4, 5, none, 0⟩⟩]) hV hle hDe (by repeat (first | exact Sub.here | exact Sub.nil | assumption | refine Sub.there ?_))
  rw [show ([(⟨bw1, ⟨ao4, 5, none, 0⟩⟩ : EvE), ⟨bw1, ⟨ao4, 5, none, 0⟩⟩].map (·.m)) = [bw1, bw1] from rfl, bw_all] at hA
  dsimp only at hA
  refine ow_val rfl rfl (v_call rfl rfl (hA)) ?_
  refine ow_val rfl rfl (v_move rfl) ?_
  refine ow_val rfl rfl (v_extract rfl rfl) ?_
  refine ow_val rfl rfl (v_extract rfl rfl) ?_
  refine ow_val rfl rfl (v_assign rfl) ?_
  refine ow_val rfl rfl (v_assign rfl) ?_
  refine ow_nil ?_
  refine xw_then ?_
  refine cw_seq ?_
  refine cw_region ?_
  refine ow_val rfl rfl (v_move rfl) ?_
  refine ow_val rfl rfl (v_eql rfl rfl) ?_
  refine ow_val rfl rfl (v_move rfl) ?_
  refine ow_dec 15 rfl (fun hc15 => ?_) (fun hc15 => ?_)
  rotate_left; (exfalso; omega); rotate_right
  refine ow_val rfl rfl (v_move rfl) ?_
  refine ow_val rfl rfl (v_eql rfl rfl) ?_
  refine ow_val rfl rfl (v_pick_true rfl rfl) ?_
  refine ow_val rfl rfl (v_assign rfl) ?_
  refine ow_nil ?_
  refine xw_then ?_
  refine cw_ret ?_
  refine ret1 rfl (res_tmp rfl) ?_
  exact ⟨congrArg Value.bool (decide_eq_true rfl), (by first | exact Cov.refl _ | (intro p; simp only [List.flatten_cons, List.flatten_nil, List.flatten_append, List.append_nil, List.nil_append, cnt_append, cnt_cons, cnt_nil, List.set_cons_zero, List.set_cons_succ, List.length_nil, List.length_cons, Nat.zero_add, List.append]; omega))⟩
end Go.Proofs.Ytckdhelnafjddaa
