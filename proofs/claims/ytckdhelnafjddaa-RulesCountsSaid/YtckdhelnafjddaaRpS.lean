/- Replay in memory: a space's events. Conditions: numbers fit their types. -/
import Derived.Test.YtckdhelnafjddaaRp
namespace Go.Proofs.Ytckdhelnafjddaa
open Go Go.Sl Go.Proofs Go.RowKit Go.ChangeShapes Go.WideShapes Go.ChangeAt
set_option maxRecDepth 20000
set_option linter.unusedVariables false
set_option linter.unusedSimpArgs false

theorem addLast32 {l : List Rg} {n : Int} : (⟨32, l⟩ : SetM).addLast ⟨n, n + 1⟩ = (⟨32, addM l n⟩, max (((addL l ⟨n, n + 1⟩).length : Int) - 32) 0) := by
  unfold SetM.addLast addM
  rw [if_neg (by dsimp only; omega)]
  dsimp only
  have h : max (32 : Int) 1 = 32 := by decide
  rw [h]
  have h2 : (max (((addL l ⟨n, n + 1⟩).length : Int) - 32) 0).toNat = (addL l ⟨n, n + 1⟩).length - 32 := by omega
  rw [h2]
theorem spRecv_c {B : Nat} {w0 : World} {G : List Hp} {R : Hp → List Hp} {pre post : List Value} {T : TypeId} {x : SpM} {b : Nat} {c : Hp} {n : Int} (hsel : Sel G c R) (hO : SpAt pre post T x b c) (hw : x.WF) (hn : 0 ≤ n ∧ n ≤ 4611686018427387903) :
    Go.Sl.Fn Try.prog 103 #[.pointer (some ⟨b, pre.length, none⟩), .int .u64 n] B w0 G fun u G' => ∃ c' : Hp, u = .int .i64 (x.recv n).2 ∧ SpAt pre post T (x.recv n).1 b c' ∧ G' = R c' := by
  refine Fn.sel0 hsel fun F hR hF => ?_
  have hO' := hO
  refine fn_enter Try.func103 rfl (by kernel_rfl) Try.ntmps103 (by simp) ?_
  refine cw_seq ?_
  refine cw_region ?_
  refine ow_val rfl rfl (v_assign rfl) ?_
  refine ow_nil ?_
  refine xw_then ?_
  refine cw_seq ?_
  refine cw_region ?_
  refine ow_val rfl rfl (v_move rfl) ?_
  (refine ow_call rfl rfl rfl rfl (spCame_c hO (by repeat (first | exact Sub.here | exact Sub.nil | assumption | refine Sub.there ?_)) hw) ?_; rintro _ _ ⟨x8, rfl, hq8, rfl⟩)
  refine ow_val rfl rfl (v_assign rfl) ?_
  refine ow_nil ?_
  refine xw_then ?_
  obtain ⟨bs, ci⟩ := x8
  dsimp only at hq8 ⊢
  obtain ⟨q, cs, cc, rfl, hS, hC⟩ := hO'
  have hws := set32 hw.good hw.len
  have hbl := hw.bl
  unfold inQ at hbl
  refine cw_cov (ci :: [(b, .cells (pre ++ (x.cells q ++ post)).toArray T (0, 0))] :: cs :: cc :: F) (by first | exact Cov.refl _ | (intro p; simp only [List.flatten_cons, List.flatten_nil, List.flatten_append, List.append_nil, List.nil_append, cnt_append, cnt_cons, cnt_nil, List.set_cons_zero, List.set_cons_succ, List.length_nil, List.length_cons, Nat.zero_add, List.append]; omega)) ?_
  unfold SpM.cells
  refine cw_seq ?_
  refine cw_seq ?_
  refine cw_region ?_
  refine ow_val rfl rfl (v_move rfl) ?_
  refine ow_val rfl rfl (v_move rfl) ?_
  refine ow_val rfl rfl (v_nilCheck rfl) ?_
  refine ow_val rfl rfl (v_fieldAddr Ty.fd66_3 rfl) ?_
  refine ow_val rfl rfl (v_load rfl (Var.at1 Ty.sc22 (.there .here) ((sp_get (j := 3) rfl)))) ?_
  refine ow_val rfl rfl (v_lss rfl rfl) ?_
  refine ow_val rfl rfl (v_move rfl) ?_
  refine ow_dec 15 rfl (fun hc15 => ?_) (fun hc15 => ?_)
  refine ow_skip rfl rfl ?_
  refine ow_skip rfl rfl ?_
  refine ow_skip rfl rfl ?_
  refine ow_val rfl rfl (v_pick_true rfl rfl) ?_
  refine ow_nil ?_
  refine xw_then ?_
  refine cw_true rfl ?_
  refine cw_seq ?_
  refine cw_region ?_
  refine ow_val rfl rfl (v_assign rfl) ?_
  refine ow_nil ?_
  refine xw_then ?_
  refine cw_ret ?_
  refine xw_then_ret ?_
  refine ret1 rfl (res_tmp rfl) ?_
  rotate_left
  refine ow_val rfl rfl (v_move rfl) ?_
  refine ow_val rfl rfl (v_move rfl) ?_
  refine ow_val rfl rfl (v_call rfl rfl (setHas_l (n := n) hq8 (by repeat (first | exact Sub.here | exact Sub.nil | assumption | refine Sub.there ?_)) hws)) ?_
  refine ow_val rfl rfl (v_pick_false rfl rfl) ?_
  refine ow_nil ?_
  refine xw_then ?_
  refine cw_bool rfl (fun hc19 => ?_) (fun hc19 => ?_)
  refine cw_seq ?_
  refine cw_region ?_
  refine ow_val rfl rfl (v_assign rfl) ?_
  refine ow_nil ?_
  refine xw_then ?_
  refine cw_ret ?_
  refine xw_then_ret ?_
  refine ret1 rfl (res_tmp rfl) ?_
  rotate_left
  refine cw_skip ?_
  refine xw_then ?_
  rotate_left
  · have e : x.recv n = (x, 18) := if_pos (.inl hc15)
    rw [e]
    refine ⟨_, rfl, ⟨q, cs, cc, rfl, hS, hC⟩, ?_⟩
    dsimp only [SpM.cells]
    exact (by first | exact Cov.refl _ | (intro p; simp only [List.flatten_cons, List.flatten_nil, List.flatten_append, List.append_nil, List.nil_append, cnt_append, cnt_cons, cnt_nil, List.set_cons_zero, List.set_cons_succ, List.length_nil, List.length_cons, Nat.zero_add, List.append]; omega))
  · have e : x.recv n = (x, 18) := if_pos (.inr hc19)
    rw [e]
    refine ⟨_, rfl, ⟨q, cs, cc, rfl, hS, hC⟩, ?_⟩
    dsimp only [SpM.cells]
    exact (by first | exact Cov.refl _ | (intro p; simp only [List.flatten_cons, List.flatten_nil, List.flatten_append, List.append_nil, List.nil_append, cnt_append, cnt_cons, cnt_nil, List.set_cons_zero, List.set_cons_succ, List.length_nil, List.length_cons, Nat.zero_add, List.append]; omega))
  have hrn : RgIn ⟨n, n + 1⟩ := by unfold RgIn; dsimp only; omega
  have ha : ∀ {G : List Hp} {R : Hp → List Hp}, Sel G ci R → Go.Sl.Fn Try.prog 128 #[.pointer (some ⟨bs, 0, none⟩), enR.val ⟨n, n + 1⟩] B w0 G fun u G' => ∃ c' : Hp, u = .int .i64 (max (((addL x.came ⟨n, n + 1⟩).length : Int) - 32) 0) ∧ SetAt ⟨32, addM x.came n⟩ bs c' ∧ G' = R c' := fun hs => by
    have h := setAddLast_c (B := B) (w0 := w0) hs hq8 hws hrn
    rw [addLast32] at h
    exact h
  have hwa := addM_wf hw.good hn
  have hwa2 := set32 hwa.1 hwa.2
  have e : x.recv n = ({ x with came := addM x.came n, bl := if 32 < (addL x.came ⟨n, n + 1⟩).length then ((addM x.came n).headD ⟨0, 0⟩).a else x.bl }, 0) := by rw [SpM.recv, if_neg (by rw [hc19]; simp; omega)]
  rw [e]
  clear e
  have hal : 32 < (addL x.came ⟨n, n + 1⟩).length → (addM x.came n).length = 32 := fun h => by unfold addM; rw [List.length_drop]; omega
  generalize hL : addL x.came ⟨n, n + 1⟩ = L at *
  generalize hA : addM x.came n = A at *
  refine cw_seq ?_
  refine cw_region ?_
  refine ow_val rfl rfl (v_move rfl) ?_
  refine ow_val rfl rfl (v_move rfl) ?_
  refine ow_val rfl rfl (v_move rfl) ?_
  refine ow_val rfl rfl (v_add rfl rfl (nw_u64 (by omega) (by omega))) ?_
  refine ow_val rfl rfl (v_build rfl (b_rng)) ?_
  (refine ow_call rfl rfl rfl rfl (ha (by repeat (first | exact Sel.here | apply Sel.there))) ?_; rintro _ _ ⟨x25, rfl, hq25, rfl⟩)
  refine ow_val rfl rfl (v_assign rfl) ?_
  refine ow_nil ?_
  refine xw_then ?_
  refine cw_seq ?_
  refine cw_region ?_
  refine ow_val rfl rfl (v_move rfl) ?_
  refine ow_val rfl rfl (v_move rfl) ?_
  (refine ow_call rfl rfl rfl rfl (setList_l (l := A) (by assumption) (by repeat (first | exact Sub.here | exact Sub.nil | assumption | refine Sub.there ?_)) hwa2) ?_; rintro _ _ ⟨x28, rfl, hq28, rfl⟩)
  refine ow_val rfl rfl (v_nilCheck rfl) ?_
  refine ow_val rfl rfl (v_fieldAddr Ty.fd66_2 rfl) ?_
  refine ow_store1 rfl rfl rfl rfl Ty.sc27 (.there (.there .here)) ((sp_set (j := 2) (Nat.le_of_ble_eq_true rfl))) ?_
  refine ow_nil ?_
  refine xw_then ?_
  obtain ⟨a28, k28, c28⟩ := x28
  dsimp only at hq28 ⊢
  refine cw_seq ?_
  refine cw_seq ?_
  refine cw_region ?_
  refine ow_val rfl rfl (v_move rfl) ?_
  refine ow_val rfl rfl (v_gtr rfl rfl) ?_
  refine ow_val rfl rfl (v_move rfl) ?_
  refine ow_dec 33 rfl (fun hc33 => ?_) (fun hc33 => ?_)
  refine ow_val rfl rfl (v_move rfl) ?_
  refine ow_val rfl rfl (v_nilCheck rfl) ?_
  refine ow_val rfl rfl (v_fieldAddr Ty.fd66_2 rfl) ?_
  refine ow_val rfl rfl (v_load rfl (Var.at1 Ty.sc27 (.there (.there .here)) ((sp_get (j := 2) rfl)))) ?_
  refine ow_val rfl rfl (v_len rfl Try.underlying27 rfl) ?_
  refine ow_val rfl rfl (v_gtr rfl rfl) ?_
  refine ow_val rfl rfl (v_pick_true rfl rfl) ?_
  refine ow_nil ?_
  refine xw_then ?_
  refine cw_dec rfl (fun hc40 => ?_) (fun hc40 => ?_)
  rotate_left; (exfalso; omega); rotate_right
  refine cw_region ?_
  refine ow_val rfl rfl (v_move rfl) ?_
  refine ow_val rfl rfl (v_move rfl) ?_
  refine ow_val rfl rfl (v_nilCheck rfl) ?_
  refine ow_val rfl rfl (v_fieldAddr Ty.fd66_2 rfl) ?_
  refine ow_val rfl rfl (v_load rfl (Var.at1 Ty.sc27 (.there (.there .here)) ((sp_get (j := 2) rfl)))) ?_
  rotate_left
  refine ow_skip rfl rfl ?_
  refine ow_skip rfl rfl ?_
  refine ow_skip rfl rfl ?_
  refine ow_skip rfl rfl ?_
  refine ow_skip rfl rfl ?_
  refine ow_skip rfl rfl ?_
  refine ow_val rfl rfl (v_pick_false rfl rfl) ?_
  refine ow_nil ?_
  refine xw_then ?_
  refine cw_false rfl ?_
  refine cw_skip ?_
  refine xw_then ?_
  refine cw_seq ?_
  refine cw_region ?_
  refine ow_val rfl rfl (v_assign rfl) ?_
  refine ow_nil ?_
  refine xw_then ?_
  refine cw_ret ?_
  refine ret1 rfl (res_tmp rfl) ?_
  rotate_left
  · have hal2 := hal (by omega)
    have h0 : 0 < A.length := by omega
    refine ow_val rfl rfl (v_indexAddr_ls (i := 0) Try.underlying27 (rTy) rfl rfl (by assumption) rfl (by omega)) ?_
    refine ow_val rfl rfl (v_fieldAddr Ty.fd102_0 rfl) ?_
    refine ow_val rfl rfl (v_load rfl (Go.Sl.Vw.fld1 (rTy) Ty.sc22 ((hq28.vw (by repeat (first | exact Sub.here | exact Sub.nil | assumption | refine Sub.there ?_)))) (by omega) rfl)) ?_
    refine ow_val rfl rfl (v_nilCheck rfl) ?_
    refine ow_val rfl rfl (v_fieldAddr Ty.fd66_3 rfl) ?_
    refine ow_store1 rfl rfl rfl rfl Ty.sc22 (.there (.there .here)) ((sp_set (j := 3) (Nat.le_of_ble_eq_true rfl))) ?_
    refine ow_nil ?_
    refine xw_then ?_
    refine cw_seq ?_
    refine cw_region ?_
    refine ow_val rfl rfl (v_assign rfl) ?_
    refine ow_nil ?_
    refine xw_then ?_
    refine cw_ret ?_
    refine ret1 rfl (res_tmp rfl) ?_
    obtain ⟨y, A', rfl⟩ : ∃ y A', A = y :: A' := by cases A with | nil => simp at h0 | cons y A' => exact ⟨y, A', rfl⟩
    refine ⟨_, rfl, ⟨⟨q.sa, q.sc, a28, k28⟩, cs, c28, rfl, hS, hq28⟩, ?_⟩
    dsimp only [SpM.cells, List.set, List.headD_cons, List.getElem_cons_zero, List.length_cons]
    rw [if_pos (by omega)]
    exact (by first | exact Cov.refl _ | (intro p; simp only [List.flatten_cons, List.flatten_nil, List.flatten_append, List.append_nil, List.nil_append, cnt_append, cnt_cons, cnt_nil, List.set_cons_zero, List.set_cons_succ, List.length_nil, List.length_cons, Nat.zero_add, List.append]; omega))
  · skip
    refine ⟨_, rfl, ⟨⟨q.sa, q.sc, a28, k28⟩, cs, c28, rfl, hS, hq28⟩, ?_⟩
    dsimp only [SpM.cells, List.set]
    rw [if_neg (by omega)]
    exact (by first | exact Cov.refl _ | (intro p; simp only [List.flatten_cons, List.flatten_nil, List.flatten_append, List.append_nil, List.nil_append, cnt_append, cnt_cons, cnt_nil, List.set_cons_zero, List.set_cons_succ, List.length_nil, List.length_cons, Nat.zero_add, List.append]; omega))

theorem EvM.at_get {e : EvM} {i : Nat} (h : i < e.n.length) : e.n[i] = e.at i := by
  unfold EvM.at
  rw [List.getD_eq_getElem?_getD, List.getElem?_eq_getElem h]
  rfl
theorem b_rng1 {n : Int} : Build Try.prog 102 #[(1, .int .u64 n)] (.agg (Rg.cells ⟨0, n⟩).toArray) := fun w => by kernel_rfl
theorem SpM.step2 {x : SpM} {e : EvM} (h : e.k = 2) : x.step e = x.send ⟨e.at 1, e.at 2, decide (e.at 3 = 1), decide (e.at 4 = 1)⟩ (decide (1 < e.at 3) || decide (1 < e.at 4)) := by unfold SpM.step; rw [h]; rfl
theorem SpM.step3 {x : SpM} {e : EvM} (h : e.k = 3) : x.step e = x.recv (e.at 1) := by unfold SpM.step; rw [h]; rfl
theorem SpM.step6 {x : SpM} {e : EvM} (h : e.k = 6) : x.step e = ({ x with sent := [], dr := true }, 0) := by unfold SpM.step; rw [h]; rfl
theorem SpM.step7 {x : SpM} {e : EvM} (h : e.k = 7) : x.step e = ({ x with came := cutE x.came ⟨0, e.at 1⟩, bl := max x.bl (e.at 1) }, 0) := by unfold SpM.step; rw [h]; rfl
theorem SpM.step45 {x : SpM} {e : EvM} (h : e.k = 4 ∨ e.k = 5) : x.step e = match x.sent.findIdx? fun p => decide (p.num = e.at 1) with
    | none => (x, 17)
    | some i => ({ x with sent := x.sent.take i ++ x.sent.drop (i + 1) }, 0) := by
  unfold SpM.step
  rcases h with h | h <;> rw [h] <;> rfl
set_option maxHeartbeats 4000000 in
theorem spFold_c {B : Nat} {w0 : World} {G : List Hp} {R : Hp → List Hp} {pre post : List Value} {T : TypeId} {x : SpM} {b : Nat} {c D : Hp} {e : EvM} {p : EvP} (hsel : Sel G c R) (hO : SpAt pre post T x b c) (hw : x.WF) (hb : x.sent.length ≤ 1000000) (he : e.ok) (hc : e.chk = 0) (hk : 2 ≤ e.k ∧ e.k ≤ 7) (hD : EvDeep B w0 e p D) (hs : Sub D (R [])) :
    Go.Sl.Fn Try.prog 74 #[.pointer (some ⟨b, pre.length, none⟩), .agg (e.cells p).toArray] B w0 G fun u G' => ∃ c' : Hp, u = .int .i64 (x.step e).2 ∧ SpAt pre post T (x.step e).1 b c' ∧ G' = R c' := by
  refine Fn.sel0 hsel fun F hR hF => ?_
  have hsF := Sub.rest hs hR
  obtain ⟨_, _, hlen, _, _, hle⟩ := EvM.chk_ok hc
  have q := fun i => EvM.at_in he i
  have m := fun i => EvM.at_le hc i
  have q1 := q 1
  have q2 := q 2
  have m1 := m 1
  unfold inQ at q1 q2
  have kk := he.k
  have kO : e.k = 2 ∨ e.k = 3 ∨ e.k = 4 ∨ e.k = 5 ∨ e.k = 6 ∨ e.k = 7 := by omega
  refine fn_enter Try.func74 rfl (by kernel_rfl) Try.ntmps74 (by simp) ?_
  unfold EvM.cells
  refine cw_seq ?_
  refine cw_region ?_
  (refine ow_box rfl rfl rfl rfl ?_; intro b3)
  refine ow_val rfl rfl (v_assign rfl) ?_
  refine ow_nil ?_
  refine xw_then ?_
  refine cw_seq ?_
  refine cw_seq ?_
  refine cw_region ?_
  refine ow_val rfl rfl (v_fieldAddr0 Ty.fd62_0 rfl) ?_
  refine ow_val rfl rfl (v_load rfl (Var.at1 Ty.sc59 .here (GetN.lit rfl))) ?_
  refine ow_nil ?_
  refine xw_then ?_
  refine cw_block ?_
  refine cw_seq ?_
  refine cw_region ?_
  refine ow_val rfl rfl (v_eql rfl rfl) ?_
  refine ow_val rfl rfl (v_assign rfl) ?_
  refine ow_nil ?_
  refine xw_then ?_
  refine cw_dec rfl (fun hc9 => ?_) (fun hc9 => ?_)
  rotate_left
  refine cw_seq ?_
  refine cw_region ?_
  refine ow_val rfl rfl (v_eql rfl rfl) ?_
  refine ow_val rfl rfl (v_assign rfl) ?_
  refine ow_nil ?_
  refine xw_then ?_
  refine cw_dec rfl (fun hc44 => ?_) (fun hc44 => ?_)
  rotate_left
  refine cw_seq ?_
  refine cw_seq ?_
  refine cw_region ?_
  refine ow_val rfl rfl (v_eql rfl rfl) ?_
  refine ow_val rfl rfl (v_assign rfl) ?_
  refine ow_nil ?_
  refine xw_then ?_
  refine cw_dec rfl (fun hc52 => ?_) (fun hc52 => ?_)
  refine cw_skip ?_
  refine xw_then ?_
  refine cw_dec rfl (fun hc52 => ?_) (fun hc52 => ?_)
  rotate_left; (exfalso; omega); rotate_right
  rotate_left
  refine cw_region ?_
  refine ow_val rfl rfl (v_eql rfl rfl) ?_
  refine ow_val rfl rfl (v_assign rfl) ?_
  refine ow_nil ?_
  refine xw_then ?_
  refine cw_dec rfl (fun hc52 => ?_) (fun hc52 => ?_)
  rotate_left
  rotate_left
  · have h5 : e.n.length = 5 := by rw [hc9] at hlen; have : (e.n.length : Int) = 5 := hlen; omega
    have hok : enPk.ok ⟨e.n[1], e.n[2], decide (e.n[3] = 1), decide (e.n[4] = 1)⟩ := by
      rw [EvM.at_get, EvM.at_get]
      exact ⟨q 1, q 2⟩
    have e3 := EvM.at_get (e := e) (i := 3) (by omega)
    have e4 := EvM.at_get (e := e) (i := 4) (by omega)
    have hst : x.step e = x.send ⟨e.n[1], e.n[2], decide (e.n[3] = 1), decide (e.n[4] = 1)⟩ (decide ((1 : Int) < e.n[3]) || decide ((1 : Int) < e.n[4])) := by
      rw [EvM.at_get, EvM.at_get, e3, e4]
      exact SpM.step2 hc9
    rw [hst]
    refine cw_seq ?_
    refine cw_mix [] [32, 33] [0, 1, 2, 3, 4, 5, 6, 7, 8, 9, 10, 11, 12, 13, 14, 15, 16, 17, 18, 19, 20, 21, 22, 23, 24, 25, 26, 27, 28, 29, 30, 31] Ty.mixed rfl rfl rfl rfl (by decide +kernel) ?_
    refine hw_pure rfl rfl (v_move rfl) rfl ?_
    refine hw_pure rfl rfl (v_fieldAddr0 Ty.fd62_2 rfl) rfl ?_
    refine hw_read rfl rfl rfl (v_load rfl (Var.at1 Ty.sc60 .here (GetN.lit rfl))) ?_
    refine hw_pure rfl rfl (v_indexAddr_vw (i := 1) Try.underlying60 (qTy) rfl rfl ((hD _ (by repeat (first | exact Sub.here | exact Sub.nil | assumption | refine Sub.there ?_))).n) rfl (by omega)) rfl ?_
    refine hw_read rfl rfl rfl (v_load rfl (Go.Sl.Vw.var (qTy) ((hD _ (by repeat (first | exact Sub.here | exact Sub.nil | assumption | refine Sub.there ?_))).n) (by omega))) ?_
    refine hw_pure rfl rfl (v_fieldAddr0 Ty.fd62_2 rfl) rfl ?_
    refine hw_read rfl rfl rfl (v_load rfl (Var.at1 Ty.sc60 .here (GetN.lit rfl))) ?_
    refine hw_pure rfl rfl (v_indexAddr_vw (i := 2) Try.underlying60 (qTy) rfl rfl ((hD _ (by repeat (first | exact Sub.here | exact Sub.nil | assumption | refine Sub.there ?_))).n) rfl (by omega)) rfl ?_
    refine hw_read rfl rfl rfl (v_load rfl (Go.Sl.Vw.var (qTy) ((hD _ (by repeat (first | exact Sub.here | exact Sub.nil | assumption | refine Sub.there ?_))).n) (by omega))) ?_
    refine hw_pure rfl rfl (v_fieldAddr0 Ty.fd62_2 rfl) rfl ?_
    refine hw_read rfl rfl rfl (v_load rfl (Var.at1 Ty.sc60 .here (GetN.lit rfl))) ?_
    refine hw_pure rfl rfl (v_indexAddr_vw (i := 3) Try.underlying60 (qTy) rfl rfl ((hD _ (by repeat (first | exact Sub.here | exact Sub.nil | assumption | refine Sub.there ?_))).n) rfl (by omega)) rfl ?_
    refine hw_read rfl rfl rfl (v_load rfl (Go.Sl.Vw.var (qTy) ((hD _ (by repeat (first | exact Sub.here | exact Sub.nil | assumption | refine Sub.there ?_))).n) (by omega))) ?_
    refine hw_pure rfl rfl (v_eql rfl rfl) rfl ?_
    refine hw_pure rfl rfl (v_fieldAddr0 Ty.fd62_2 rfl) rfl ?_
    refine hw_read rfl rfl rfl (v_load rfl (Var.at1 Ty.sc60 .here (GetN.lit rfl))) ?_
    refine hw_pure rfl rfl (v_indexAddr_vw (i := 4) Try.underlying60 (qTy) rfl rfl ((hD _ (by repeat (first | exact Sub.here | exact Sub.nil | assumption | refine Sub.there ?_))).n) rfl (by omega)) rfl ?_
    refine hw_read rfl rfl rfl (v_load rfl (Go.Sl.Vw.var (qTy) ((hD _ (by repeat (first | exact Sub.here | exact Sub.nil | assumption | refine Sub.there ?_))).n) (by omega))) ?_
    refine hw_pure rfl rfl (v_eql rfl rfl) rfl ?_
    refine hw_pure rfl rfl (v_build rfl (b_pk)) rfl ?_
    refine hw_pure rfl rfl (v_fieldAddr0 Ty.fd62_2 rfl) rfl ?_
    refine hw_read rfl rfl rfl (v_load rfl (Var.at1 Ty.sc60 .here (GetN.lit rfl))) ?_
    refine hw_pure rfl rfl (v_indexAddr_vw (i := 3) Try.underlying60 (qTy) rfl rfl ((hD _ (by repeat (first | exact Sub.here | exact Sub.nil | assumption | refine Sub.there ?_))).n) rfl (by omega)) rfl ?_
    refine hw_read rfl rfl rfl (v_load rfl (Go.Sl.Vw.var (qTy) ((hD _ (by repeat (first | exact Sub.here | exact Sub.nil | assumption | refine Sub.there ?_))).n) (by omega))) ?_
    refine hw_pure rfl rfl (v_gtr rfl rfl) rfl ?_
    refine hw_pure rfl rfl (v_move rfl) rfl ?_
    refine hw_dec 36 rfl (fun hc36 => ?_) (fun hc36 => ?_)
    refine hw_skip rfl rfl ?_
    refine hw_skip rfl rfl ?_
    refine hw_skip rfl rfl ?_
    refine hw_skip rfl rfl ?_
    refine hw_skip rfl rfl ?_
    refine hw_pure rfl rfl (v_pick_true rfl rfl) rfl ?_
    refine hw_nil ?_
    refine sw_nil ?_
    (refine ow_call rfl rfl rfl rfl (spSend_c (by repeat (first | exact Sel.here | apply Sel.there)) hO hw hok (by rw [EvM.at_get]; exact m1) hb) ?_; rintro _ _ ⟨x43, rfl, hq43, rfl⟩)
    refine ow_val rfl rfl (v_assign rfl) ?_
    refine ow_nil ?_
    refine xw_np ?_
    refine xw_then ?_
    refine cw_ret ?_
    refine xw_block_ret ?_
    refine xw_then_ret ?_
    refine ret1 rfl (res_tmp rfl) ?_
    rotate_left
    refine hw_pure rfl rfl (v_fieldAddr0 Ty.fd62_2 rfl) rfl ?_
    refine hw_read rfl rfl rfl (v_load rfl (Var.at1 Ty.sc60 .here (GetN.lit rfl))) ?_
    refine hw_pure rfl rfl (v_indexAddr_vw (i := 4) Try.underlying60 (qTy) rfl rfl ((hD _ (by repeat (first | exact Sub.here | exact Sub.nil | assumption | refine Sub.there ?_))).n) rfl (by omega)) rfl ?_
    refine hw_read rfl rfl rfl (v_load rfl (Go.Sl.Vw.var (qTy) ((hD _ (by repeat (first | exact Sub.here | exact Sub.nil | assumption | refine Sub.there ?_))).n) (by omega))) ?_
    refine hw_pure rfl rfl (v_gtr rfl rfl) rfl ?_
    refine hw_pure rfl rfl (v_pick_false rfl rfl) rfl ?_
    refine hw_nil ?_
    refine sw_nil ?_
    (refine ow_call rfl rfl rfl rfl (spSend_c (by repeat (first | exact Sel.here | apply Sel.there)) hO hw hok (by rw [EvM.at_get]; exact m1) hb) ?_; rintro _ _ ⟨x43, rfl, hq43, rfl⟩)
    refine ow_val rfl rfl (v_assign rfl) ?_
    refine ow_nil ?_
    refine xw_np ?_
    refine xw_then ?_
    refine cw_ret ?_
    refine xw_block_ret ?_
    refine xw_then_ret ?_
    refine ret1 rfl (res_tmp rfl) ?_
    rotate_left
    · rw [decide_eq_true hc36, Bool.true_or]
      exact ⟨x43, rfl, hq43, (by first | exact Cov.refl _ | (intro p; simp only [List.flatten_cons, List.flatten_nil, List.flatten_append, List.append_nil, List.nil_append, cnt_append, cnt_cons, cnt_nil, List.set_cons_zero, List.set_cons_succ, List.length_nil, List.length_cons, Nat.zero_add, List.append]; omega))⟩
    · rw [decide_eq_false hc36, Bool.false_or]
      exact ⟨x43, rfl, hq43, (by first | exact Cov.refl _ | (intro p; simp only [List.flatten_cons, List.flatten_nil, List.flatten_append, List.append_nil, List.nil_append, cnt_append, cnt_cons, cnt_nil, List.set_cons_zero, List.set_cons_succ, List.length_nil, List.length_cons, Nat.zero_add, List.append]; omega))⟩
  · have h3 : e.n.length = 3 := by rw [hc44] at hlen; have : (e.n.length : Int) = 3 := hlen; omega
    have e1 := EvM.at_get (e := e) (i := 1) (by omega)
    rw [SpM.step3 hc44]
    refine cw_seq ?_
    refine cw_region ?_
    refine ow_val rfl rfl (v_move rfl) ?_
    refine ow_val rfl rfl (v_fieldAddr0 Ty.fd62_2 rfl) ?_
    refine ow_val rfl rfl (v_load rfl (Var.at1 Ty.sc60 .here (GetN.lit rfl))) ?_
    refine ow_val rfl rfl (v_indexAddr_vw (i := 1) Try.underlying60 (qTy) rfl rfl ((hD _ (by repeat (first | exact Sub.here | exact Sub.nil | assumption | refine Sub.there ?_))).n) rfl (by omega)) ?_
    refine ow_val rfl rfl (v_load rfl (Go.Sl.Vw.var (qTy) ((hD _ (by repeat (first | exact Sub.here | exact Sub.nil | assumption | refine Sub.there ?_))).n) (by omega))) ?_
    (refine ow_call rfl rfl rfl rfl (spRecv_c (n := e.n[1]) (by repeat (first | exact Sel.here | apply Sel.there)) hO hw (by rw [e1]; exact ⟨q1.1, m1⟩)) ?_; rintro _ _ ⟨x51, rfl, hq51, rfl⟩)
    refine ow_val rfl rfl (v_assign rfl) ?_
    refine ow_nil ?_
    refine xw_then ?_
    refine cw_ret ?_
    refine xw_block_ret ?_
    refine xw_then_ret ?_
    refine ret1 rfl (res_tmp rfl) ?_
    rw [← e1]
    exact ⟨x51, rfl, hq51, (by first | exact Cov.refl _ | (intro p; simp only [List.flatten_cons, List.flatten_nil, List.flatten_append, List.append_nil, List.nil_append, cnt_append, cnt_cons, cnt_nil, List.set_cons_zero, List.set_cons_succ, List.length_nil, List.length_cons, Nat.zero_add, List.append]; omega))⟩
  · have h2 : 2 ≤ e.n.length := by rw [hc52] at hlen; have : (e.n.length : Int) = 2 := hlen; omega
    obtain ⟨q', cs, cc, rfl, hS, hC⟩ := hO
    refine cw_flat ([(b3, .cells (e.cells p).toArray 62 (0, 0))] :: [(b, .cells (pre ++ (x.cells q' ++ post)).toArray T (0, 0))] :: cs :: cc :: F) (.of_eq (by simp [EvM.cells])) ?_
    unfold SpM.cells
    refine cw_seq ?_
    refine cw_region ?_
    refine ow_val rfl rfl (v_move rfl) ?_
    refine ow_val rfl rfl (v_nilCheck rfl) ?_
    refine ow_val rfl rfl (v_fieldAddr Ty.fd66_1 rfl) ?_
    refine ow_val rfl rfl (v_load rfl (Var.at1 Ty.sc64 (.there .here) ((sp_get (j := 1) rfl)))) ?_
    refine ow_val rfl rfl (v_makeFunc rfl rfl) ?_
    refine ow_val rfl rfl (v_call rfl rfl (indexPk_c (p := fun a => decide (a.num = e.at 1)) (cs := [.pointer (some ⟨b3, 0, none⟩)]) (hS.vw (by repeat (first | exact Sub.here | exact Sub.nil | assumption | refine Sub.there ?_))) (by omega) (fun a _ => fold1_c (by repeat (first | exact Sub.here | exact Sub.nil | assumption | refine Sub.there ?_)) (hD _ (by repeat (first | exact Sub.here | exact Sub.nil | assumption | refine Sub.there ?_))) h2))) ?_
    refine ow_val rfl rfl (v_assign rfl) ?_
    refine ow_nil ?_
    refine xw_then ?_
    rw [SpM.step45 (by omega)]
    cases hfi : x.sent.findIdx? (fun p => decide (p.num = e.at 1)) with
    | none =>
      have hi : idxF (fun a : PkM => decide (a.num = e.at 1)) x.sent = -1 := by unfold idxF; rw [hfi]
      rw [hi]
      refine cw_seq ?_
      refine cw_seq ?_
      refine cw_region ?_
      refine ow_val rfl rfl (v_move rfl) ?_
      refine ow_val rfl rfl (v_lss rfl rfl) ?_
      refine ow_nil ?_
      refine xw_then ?_
      refine cw_true rfl ?_
      refine cw_seq ?_
      refine cw_region ?_
      refine ow_val rfl rfl (v_assign rfl) ?_
      refine ow_nil ?_
      refine xw_then ?_
      refine cw_ret ?_
      refine xw_then_ret ?_
      refine xw_block_ret ?_
      refine xw_then_ret ?_
      refine ret1 rfl (res_tmp rfl) ?_
      refine ⟨_, rfl, ⟨q', cs, cc, rfl, hS, hC⟩, ?_⟩
      dsimp only [SpM.cells, List.set]
      exact (by first | exact Cov.refl _ | (intro p; simp only [List.flatten_cons, List.flatten_nil, List.flatten_append, List.append_nil, List.nil_append, cnt_append, cnt_cons, cnt_nil, List.set_cons_zero, List.set_cons_succ, List.length_nil, List.length_cons, Nat.zero_add, List.append]; omega))
    | some i =>
      have hi : idxF (fun a : PkM => decide (a.num = e.at 1)) x.sent = i := by unfold idxF; rw [hfi]
      rw [hi]
      have hil : i < x.sent.length := (List.findIdx?_eq_some_iff_getElem.1 hfi).1
      refine cw_seq ?_
      refine cw_seq ?_
      refine cw_region ?_
      refine ow_val rfl rfl (v_move rfl) ?_
      refine ow_val rfl rfl (v_lss rfl rfl) ?_
      refine ow_nil ?_
      refine xw_then ?_
      refine cw_false rfl ?_
      refine cw_skip ?_
      refine xw_then ?_
      refine cw_region ?_
      refine ow_val rfl rfl (v_move rfl) ?_
      refine ow_val rfl rfl (v_move rfl) ?_
      refine ow_val rfl rfl (v_nilCheck rfl) ?_
      refine ow_val rfl rfl (v_fieldAddr Ty.fd66_1 rfl) ?_
      refine ow_val rfl rfl (v_load rfl (Var.at1 Ty.sc64 (.there .here) ((sp_get (j := 1) rfl)))) ?_
      refine ow_val rfl rfl (v_move rfl) ?_
      refine ow_val rfl rfl (v_move rfl) ?_
      refine ow_val rfl rfl (v_add rfl rfl (nw_i64 (by omega) (by omega))) ?_
      (refine ow_call rfl rfl rfl rfl (deletePk_c (i := i) (j := i + 1) rfl (by omega) (by repeat (first | exact Sel.here | apply Sel.there)) hS (by omega) (by omega) (by omega)) ?_; rintro _ _ ⟨x71, rfl, hq71, rfl⟩)
      refine ow_val rfl rfl (v_nilCheck rfl) ?_
      refine ow_val rfl rfl (v_fieldAddr Ty.fd66_1 rfl) ?_
      refine ow_store1 rfl rfl rfl rfl Ty.sc64 (.there .here) ((sp_set (j := 1) (Nat.le_of_ble_eq_true rfl))) ?_
      refine ow_nil ?_
      refine xw_block ?_
      refine xw_then ?_
      refine cw_seq ?_
      refine cw_region ?_
      refine ow_val rfl rfl (v_assign rfl) ?_
      refine ow_nil ?_
      refine xw_then ?_
      refine cw_ret ?_
      refine ret1 rfl (res_tmp rfl) ?_
      refine ⟨_, rfl, ⟨⟨x71.1, x71.2.1, q'.ca, q'.cc⟩, x71.2.2, cc, rfl, hq71, hC⟩, ?_⟩
      dsimp only [SpM.cells, List.set]
      exact (by first | exact Cov.refl _ | (intro p; simp only [List.flatten_cons, List.flatten_nil, List.flatten_append, List.append_nil, List.nil_append, cnt_append, cnt_cons, cnt_nil, List.set_cons_zero, List.set_cons_succ, List.length_nil, List.length_cons, Nat.zero_add, List.append]; omega))
  · have h2 : 2 ≤ e.n.length := by rw [hc52] at hlen; have : (e.n.length : Int) = 3 := hlen; omega
    obtain ⟨q', cs, cc, rfl, hS, hC⟩ := hO
    refine cw_flat ([(b3, .cells (e.cells p).toArray 62 (0, 0))] :: [(b, .cells (pre ++ (x.cells q' ++ post)).toArray T (0, 0))] :: cs :: cc :: F) (.of_eq (by simp [EvM.cells])) ?_
    unfold SpM.cells
    refine cw_seq ?_
    refine cw_region ?_
    refine ow_val rfl rfl (v_move rfl) ?_
    refine ow_val rfl rfl (v_nilCheck rfl) ?_
    refine ow_val rfl rfl (v_fieldAddr Ty.fd66_1 rfl) ?_
    refine ow_val rfl rfl (v_load rfl (Var.at1 Ty.sc64 (.there .here) ((sp_get (j := 1) rfl)))) ?_
    refine ow_val rfl rfl (v_makeFunc rfl rfl) ?_
    refine ow_val rfl rfl (v_call rfl rfl (indexPk_c (p := fun a => decide (a.num = e.at 1)) (cs := [.pointer (some ⟨b3, 0, none⟩)]) (hS.vw (by repeat (first | exact Sub.here | exact Sub.nil | assumption | refine Sub.there ?_))) (by omega) (fun a _ => fold1_c (by repeat (first | exact Sub.here | exact Sub.nil | assumption | refine Sub.there ?_)) (hD _ (by repeat (first | exact Sub.here | exact Sub.nil | assumption | refine Sub.there ?_))) h2))) ?_
    refine ow_val rfl rfl (v_assign rfl) ?_
    refine ow_nil ?_
    refine xw_then ?_
    rw [SpM.step45 (by omega)]
    cases hfi : x.sent.findIdx? (fun p => decide (p.num = e.at 1)) with
    | none =>
      have hi : idxF (fun a : PkM => decide (a.num = e.at 1)) x.sent = -1 := by unfold idxF; rw [hfi]
      rw [hi]
      refine cw_seq ?_
      refine cw_seq ?_
      refine cw_region ?_
      refine ow_val rfl rfl (v_move rfl) ?_
      refine ow_val rfl rfl (v_lss rfl rfl) ?_
      refine ow_nil ?_
      refine xw_then ?_
      refine cw_true rfl ?_
      refine cw_seq ?_
      refine cw_region ?_
      refine ow_val rfl rfl (v_assign rfl) ?_
      refine ow_nil ?_
      refine xw_then ?_
      refine cw_ret ?_
      refine xw_then_ret ?_
      refine xw_block_ret ?_
      refine xw_then_ret ?_
      refine ret1 rfl (res_tmp rfl) ?_
      refine ⟨_, rfl, ⟨q', cs, cc, rfl, hS, hC⟩, ?_⟩
      dsimp only [SpM.cells, List.set]
      exact (by first | exact Cov.refl _ | (intro p; simp only [List.flatten_cons, List.flatten_nil, List.flatten_append, List.append_nil, List.nil_append, cnt_append, cnt_cons, cnt_nil, List.set_cons_zero, List.set_cons_succ, List.length_nil, List.length_cons, Nat.zero_add, List.append]; omega))
    | some i =>
      have hi : idxF (fun a : PkM => decide (a.num = e.at 1)) x.sent = i := by unfold idxF; rw [hfi]
      rw [hi]
      have hil : i < x.sent.length := (List.findIdx?_eq_some_iff_getElem.1 hfi).1
      refine cw_seq ?_
      refine cw_seq ?_
      refine cw_region ?_
      refine ow_val rfl rfl (v_move rfl) ?_
      refine ow_val rfl rfl (v_lss rfl rfl) ?_
      refine ow_nil ?_
      refine xw_then ?_
      refine cw_false rfl ?_
      refine cw_skip ?_
      refine xw_then ?_
      refine cw_region ?_
      refine ow_val rfl rfl (v_move rfl) ?_
      refine ow_val rfl rfl (v_move rfl) ?_
      refine ow_val rfl rfl (v_nilCheck rfl) ?_
      refine ow_val rfl rfl (v_fieldAddr Ty.fd66_1 rfl) ?_
      refine ow_val rfl rfl (v_load rfl (Var.at1 Ty.sc64 (.there .here) ((sp_get (j := 1) rfl)))) ?_
      refine ow_val rfl rfl (v_move rfl) ?_
      refine ow_val rfl rfl (v_move rfl) ?_
      refine ow_val rfl rfl (v_add rfl rfl (nw_i64 (by omega) (by omega))) ?_
      (refine ow_call rfl rfl rfl rfl (deletePk_c (i := i) (j := i + 1) rfl (by omega) (by repeat (first | exact Sel.here | apply Sel.there)) hS (by omega) (by omega) (by omega)) ?_; rintro _ _ ⟨x71, rfl, hq71, rfl⟩)
      refine ow_val rfl rfl (v_nilCheck rfl) ?_
      refine ow_val rfl rfl (v_fieldAddr Ty.fd66_1 rfl) ?_
      refine ow_store1 rfl rfl rfl rfl Ty.sc64 (.there .here) ((sp_set (j := 1) (Nat.le_of_ble_eq_true rfl))) ?_
      refine ow_nil ?_
      refine xw_block ?_
      refine xw_then ?_
      refine cw_seq ?_
      refine cw_region ?_
      refine ow_val rfl rfl (v_assign rfl) ?_
      refine ow_nil ?_
      refine xw_then ?_
      refine cw_ret ?_
      refine ret1 rfl (res_tmp rfl) ?_
      refine ⟨_, rfl, ⟨⟨x71.1, x71.2.1, q'.ca, q'.cc⟩, x71.2.2, cc, rfl, hq71, hC⟩, ?_⟩
      dsimp only [SpM.cells, List.set]
      exact (by first | exact Cov.refl _ | (intro p; simp only [List.flatten_cons, List.flatten_nil, List.flatten_append, List.append_nil, List.nil_append, cnt_append, cnt_cons, cnt_nil, List.set_cons_zero, List.set_cons_succ, List.length_nil, List.length_cons, Nat.zero_add, List.append]; omega))
  · obtain ⟨q', cs, cc, rfl, hS, hC⟩ := hO
    refine cw_flat ([(b3, .cells (e.cells p).toArray 62 (0, 0))] :: [(b, .cells (pre ++ (x.cells q' ++ post)).toArray T (0, 0))] :: cs :: cc :: F) (.of_eq (by simp [EvM.cells])) ?_
    unfold SpM.cells EvM.cells
    have hO2 : SpAt pre post T x b ([(b, .cells (pre ++ (x.cells q' ++ post)).toArray T (0, 0))] ++ (cs ++ cc)) := ⟨q', cs, cc, rfl, hS, hC⟩
    unfold SpM.cells at hO2
    refine cw_seq ?_
    refine cw_region ?_
    refine ow_val rfl rfl (v_eql rfl rfl) ?_
    refine ow_val rfl rfl (v_assign rfl) ?_
    refine ow_nil ?_
    refine xw_then ?_
    refine cw_dec rfl (fun hc74 => ?_) (fun hc74 => ?_)
    refine cw_region ?_
    refine ow_val rfl rfl (v_move rfl) ?_
    refine ow_val rfl rfl (v_move rfl) ?_
    refine ow_val rfl rfl (v_nilCheck rfl) ?_
    refine ow_val rfl rfl (v_fieldAddr Ty.fd66_1 rfl) ?_
    refine ow_store1 rfl rfl rfl rfl Ty.sc64 (.there .here) ((sp_set (j := 1) (Nat.le_of_ble_eq_true rfl))) ?_
    refine ow_val rfl rfl (v_nilCheck rfl) ?_
    refine ow_val rfl rfl (v_fieldAddr Ty.fd66_4 rfl) ?_
    refine ow_store1 rfl rfl rfl rfl Ty.sc4 (.there .here) ((sp_set (j := 4) (Nat.le_of_ble_eq_true rfl))) ?_
    refine ow_nil ?_
    refine xw_block ?_
    refine xw_then ?_
    refine cw_seq ?_
    refine cw_region ?_
    refine ow_val rfl rfl (v_assign rfl) ?_
    refine ow_nil ?_
    refine xw_then ?_
    refine cw_ret ?_
    refine ret1 rfl (res_tmp rfl) ?_
    rotate_left
    refine cw_seq ?_
    refine cw_region ?_
    refine ow_val rfl rfl (v_eql rfl rfl) ?_
    refine ow_val rfl rfl (v_assign rfl) ?_
    refine ow_nil ?_
    refine xw_then ?_
    refine cw_dec rfl (fun hc82 => ?_) (fun hc82 => ?_)
    rotate_left; (exfalso; omega); rotate_right
    refine cw_seq ?_
    refine cw_region ?_
    refine ow_val rfl rfl (v_move rfl) ?_
    (refine ow_call rfl rfl rfl rfl (spCame_c hO2 (Sub.app (by repeat (first | exact Sub.here | exact Sub.nil | assumption | refine Sub.there ?_)) (Sub.app (by repeat (first | exact Sub.here | exact Sub.nil | assumption | refine Sub.there ?_)) (by repeat (first | exact Sub.here | exact Sub.nil | assumption | refine Sub.there ?_)))) hw) ?_; rintro _ _ ⟨x85, rfl, hq85, rfl⟩)
    refine ow_val rfl rfl (v_assign rfl) ?_
    refine ow_nil ?_
    refine xw_then ?_
    rotate_left
    · rw [SpM.step6 hc74]
      refine ⟨_, rfl, ⟨⟨none, 0, q'.ca, q'.cc⟩, [], cc, rfl, Ls.nil, hC⟩, ?_⟩
      dsimp only [SpM.cells, List.set, List.length_nil]
      exact (by first | exact Cov.refl _ | (intro p; simp only [List.flatten_cons, List.flatten_nil, List.flatten_append, List.append_nil, List.nil_append, cnt_append, cnt_cons, cnt_nil, List.set_cons_zero, List.set_cons_succ, List.length_nil, List.length_cons, Nat.zero_add, List.append]; omega))
    · have h2 : e.n.length = 2 := by rw [hc82] at hlen; have : (e.n.length : Int) = 2 := hlen; omega
      have e1 := EvM.at_get (e := e) (i := 1) (by omega)
      have n1 : 0 ≤ e.n[1] ∧ e.n[1] ≤ 4611686018427387903 := by rw [e1]; exact ⟨q1.1, m1⟩
      obtain ⟨bs, ci⟩ := x85
      dsimp only at hq85 ⊢
      have hws := set32 hw.good hw.len
      have hbl := hw.bl
      unfold inQ at hbl
      have hcl := cut0_len hw.good (n := e.n[1]) ⟨n1.1, by omega⟩
      have hrn : RgIn ⟨0, e.n[1]⟩ := by unfold RgIn; dsimp only; omega
      have hwc := set32 (l := cutE x.came ⟨0, e.n[1]⟩) (by
        unfold cutE
        split
        · rename_i hr
          exact (cut_spec hw.good ⟨Int.le_refl _, hr, by dsimp only; omega⟩).1
        · exact hw.good) (Nat.le_trans hcl hw.len)
      have hlm : ((cutE x.came ⟨0, e.n[1]⟩).length : Int) ≤ max (32 : Int) 1 := by have := hw.len; omega
      rw [SpM.step7 hc82, ← e1]
      refine cw_seq ?_
      refine cw_region ?_
      refine ow_val rfl rfl (v_move rfl) ?_
      refine ow_val rfl rfl (v_fieldAddr0 Ty.fd62_2 rfl) ?_
      refine ow_val rfl rfl (v_load rfl (Var.at1 Ty.sc60 (.there .here) (GetN.lit rfl))) ?_
      refine ow_val rfl rfl (v_indexAddr_vw (i := 1) Try.underlying60 (qTy) rfl rfl ((hD _ (by repeat (first | exact Sub.here | exact Sub.nil | assumption | refine Sub.there ?_))).n) rfl (by omega)) ?_
      refine ow_val rfl rfl (v_load rfl (Go.Sl.Vw.var (qTy) ((hD _ (by repeat (first | exact Sub.here | exact Sub.nil | assumption | refine Sub.there ?_))).n) (by omega))) ?_
      refine ow_val rfl rfl (v_build rfl (b_rng1)) ?_
      (refine ow_call rfl rfl rfl rfl (setCutOk_l (r := ⟨0, e.n[1]⟩) (by repeat (first | exact Sel.here | apply Sel.there)) hq85 hws hrn hlm) ?_; rintro _ _ ⟨x92, rfl, hq92, rfl⟩)
      refine ow_nil ?_
      refine xw_then ?_
      refine cw_seq ?_
      refine cw_region ?_
      refine ow_val rfl rfl (v_move rfl) ?_
      refine ow_val rfl rfl (v_move rfl) ?_
      (refine ow_call rfl rfl rfl rfl (setList_l (l := cutE x.came ⟨0, e.n[1]⟩) (by assumption) (by repeat (first | exact Sub.here | exact Sub.nil | assumption | refine Sub.there ?_)) hwc) ?_; rintro _ _ ⟨x95, rfl, hq95, rfl⟩)
      refine ow_val rfl rfl (v_nilCheck rfl) ?_
      refine ow_val rfl rfl (v_fieldAddr Ty.fd66_2 rfl) ?_
      refine ow_store1 rfl rfl rfl rfl Ty.sc27 (.there (.there (.there .here))) ((sp_set (j := 2) (Nat.le_of_ble_eq_true rfl))) ?_
      refine ow_nil ?_
      refine xw_then ?_
      refine cw_mix [] [12] [0, 1, 2, 3, 4, 5, 6, 7, 8, 9, 10, 11] Ty.mixed rfl rfl rfl rfl (by decide +kernel) ?_
      refine hw_pure rfl rfl (v_move rfl) rfl ?_
      refine hw_pure rfl rfl (v_move rfl) rfl ?_
      refine hw_pure rfl rfl (v_nilCheck rfl) rfl ?_
      refine hw_pure rfl rfl (v_fieldAddr Ty.fd66_3 rfl) rfl ?_
      refine hw_read rfl rfl rfl (v_load rfl (Var.at1 Ty.sc22 (.there (.there (.there .here))) ((sp_get (j := 3) rfl)))) ?_
      refine hw_pure rfl rfl (v_fieldAddr0 Ty.fd62_2 rfl) rfl ?_
      refine hw_read rfl rfl rfl (v_load rfl (Var.at1 Ty.sc60 (.there (.there .here)) (GetN.lit rfl))) ?_
      refine hw_pure rfl rfl (v_indexAddr_vw (i := 1) Try.underlying60 (qTy) rfl rfl ((hD _ (by repeat (first | exact Sub.here | exact Sub.nil | assumption | refine Sub.there ?_))).n) rfl (by omega)) rfl ?_
      refine hw_read rfl rfl rfl (v_load rfl (Go.Sl.Vw.var (qTy) ((hD _ (by repeat (first | exact Sub.here | exact Sub.nil | assumption | refine Sub.there ?_))).n) (by omega))) ?_
      refine hw_pure rfl rfl (v_max rfl rfl) rfl ?_
      refine hw_pure rfl rfl (v_nilCheck rfl) rfl ?_
      refine hw_pure rfl rfl (v_fieldAddr Ty.fd66_3 rfl) rfl ?_
      refine hw_nil ?_
      refine sw_nil ?_
      refine ow_store1 rfl rfl rfl rfl Ty.sc22 (.there (.there (.there .here))) ((sp_set (j := 3) (Nat.le_of_ble_eq_true rfl))) ?_
      refine ow_nil ?_
      refine xw_np ?_
      refine xw_block ?_
      refine xw_then ?_
      refine cw_seq ?_
      refine cw_region ?_
      refine ow_val rfl rfl (v_assign rfl) ?_
      refine ow_nil ?_
      refine xw_then ?_
      refine cw_ret ?_
      refine ret1 rfl (res_tmp rfl) ?_
      refine ⟨_, rfl, ⟨⟨q'.sa, q'.sc, x95.1, x95.2.1⟩, cs, x95.2.2, rfl, hS, hq95⟩, ?_⟩
      dsimp only [SpM.cells, List.set]
      exact (by first | exact Cov.refl _ | (intro p; simp only [List.flatten_cons, List.flatten_nil, List.flatten_append, List.append_nil, List.nil_append, cnt_append, cnt_cons, cnt_nil, List.set_cons_zero, List.set_cons_succ, List.length_nil, List.length_cons, Nat.zero_add, List.append]; omega))
end Go.Proofs.Ytckdhelnafjddaa
