/- The rules' checker: what it is, plainly; its small functions. Conditions: numbers fit their types. -/
import Derived.Test.YtckdhelnafjddaaRpFl
namespace Go.Proofs.Ytckdhelnafjddaa
open Go Go.Sl Go.Proofs Go.RowKit Go.ChangeShapes Go.WideShapes Go.ChangeAt
set_option maxRecDepth 20000
set_option linter.unusedVariables false
set_option linter.unusedSimpArgs false

theorem get_left {l r : List Value} {T : TypeId} {fr : Nat × Nat} {off : Nat} {vs : List Value} (h : GetN (.cells l.toArray T fr) off vs) : GetN (.cells (l ++ r).toArray T fr) off vs := by
  obtain ⟨cs, T', fr', h1, h2⟩ := h
  injection h1 with h3 h4 h5
  subst h3 h4 h5
  refine ⟨_, _, _, rfl, fun i v hv => ?_⟩
  have h6 := h2 i v hv
  rw [List.getElem?_toArray] at h6 ⊢
  rw [List.getElem?_append_left (List.getElem?_eq_some_iff.1 h6).1]
  exact h6
structure CkM where
  st : StM
  ac : List Int
  lf : Int
structure CkM.WF (c : CkM) : Prop where
  st : c.st.WF
  ac : c.ac.length = 3
  aci : ∀ a ∈ c.ac, -1 ≤ a ∧ a ≤ 9223372036854775807
  lf : 0 ≤ c.lf ∧ c.lf ≤ 2
def lostM (ac : List Int) (sp num why : Int) : Bool :=
  if 3 ≤ sp then false else if ac.getD sp.toNat 0 < 0 ∨ ac.getD sp.toNat 0 ≤ num then false else decide (why = 0) == decide (3 ≤ ac.getD sp.toNat 0 - num)
def sentM (c : CkM) (size : Int) (fl : Bool) : Int :=
  if 4 ≤ c.st.ph ∨ fl = true ∧ c.st.ph = 3 then 5 else
  if fl = true ∧ c.lf = 0 ∧ (c.st.mt.getD 4 0 < size ∨ IntKind.u64.wrap (c.st.mt.getD 4 0 - size) < c.st.flight) then 4 else 0
def CkM.pre (c : CkM) (e : EvM) : Int :=
  if e.k = 1 then (if e.at 0 < c.st.ph then 5 else 0) else
  if e.k = 5 then (if lostM c.ac (e.at 0) (e.at 1) (e.at 2) = true then 0 else 2) else
  if e.k = 2 then sentM c (e.at 2) (decide (e.at 4 = 1)) else 0
def CkM.post (c : CkM) (e : EvM) (was : Int) : CkM × Int :=
  if e.k = 4 then ({ c with ac := c.ac.set (e.at 0).toNat (max (c.ac.getD (e.at 0).toNat 0) (e.at 1)) }, 0) else
  if e.k = 2 then ({ c with lf := if e.at 4 = 1 ∧ 0 < c.lf then c.lf - 1 else c.lf }, 0) else
  if e.k = 8 then ({ c with lf := if was < e.at 7 then 2 else c.lf }, if e.at 5 ≠ c.st.flight then 3 else 0) else
  if e.k = 9 then (c, if e.at 1 < e.at 2 ∨ e.at 3 < e.at 4 then 6 else 0) else (c, 0)
def CkM.step (c : CkM) (e : EvM) : CkM × Int :=
  if c.pre e ≠ 0 then (c, c.pre e) else if (c.st.step e).2 ≠ 0 then (c, 1) else
  CkM.post { c with st := (c.st.step e).1 } e (c.st.mt.getD 7 0)
def CkM.zero : CkM := ⟨StM.zero, [-1, -1, -1], 0⟩
/-- how many, and what of the first that breaks one -/
def runCk : CkM → List EvM → Nat × Int
  | _, [] => (0, 0)
  | c, e :: l => if (c.step e).2 ≠ 0 then (0, (c.step e).2) else ((runCk (c.step e).1 l).1 + 1, (runCk (c.step e).1 l).2)
theorem EvM.at_big {e : EvM} {i : Nat} (h : ¬ i < e.n.length) : e.at i = 0 := by
  unfold EvM.at
  rw [List.getD_eq_getElem?_getD, List.getElem?_eq_none (by omega)]
  rfl
theorem EvM.at_q {e : EvM} (h : e.ok) (i : Nat) : inQ (e.at i) := by
  by_cases hi : i < e.n.length
  · rw [← EvM.at_get hi]
    exact h.n _ (List.getElem_mem hi)
  · rw [EvM.at_big hi]
    exact ⟨by decide, by decide⟩
set_option maxHeartbeats 4000000 in
theorem evNum_c {B : Nat} {w0 : World} {G : List Hp} {e : EvM} {p : EvP} {i : Nat} (hE : EvIn (St B w0 G) e p) (hi : i ≤ 1000) :
    Go.Sl.Fn Try.prog 80 #[.agg (e.cells p).toArray, .int .i64 (i : Int)] B w0 G fun u G' => u = .int .u64 (e.at i) ∧ G' = G := by
  refine Fn.pure ?_
  have hcp : ∀ u ∈ e.cells p, u.oneCell' = true := EvM.cells_one
  have hclp : (e.cells p).length = 4 := rfl
  have hV := hE.n
  refine fn_enter Try.func80 rfl (by kernel_rfl) Try.ntmps80 (by simp) ?_
  refine cw_seq ?_
  refine cw_region ?_
  (refine ow_box rfl rfl rfl rfl ?_; intro b2)
  refine ow_val rfl rfl (v_assign rfl) ?_
  refine ow_nil ?_
  refine xw_then ?_
  refine cw_seq ?_
  refine cw_seq ?_
  refine cw_region ?_
  refine ow_val rfl rfl (v_move rfl) ?_
  refine ow_val rfl rfl (v_lss rfl rfl) ?_
  refine ow_val rfl rfl (v_move rfl) ?_
  refine ow_dec 7 rfl (fun hc7 => ?_) (fun hc7 => ?_)
  (exfalso; omega)
  refine ow_val rfl rfl (v_move rfl) ?_
  refine ow_val rfl rfl (v_fieldAddr0 Ty.fd62_2 rfl) ?_
  refine ow_val rfl rfl (v_load rfl (Var.at1 Ty.sc60 .here ((GetN.one rfl)))) ?_
  refine ow_val rfl rfl (v_len rfl Try.underlying60 rfl) ?_
  refine ow_val rfl rfl (v_geq rfl rfl) ?_
  refine ow_val rfl rfl (v_pick_false rfl rfl) ?_
  refine ow_nil ?_
  refine xw_then ?_
  refine cw_dec rfl (fun hc13 => ?_) (fun hc13 => ?_)
  refine cw_seq ?_
  refine cw_region ?_
  refine ow_val rfl rfl (v_assign rfl) ?_
  refine ow_nil ?_
  refine xw_then ?_
  refine cw_ret ?_
  refine xw_then_ret ?_
  refine ret1 rfl (res_tmp rfl) ?_
  rotate_left
  refine cw_skip ?_
  refine xw_then ?_
  refine cw_seq ?_
  refine cw_region ?_
  refine ow_val rfl rfl (v_fieldAddr0 Ty.fd62_2 rfl) ?_
  refine ow_val rfl rfl (v_load rfl (Var.at1 Ty.sc60 .here ((GetN.one rfl)))) ?_
  refine ow_val rfl rfl (v_move rfl) ?_
  refine ow_val rfl rfl (v_indexAddr_vw Try.underlying60 (qTy) rfl rfl (by assumption) rfl (by omega)) ?_
  refine ow_val rfl rfl (v_load rfl (Go.Sl.Vw.var (qTy) (hV.cov (by first | exact Cov.refl _ | (intro p; simp only [List.flatten_cons, List.flatten_nil, List.flatten_append, List.append_nil, List.nil_append, cnt_append, cnt_cons, cnt_nil, List.set_cons_zero, List.set_cons_succ, List.length_nil, List.length_cons, Nat.zero_add, List.append]; omega))) (by omega))) ?_
  refine ow_val rfl rfl (v_assign rfl) ?_
  refine ow_nil ?_
  refine xw_then ?_
  refine cw_ret ?_
  refine ret1 rfl (res_tmp rfl) ?_
  rotate_left
  · exact ⟨by rw [EvM.at_big (by omega)], (by first | exact Cov.refl _ | (intro p; simp only [List.flatten_cons, List.flatten_nil, List.flatten_append, List.append_nil, List.nil_append, cnt_append, cnt_cons, cnt_nil, List.set_cons_zero, List.set_cons_succ, List.length_nil, List.length_cons, Nat.zero_add, List.append]; omega))⟩
  · exact ⟨congrArg (Value.int .u64) (EvM.at_get (by omega)), (by first | exact Cov.refl _ | (intro p; simp only [List.flatten_cons, List.flatten_nil, List.flatten_append, List.append_nil, List.nil_append, cnt_append, cnt_cons, cnt_nil, List.set_cons_zero, List.set_cons_succ, List.length_nil, List.length_cons, Nat.zero_add, List.append]; omega))⟩
theorem wrap_q {n : Int} (h : 0 ≤ n ∧ n ≤ 18446744073709551615) : IntKind.u64.wrap n = n := by
  show n % 18446744073709551616 = n
  omega
def CkM.tl (c : CkM) : List Value := c.ac.map (Value.int .i64) ++ [.int .i64 c.lf]
def CkM.cells (c : CkM) (p : StP) : List Value := c.st.cells p ++ c.tl
theorem ck_st {c : CkM} {p : StP} {T : TypeId} {fr : Nat × Nat} {off : Nat} {vs : List Value} (h : GetN (.cells (c.st.cells p).toArray T fr) off vs) : GetN (.cells (c.cells p).toArray T fr) off vs := get_left h
theorem ck_ac {c : CkM} {p : StP} {T : TypeId} {fr : Nat × Nat} (hw : c.WF) {i : Nat} (hi : i < 3) : GetN (.cells (c.cells p).toArray T fr) (37 + i * 1) [.int .i64 (c.ac.getD i 0)] := by
  have h1 := StM.cells_len (p := p) hw.st
  have h2 := hw.ac
  rw [Nat.mul_one]
  refine GetN.one ?_
  unfold CkM.cells CkM.tl
  rw [List.getElem?_toArray, List.getElem?_append_right (by omega), h1, Nat.add_sub_cancel_left, List.getElem?_append_left (by rw [List.length_map]; omega), List.getElem?_map, List.getElem?_eq_getElem (by omega)]
  rw [List.getD_eq_getElem?_getD, List.getElem?_eq_getElem (by omega)]
  rfl
theorem ck_lf {c : CkM} {p : StP} {T : TypeId} {fr : Nat × Nat} (hw : c.WF) : GetN (.cells (c.cells p).toArray T fr) 40 [.int .i64 c.lf] := by
  have h1 := StM.cells_len (p := p) hw.st
  have h2 := hw.ac
  refine GetN.one ?_
  unfold CkM.cells CkM.tl
  rw [List.getElem?_toArray, List.getElem?_append_right (by omega), h1, List.getElem?_append_right (by rw [List.length_map]; omega), List.length_map, h2]
  rfl
theorem getD_aci {c : CkM} (hw : c.WF) (i : Nat) : -1 ≤ c.ac.getD i 0 ∧ c.ac.getD i 0 ≤ 9223372036854775807 := by
  rw [List.getD_eq_getElem?_getD]
  cases h : c.ac[i]? with
  | none => exact ⟨by decide, by decide⟩
  | some a => exact hw.aci a (List.mem_of_getElem? h)
theorem ck_mt {c : CkM} {p : StP} {T : TypeId} {fr : Nat × Nat} (hw : c.WF) {i : Nat} (hi : i < 8) : GetN (.cells (c.cells p).toArray T fr) (16 + i * 1) [.int .u64 (c.st.mt.getD i 0)] := by
  have h2 := hw.st.mt.1
  rw [Nat.mul_one]
  refine ck_st (get_mt.sub fun j v hv => ?_)
  cases j with
  | zero =>
    have hi' : i < c.st.mt.length := by omega
    have h3 : c.st.mt[i]? = some (c.st.mt.getD i 0) := by
      rw [List.getD_eq_getElem?_getD, List.getElem?_eq_getElem hi']
      rfl
    rw [Nat.add_zero, List.getElem?_map, h3]
    exact hv
  | succ j => simp at hv
set_option maxHeartbeats 4000000 in
theorem ckLost_c {B : Nat} {w0 : World} {G : List Hp} {c : CkM} {p : StP} {b : Nat} {sp num why : Int} (hs : Sub [(b, .cells (c.cells p).toArray 132 (0, 0))] G) (hw : c.WF) (h1 : inQ sp) (h2 : inQ num) (h3 : inQ why) :
    Go.Sl.Fn Try.prog 81 #[.pointer (some ⟨b, 0, none⟩), .int .u64 sp, .int .u64 num, .int .u64 why] B w0 G fun u G' => u = .bool (lostM c.ac sp num why) ∧ G' = G := by
  refine Fn.pure ?_
  refine fn_enter Try.func81 rfl (by kernel_rfl) Try.ntmps81 (by simp) ?_
  have g1 := h1.1
  have g2 := h2.1
  have g3 := h3.1
  have g4 := h2.2
  refine cw_seq ?_
  refine cw_region ?_
  refine ow_val rfl rfl (v_assign rfl) ?_
  refine ow_nil ?_
  refine xw_then ?_
  refine cw_seq ?_
  refine cw_seq ?_
  refine cw_region ?_
  refine ow_val rfl rfl (v_move rfl) ?_
  refine ow_val rfl rfl (v_geq rfl rfl) ?_
  refine ow_nil ?_
  refine xw_then ?_
  refine cw_dec rfl (fun hc11 => ?_) (fun hc11 => ?_)
  refine cw_seq ?_
  refine cw_region ?_
  refine ow_val rfl rfl (v_assign rfl) ?_
  refine ow_nil ?_
  refine xw_then ?_
  refine cw_ret ?_
  refine xw_then_ret ?_
  refine ret1 rfl (res_tmp rfl) ?_
  rotate_left
  refine cw_skip ?_
  refine xw_then ?_
  refine cw_seq ?_
  refine cw_region ?_
  refine ow_val rfl rfl (v_move rfl) ?_
  refine ow_val rfl rfl (v_move rfl) ?_
  refine ow_val rfl rfl (v_nilCheck rfl) ?_
  refine ow_val rfl rfl (v_fieldAddr0 Ty.fd132_1 rfl) ?_
  refine ow_val rfl rfl (v_indexAddrA Try.underlying130 Ty.el130 rfl rfl (Int.toNat_of_nonneg (by omega)).symm (by omega)) ?_
  refine ow_val rfl rfl (v_load rfl (Var.sub1 Ty.sc2 (by repeat (first | assumption | refine Sub.there ?_)) (.head _) ((ck_ac hw (by omega))))) ?_
  refine ow_val rfl rfl (v_assign rfl) ?_
  refine ow_nil ?_
  refine xw_then ?_
  refine cw_seq ?_
  refine cw_seq ?_
  refine cw_region ?_
  refine ow_val rfl rfl (v_move rfl) ?_
  refine ow_val rfl rfl (v_lss rfl rfl) ?_
  refine ow_val rfl rfl (v_move rfl) ?_
  refine ow_dec 20 rfl (fun hc20 => ?_) (fun hc20 => ?_)
  refine ow_skip rfl rfl ?_
  refine ow_skip rfl rfl ?_
  refine ow_skip rfl rfl ?_
  refine ow_skip rfl rfl ?_
  refine ow_val rfl rfl (v_pick_true rfl rfl) ?_
  refine ow_nil ?_
  refine xw_then ?_
  refine cw_true rfl ?_
  refine cw_seq ?_
  refine cw_region ?_
  refine ow_val rfl rfl (v_assign rfl) ?_
  refine ow_nil ?_
  refine xw_then ?_
  refine cw_ret ?_
  refine xw_then_ret ?_
  refine ret1 rfl (res_tmp rfl) ?_
  rotate_left
  refine ow_val rfl rfl (v_move rfl) ?_
  refine ow_val rfl rfl (v_convert Try.underlying2 Try.underlying22 rfl rfl) ?_
  refine ow_val rfl rfl (v_move rfl) ?_
  refine ow_val rfl rfl (v_leq rfl rfl) ?_
  refine ow_val rfl rfl (v_pick_false rfl rfl) ?_
  refine ow_nil ?_
  refine xw_then ?_
  refine cw_dec rfl (fun hc25 => ?_) (fun hc25 => ?_)
  refine cw_seq ?_
  refine cw_region ?_
  refine ow_val rfl rfl (v_assign rfl) ?_
  refine ow_nil ?_
  refine xw_then ?_
  refine cw_ret ?_
  refine xw_then_ret ?_
  refine ret1 rfl (res_tmp rfl) ?_
  rotate_left
  refine cw_skip ?_
  refine xw_then ?_
  refine cw_seq ?_
  refine cw_region ?_
  refine ow_val rfl rfl (v_move rfl) ?_
  refine ow_val rfl rfl (v_eql rfl rfl) ?_
  refine ow_val rfl rfl (v_move rfl) ?_
  refine ow_val rfl rfl (v_convert Try.underlying2 Try.underlying22 rfl rfl) ?_
  refine ow_val rfl rfl (v_move rfl) ?_
  refine ow_val rfl rfl (v_sub rfl rfl rfl) ?_
  refine ow_val rfl rfl (v_geq rfl rfl) ?_
  refine ow_val rfl rfl (v_eqlB Try.underlying4 rfl rfl) ?_
  refine ow_val rfl rfl (v_assign rfl) ?_
  refine ow_nil ?_
  refine xw_then ?_
  refine cw_ret ?_
  refine ret1 rfl (res_tmp rfl) ?_
  rotate_left
  have ha : ∀ a ∈ c.ac, -1 ≤ a ∧ a ≤ 9223372036854775807 := hw.aci
  · exact ⟨by unfold lostM; rw [if_pos hc11], (by first | exact Cov.refl _ | (intro p; simp only [List.flatten_cons, List.flatten_nil, List.flatten_append, List.append_nil, List.nil_append, cnt_append, cnt_cons, cnt_nil, List.set_cons_zero, List.set_cons_succ, List.length_nil, List.length_cons, Nat.zero_add, List.append]; omega))⟩
  · exact ⟨by unfold lostM; rw [if_neg hc11, if_pos (Or.inl hc20)], (by first | exact Cov.refl _ | (intro p; simp only [List.flatten_cons, List.flatten_nil, List.flatten_append, List.append_nil, List.nil_append, cnt_append, cnt_cons, cnt_nil, List.set_cons_zero, List.set_cons_succ, List.length_nil, List.length_cons, Nat.zero_add, List.append]; omega))⟩
  · have hb := getD_aci hw sp.toNat
    have e1 : IntKind.u64.wrap (c.ac.getD sp.toNat 0) = c.ac.getD sp.toNat 0 := wrap_q (by omega)
    rw [e1] at hc25
    exact ⟨by unfold lostM; rw [if_neg hc11, if_pos (Or.inr hc25)], (by first | exact Cov.refl _ | (intro p; simp only [List.flatten_cons, List.flatten_nil, List.flatten_append, List.append_nil, List.nil_append, cnt_append, cnt_cons, cnt_nil, List.set_cons_zero, List.set_cons_succ, List.length_nil, List.length_cons, Nat.zero_add, List.append]; omega))⟩
  · have hb := getD_aci hw sp.toNat
    have e1 : IntKind.u64.wrap (c.ac.getD sp.toNat 0) = c.ac.getD sp.toNat 0 := wrap_q (by omega)
    rw [e1] at hc25 ⊢
    have e2 : IntKind.u64.wrap (c.ac.getD sp.toNat 0 - num) = c.ac.getD sp.toNat 0 - num := wrap_q (by omega)
    rw [e2]
    refine ⟨congrArg Value.bool ?_, (by first | exact Cov.refl _ | (intro p; simp only [List.flatten_cons, List.flatten_nil, List.flatten_append, List.append_nil, List.nil_append, cnt_append, cnt_cons, cnt_nil, List.set_cons_zero, List.set_cons_succ, List.length_nil, List.length_cons, Nat.zero_add, List.append]; omega))⟩
    unfold lostM
    rw [if_neg hc11, if_neg (by omega)]
    rfl
set_option maxHeartbeats 4000000 in
theorem ckSent_c {B : Nat} {w0 : World} {G : List Hp} {c : CkM} {p : StP} {b : Nat} {D : Hp} {size : Int} {fl : Bool} (hs : Sub [(b, .cells (c.cells p).toArray 132 (0, 0))] G) (hw : c.WF) (hD : StDeep c.st p D) (hsD : Sub D G) (hz : c.st.Sz 1000000) (h1 : inQ size) :
    Go.Sl.Fn Try.prog 82 #[.pointer (some ⟨b, 0, none⟩), .int .u64 size, .bool fl] B w0 G fun u G' => u = .int .u8 (sentM c size fl) ∧ G' = G := by
  refine Fn.pure ?_
  have g1 := h1.1
  have hl := StM.cells_len (p := p) hw.st
  have hco : ∀ u ∈ c.st.cells p, u.oneCell' = true := StM.cells_one
  refine fn_enter Try.func82 rfl (by kernel_rfl) Try.ntmps82 (by simp) ?_
  refine cw_seq ?_
  refine cw_region ?_
  refine ow_val rfl rfl (v_assign rfl) ?_
  refine ow_nil ?_
  refine xw_then ?_
  refine cw_seq ?_
  refine cw_seq ?_
  refine cw_region ?_
  refine ow_val rfl rfl (v_move rfl) ?_
  refine ow_val rfl rfl (v_nilCheck rfl) ?_
  refine ow_val rfl rfl (v_fieldAddr0 Ty.fd132_0 rfl) ?_
  refine ow_val rfl rfl (v_fieldAddr0 Ty.fd75_0 rfl) ?_
  refine ow_val rfl rfl (v_load rfl (Var.sub1 Ty.sc22 (by repeat (first | assumption | refine Sub.there ?_)) (.head _) (GetN.lit rfl))) ?_
  refine ow_val rfl rfl (v_geq rfl rfl) ?_
  refine ow_val rfl rfl (v_move rfl) ?_
  refine ow_dec 14 rfl (fun hc14 => ?_) (fun hc14 => ?_)
  refine ow_skip rfl rfl ?_
  refine ow_skip rfl rfl ?_
  refine ow_skip rfl rfl ?_
  refine ow_skip rfl rfl ?_
  refine ow_skip rfl rfl ?_
  refine ow_skip rfl rfl ?_
  refine ow_skip rfl rfl ?_
  refine ow_skip rfl rfl ?_
  refine ow_skip rfl rfl ?_
  refine ow_val rfl rfl (v_pick_true rfl rfl) ?_
  refine ow_nil ?_
  refine xw_then ?_
  refine cw_true rfl ?_
  refine cw_seq ?_
  refine cw_region ?_
  refine ow_val rfl rfl (v_assign rfl) ?_
  refine ow_nil ?_
  refine xw_then ?_
  refine cw_ret ?_
  refine xw_then_ret ?_
  refine ret1 rfl (res_tmp rfl) ?_
  rotate_left
  refine ow_val rfl rfl (v_move rfl) ?_
  refine ow_val rfl rfl (v_move rfl) ?_
  refine ow_bool 16 rfl (fun hc16 => ?_) (fun hc16 => ?_)
  refine ow_val rfl rfl (v_move rfl) ?_
  refine ow_val rfl rfl (v_nilCheck rfl) ?_
  refine ow_val rfl rfl (v_fieldAddr0 Ty.fd132_0 rfl) ?_
  refine ow_val rfl rfl (v_fieldAddr0 Ty.fd75_0 rfl) ?_
  refine ow_val rfl rfl (v_load rfl (Var.sub1 Ty.sc22 (by repeat (first | assumption | refine Sub.there ?_)) (.head _) (GetN.lit rfl))) ?_
  refine ow_val rfl rfl (v_eql rfl rfl) ?_
  refine ow_val rfl rfl (v_pick_true rfl rfl) ?_
  refine ow_val rfl rfl (v_pick_false rfl rfl) ?_
  refine ow_nil ?_
  refine xw_then ?_
  refine cw_dec rfl (fun hc24 => ?_) (fun hc24 => ?_)
  refine cw_seq ?_
  refine cw_region ?_
  refine ow_val rfl rfl (v_assign rfl) ?_
  refine ow_nil ?_
  refine xw_then ?_
  refine cw_ret ?_
  refine xw_then_ret ?_
  refine ret1 rfl (res_tmp rfl) ?_
  rotate_left
  refine cw_skip ?_
  refine xw_then ?_
  refine cw_seq ?_
  refine cw_region ?_
  refine ow_val rfl rfl (v_move rfl) ?_
  refine ow_val rfl rfl (v_nilCheck rfl) ?_
  refine ow_val rfl rfl (v_fieldAddr0 Ty.fd132_0 rfl) ?_
  refine ow_val rfl rfl (v_fieldAddr0 Ty.fd75_2 rfl) ?_
  refine ow_val rfl rfl (v_indexAddrA (i := 4) Try.underlying69 Ty.el69 rfl rfl rfl (by omega)) ?_
  refine ow_val rfl rfl (v_load rfl (Var.sub1 Ty.sc22 (by repeat (first | assumption | refine Sub.there ?_)) (.head _) ((ck_mt hw (i := 4) (by omega))))) ?_
  refine ow_val rfl rfl (v_assign rfl) ?_
  refine ow_nil ?_
  refine xw_then ?_
  refine cw_seq ?_
  refine cw_seq ?_
  refine cw_region ?_
  refine ow_val rfl rfl (v_move rfl) ?_
  refine ow_val rfl rfl (v_move rfl) ?_
  refine ow_bool 32 rfl (fun hc32 => ?_) (fun hc32 => ?_)
  refine ow_val rfl rfl (v_move rfl) ?_
  refine ow_val rfl rfl (v_nilCheck rfl) ?_
  refine ow_val rfl rfl (v_fieldAddr0 Ty.fd132_2 rfl) ?_
  refine ow_val rfl rfl (v_load rfl (Var.sub1 Ty.sc3 (by repeat (first | assumption | refine Sub.there ?_)) (.head _) ((ck_lf hw)))) ?_
  refine ow_val rfl rfl (v_eql rfl rfl) ?_
  refine ow_val rfl rfl (v_pick_true rfl rfl) ?_
  refine ow_val rfl rfl (v_move rfl) ?_
  refine ow_dec 39 rfl (fun hc39 => ?_) (fun hc39 => ?_)
  refine ow_val rfl rfl (v_move rfl) ?_
  refine ow_val rfl rfl (v_move rfl) ?_
  refine ow_val rfl rfl (v_gtr rfl rfl) ?_
  refine ow_val rfl rfl (v_move rfl) ?_
  refine ow_dec 43 rfl (fun hc43 => ?_) (fun hc43 => ?_)
  refine ow_skip rfl rfl ?_
  refine ow_skip rfl rfl ?_
  refine ow_skip rfl rfl ?_
  refine ow_skip rfl rfl ?_
  refine ow_skip rfl rfl ?_
  refine ow_skip rfl rfl ?_
  refine ow_skip rfl rfl ?_
  refine ow_skip rfl rfl ?_
  refine ow_skip rfl rfl ?_
  refine ow_val rfl rfl (v_pick_true rfl rfl) ?_
  refine ow_val rfl rfl (v_pick_true rfl rfl) ?_
  refine ow_nil ?_
  refine xw_then ?_
  refine cw_true rfl ?_
  refine cw_seq ?_
  refine cw_region ?_
  refine ow_val rfl rfl (v_assign rfl) ?_
  refine ow_nil ?_
  refine xw_then ?_
  refine cw_ret ?_
  refine xw_then_ret ?_
  refine ret1 rfl (res_tmp rfl) ?_
  rotate_left
  refine ow_val rfl rfl (v_move rfl) ?_
  refine ow_val rfl rfl (v_nilCheck rfl) ?_
  refine ow_val rfl rfl (v_fieldAddr0 Ty.fd132_0 rfl) ?_
  refine ow_val rfl rfl (v_load rfl (Var.subN Ty.ag75 (by repeat (first | assumption | refine Sub.there ?_)) (.head _) ((ck_st GetN.all)) (by first | rfl | assumption))) ?_
  refine ow_val rfl rfl (v_call rfl rfl (flight_c hD (by repeat (first | exact Sub.here | exact Sub.nil | assumption | refine Sub.there ?_)) hw.st hz)) ?_
  refine ow_val rfl rfl (v_move rfl) ?_
  refine ow_val rfl rfl (v_move rfl) ?_
  refine ow_val rfl rfl (v_sub rfl rfl rfl) ?_
  refine ow_val rfl rfl (v_gtr rfl rfl) ?_
  refine ow_val rfl rfl (v_pick_false rfl rfl) ?_
  refine ow_val rfl rfl (v_pick_true rfl rfl) ?_
  refine ow_nil ?_
  refine xw_then ?_
  refine cw_dec rfl (fun hc54 => ?_) (fun hc54 => ?_)
  refine cw_seq ?_
  refine cw_region ?_
  refine ow_val rfl rfl (v_assign rfl) ?_
  refine ow_nil ?_
  refine xw_then ?_
  refine cw_ret ?_
  refine xw_then_ret ?_
  refine ret1 rfl (res_tmp rfl) ?_
  rotate_left
  refine cw_skip ?_
  refine xw_then ?_
  refine cw_seq ?_
  refine cw_region ?_
  refine ow_val rfl rfl (v_assign rfl) ?_
  refine ow_nil ?_
  refine xw_then ?_
  refine cw_ret ?_
  refine ret1 rfl (res_tmp rfl) ?_
  rotate_left
  refine ow_skip rfl rfl ?_
  refine ow_skip rfl rfl ?_
  refine ow_skip rfl rfl ?_
  refine ow_skip rfl rfl ?_
  refine ow_skip rfl rfl ?_
  refine ow_skip rfl rfl ?_
  refine ow_skip rfl rfl ?_
  refine ow_skip rfl rfl ?_
  refine ow_skip rfl rfl ?_
  refine ow_skip rfl rfl ?_
  refine ow_skip rfl rfl ?_
  refine ow_skip rfl rfl ?_
  refine ow_skip rfl rfl ?_
  refine ow_skip rfl rfl ?_
  refine ow_val rfl rfl (v_pick_false rfl rfl) ?_
  refine ow_nil ?_
  refine xw_then ?_
  refine cw_false rfl ?_
  refine cw_skip ?_
  refine xw_then ?_
  refine cw_seq ?_
  refine cw_region ?_
  refine ow_val rfl rfl (v_assign rfl) ?_
  refine ow_nil ?_
  refine xw_then ?_
  refine cw_ret ?_
  refine ret1 rfl (res_tmp rfl) ?_
  rotate_left
  refine ow_skip rfl rfl ?_
  refine ow_skip rfl rfl ?_
  refine ow_skip rfl rfl ?_
  refine ow_skip rfl rfl ?_
  refine ow_skip rfl rfl ?_
  refine ow_val rfl rfl (v_pick_false rfl rfl) ?_
  refine ow_val rfl rfl (v_move rfl) ?_
  refine ow_skip rfl rfl ?_
  refine ow_skip rfl rfl ?_
  refine ow_skip rfl rfl ?_
  refine ow_skip rfl rfl ?_
  refine ow_skip rfl rfl ?_
  refine ow_skip rfl rfl ?_
  refine ow_skip rfl rfl ?_
  refine ow_skip rfl rfl ?_
  refine ow_skip rfl rfl ?_
  refine ow_skip rfl rfl ?_
  refine ow_skip rfl rfl ?_
  refine ow_skip rfl rfl ?_
  refine ow_skip rfl rfl ?_
  refine ow_skip rfl rfl ?_
  refine ow_val rfl rfl (v_pick_false rfl rfl) ?_
  refine ow_nil ?_
  refine xw_then ?_
  refine cw_false rfl ?_
  refine cw_skip ?_
  refine xw_then ?_
  refine cw_seq ?_
  refine cw_region ?_
  refine ow_val rfl rfl (v_assign rfl) ?_
  refine ow_nil ?_
  refine xw_then ?_
  refine cw_ret ?_
  refine ret1 rfl (res_tmp rfl) ?_
  rotate_left
  refine ow_skip rfl rfl ?_
  refine ow_skip rfl rfl ?_
  refine ow_skip rfl rfl ?_
  refine ow_skip rfl rfl ?_
  refine ow_skip rfl rfl ?_
  refine ow_skip rfl rfl ?_
  refine ow_val rfl rfl (v_pick_false rfl rfl) ?_
  refine ow_val rfl rfl (v_pick_false rfl rfl) ?_
  refine ow_nil ?_
  refine xw_then ?_
  refine cw_false rfl ?_
  refine cw_skip ?_
  refine xw_then ?_
  refine cw_seq ?_
  refine cw_region ?_
  refine ow_val rfl rfl (v_move rfl) ?_
  refine ow_val rfl rfl (v_nilCheck rfl) ?_
  refine ow_val rfl rfl (v_fieldAddr0 Ty.fd132_0 rfl) ?_
  refine ow_val rfl rfl (v_fieldAddr0 Ty.fd75_2 rfl) ?_
  refine ow_val rfl rfl (v_indexAddrA (i := 4) Try.underlying69 Ty.el69 rfl rfl rfl (by omega)) ?_
  refine ow_val rfl rfl (v_load rfl (Var.sub1 Ty.sc22 (by repeat (first | assumption | refine Sub.there ?_)) (.head _) ((ck_mt hw (i := 4) (by omega))))) ?_
  refine ow_val rfl rfl (v_assign rfl) ?_
  refine ow_nil ?_
  refine xw_then ?_
  refine cw_seq ?_
  refine cw_seq ?_
  refine cw_region ?_
  refine ow_val rfl rfl (v_move rfl) ?_
  refine ow_val rfl rfl (v_move rfl) ?_
  refine ow_bool 32 rfl (fun hc32 => ?_) (fun hc32 => ?_)
  refine ow_val rfl rfl (v_move rfl) ?_
  refine ow_val rfl rfl (v_nilCheck rfl) ?_
  refine ow_val rfl rfl (v_fieldAddr0 Ty.fd132_2 rfl) ?_
  refine ow_val rfl rfl (v_load rfl (Var.sub1 Ty.sc3 (by repeat (first | assumption | refine Sub.there ?_)) (.head _) ((ck_lf hw)))) ?_
  refine ow_val rfl rfl (v_eql rfl rfl) ?_
  refine ow_val rfl rfl (v_pick_true rfl rfl) ?_
  refine ow_val rfl rfl (v_move rfl) ?_
  refine ow_dec 39 rfl (fun hc39 => ?_) (fun hc39 => ?_)
  refine ow_val rfl rfl (v_move rfl) ?_
  refine ow_val rfl rfl (v_move rfl) ?_
  refine ow_val rfl rfl (v_gtr rfl rfl) ?_
  refine ow_val rfl rfl (v_move rfl) ?_
  refine ow_dec 43 rfl (fun hc43 => ?_) (fun hc43 => ?_)
  refine ow_skip rfl rfl ?_
  refine ow_skip rfl rfl ?_
  refine ow_skip rfl rfl ?_
  refine ow_skip rfl rfl ?_
  refine ow_skip rfl rfl ?_
  refine ow_skip rfl rfl ?_
  refine ow_skip rfl rfl ?_
  refine ow_skip rfl rfl ?_
  refine ow_skip rfl rfl ?_
  refine ow_val rfl rfl (v_pick_true rfl rfl) ?_
  refine ow_val rfl rfl (v_pick_true rfl rfl) ?_
  refine ow_nil ?_
  refine xw_then ?_
  refine cw_true rfl ?_
  refine cw_seq ?_
  refine cw_region ?_
  refine ow_val rfl rfl (v_assign rfl) ?_
  refine ow_nil ?_
  refine xw_then ?_
  refine cw_ret ?_
  refine xw_then_ret ?_
  refine ret1 rfl (res_tmp rfl) ?_
  rotate_left
  refine ow_val rfl rfl (v_move rfl) ?_
  refine ow_val rfl rfl (v_nilCheck rfl) ?_
  refine ow_val rfl rfl (v_fieldAddr0 Ty.fd132_0 rfl) ?_
  refine ow_val rfl rfl (v_load rfl (Var.subN Ty.ag75 (by repeat (first | assumption | refine Sub.there ?_)) (.head _) ((ck_st GetN.all)) (by first | rfl | assumption))) ?_
  refine ow_val rfl rfl (v_call rfl rfl (flight_c hD (by repeat (first | exact Sub.here | exact Sub.nil | assumption | refine Sub.there ?_)) hw.st hz)) ?_
  refine ow_val rfl rfl (v_move rfl) ?_
  refine ow_val rfl rfl (v_move rfl) ?_
  refine ow_val rfl rfl (v_sub rfl rfl rfl) ?_
  refine ow_val rfl rfl (v_gtr rfl rfl) ?_
  refine ow_val rfl rfl (v_pick_false rfl rfl) ?_
  refine ow_val rfl rfl (v_pick_true rfl rfl) ?_
  refine ow_nil ?_
  refine xw_then ?_
  refine cw_dec rfl (fun hc54 => ?_) (fun hc54 => ?_)
  refine cw_seq ?_
  refine cw_region ?_
  refine ow_val rfl rfl (v_assign rfl) ?_
  refine ow_nil ?_
  refine xw_then ?_
  refine cw_ret ?_
  refine xw_then_ret ?_
  refine ret1 rfl (res_tmp rfl) ?_
  rotate_left
  refine cw_skip ?_
  refine xw_then ?_
  refine cw_seq ?_
  refine cw_region ?_
  refine ow_val rfl rfl (v_assign rfl) ?_
  refine ow_nil ?_
  refine xw_then ?_
  refine cw_ret ?_
  refine ret1 rfl (res_tmp rfl) ?_
  rotate_left
  refine ow_skip rfl rfl ?_
  refine ow_skip rfl rfl ?_
  refine ow_skip rfl rfl ?_
  refine ow_skip rfl rfl ?_
  refine ow_skip rfl rfl ?_
  refine ow_skip rfl rfl ?_
  refine ow_skip rfl rfl ?_
  refine ow_skip rfl rfl ?_
  refine ow_skip rfl rfl ?_
  refine ow_skip rfl rfl ?_
  refine ow_skip rfl rfl ?_
  refine ow_skip rfl rfl ?_
  refine ow_skip rfl rfl ?_
  refine ow_skip rfl rfl ?_
  refine ow_val rfl rfl (v_pick_false rfl rfl) ?_
  refine ow_nil ?_
  refine xw_then ?_
  refine cw_false rfl ?_
  refine cw_skip ?_
  refine xw_then ?_
  refine cw_seq ?_
  refine cw_region ?_
  refine ow_val rfl rfl (v_assign rfl) ?_
  refine ow_nil ?_
  refine xw_then ?_
  refine cw_ret ?_
  refine ret1 rfl (res_tmp rfl) ?_
  rotate_left
  refine ow_skip rfl rfl ?_
  refine ow_skip rfl rfl ?_
  refine ow_skip rfl rfl ?_
  refine ow_skip rfl rfl ?_
  refine ow_skip rfl rfl ?_
  refine ow_val rfl rfl (v_pick_false rfl rfl) ?_
  refine ow_val rfl rfl (v_move rfl) ?_
  refine ow_skip rfl rfl ?_
  refine ow_skip rfl rfl ?_
  refine ow_skip rfl rfl ?_
  refine ow_skip rfl rfl ?_
  refine ow_skip rfl rfl ?_
  refine ow_skip rfl rfl ?_
  refine ow_skip rfl rfl ?_
  refine ow_skip rfl rfl ?_
  refine ow_skip rfl rfl ?_
  refine ow_skip rfl rfl ?_
  refine ow_skip rfl rfl ?_
  refine ow_skip rfl rfl ?_
  refine ow_skip rfl rfl ?_
  refine ow_skip rfl rfl ?_
  refine ow_val rfl rfl (v_pick_false rfl rfl) ?_
  refine ow_nil ?_
  refine xw_then ?_
  refine cw_false rfl ?_
  refine cw_skip ?_
  refine xw_then ?_
  refine cw_seq ?_
  refine cw_region ?_
  refine ow_val rfl rfl (v_assign rfl) ?_
  refine ow_nil ?_
  refine xw_then ?_
  refine cw_ret ?_
  refine ret1 rfl (res_tmp rfl) ?_
  rotate_left
  all_goals (refine ⟨congrArg (Value.int .u8) ?_, (by first | exact Cov.refl _ | (intro p; simp only [List.flatten_cons, List.flatten_nil, List.flatten_append, List.append_nil, List.nil_append, cnt_append, cnt_cons, cnt_nil, List.set_cons_zero, List.set_cons_succ, List.length_nil, List.length_cons, Nat.zero_add, List.append]; omega))⟩; unfold sentM; generalize c.st.mt.getD 4 0 = m at *; first | (simp [*]; done) | (exfalso; simp_all; done))
end Go.Proofs.Ytckdhelnafjddaa
