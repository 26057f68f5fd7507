/- What span.Set's Add, AddLast and Cut do, as contracts. Conditions: numbers fit their types, lists are short. -/
import Derived.Test.YtckdhelnafjddaaSpanSet
namespace Go.Proofs.Ytckdhelnafjddaa
open Go Go.Sl Go.Proofs
set_option maxRecDepth 20000
set_option linter.unusedVariables false
set_option linter.unusedSimpArgs false

theorem mrg_at {r : Rg} {l : List Rg} {i : Nat} (h : i < l.length) : mrg r (l.drop i) = if l[i].a ≤ r.b then ((mrg ⟨min r.a l[i].a, max r.b l[i].b⟩ (l.drop (i + 1))).1, (mrg ⟨min r.a l[i].a, max r.b l[i].b⟩ (l.drop (i + 1))).2 + 1) else (r, 0) := by
  rw [List.drop_eq_getElem_cons h, mrg]
theorem mrg_end {r : Rg} {l : List Rg} {i : Nat} (h : ¬ i < l.length) : mrg r (l.drop i) = (r, 0) := by
  rw [List.drop_eq_nil_of_le (by omega), mrg]
theorem set0 (r : Rg) (a : Int) : (enR.f r).set 0 (.int .u64 a) = enR.f ⟨a, r.b⟩ := rfl
theorem set1 (r : Rg) (b : Int) : (enR.f r).set 1 (.int .u64 b) = enR.f ⟨r.a, b⟩ := rfl

set_option maxHeartbeats 4000000 in
theorem joined_c {B : Nat} {w0 : World} {G : List Hp} {m : SetM} {b f : Nat} {c : Hp} {r : Rg} (hO : SetAt m b c) (hs : Sub c G) (hw : m.WF) (hr : RgIn r) (hf : f = cutAt (fun x => decide (r.a ≤ x.b)) m.l) :
    Go.Sl.Fn Try.prog 142 #[.pointer (some ⟨b, 0, none⟩), enR.val r] B w0 G fun u G' => u = .tuple #[.int .i64 f, .int .i64 ((f + (mrg r (m.l.drop f)).2 : Nat) : Int), enR.val (mrg r (m.l.drop f)).1] ∧ G' = G := by
  refine Fn.pure ?_
  have hO' := hO
  obtain ⟨ao, cap, cl, rfl, hL⟩ := hO
  have hs1 := hs.left
  have hs2 := hs.right
  have h2 := hw.len
  have h3 := @cutAt_le (fun x => decide (r.a ≤ x.b)) m.l
  rw [← hf] at h3
  have hen : ∀ {G : List Hp}, Go.Sl.Sub ([(b, .cells [.int .i64 m.limit, .slice ao m.l.length cap].toArray 212 (0, 0))] ++ cl) G → Go.Sl.Fn Try.prog 151 #[.pointer (some ⟨b, 0, none⟩), .int .u64 r.a] B w0 G fun u G' => u = .int .i64 f ∧ G' = G := fun hs => by rw [hf]; exact ending_c hO' hs hw
  have hz := len2 _ ok_z
  have hz1 := one2 _ ok_z
  have hr2 := len2 _ hr
  have hr3 := one2 _ hr
  refine fn_enter Try.func142 rfl (by kernel_rfl) Try.ntmps142 (by simp) ?_
  refine Go.Sl.cw_seq ?_
  refine Go.Sl.cw_region ?_
  (refine Go.Sl.ow_box rfl rfl rfl rfl ?_; intro b3)
  refine Go.Sl.ow_val rfl rfl (Go.Sl.v_assign rfl) ?_
  refine Go.Sl.ow_val rfl rfl (Go.Sl.v_assign rfl) ?_
  (refine Go.Sl.ow_alloc rfl rfl Ty.ze102 ?_; intro b6)
  refine Go.Sl.ow_nil ?_
  refine Go.Sl.xw_then ?_
  refine Go.Sl.cw_seq ?_
  refine Go.Sl.cw_region ?_
  refine Go.Sl.ow_val rfl rfl (Go.Sl.v_move rfl) ?_
  refine Go.Sl.ow_val rfl rfl (Go.Sl.v_fieldAddr0 Ty.fd102_0 rfl) ?_
  refine Go.Sl.ow_val rfl rfl (Go.Sl.v_load rfl (Go.Sl.Var.at1 Ty.sc22 (.there .here) (Go.Sl.GetN.lit rfl))) ?_
  refine Go.Sl.ow_val rfl rfl (Go.Sl.v_call rfl rfl (hen hs.there.there)) ?_
  refine Go.Sl.ow_val rfl rfl (Go.Sl.v_assign rfl) ?_
  refine Go.Sl.ow_nil ?_
  refine Go.Sl.xw_then ?_
  refine Go.Sl.cw_seq ?_
  refine Go.Sl.cw_region ?_
  refine Go.Sl.ow_val rfl rfl (Go.Sl.v_move rfl) ?_
  refine Go.Sl.ow_val rfl rfl (Go.Sl.v_assign rfl) ?_
  refine Go.Sl.ow_nil ?_
  refine Go.Sl.xw_then ?_
  refine Go.Sl.cw_seq ?_
  refine Go.Sl.cw_block ?_
  refine Go.Sl.cw_loop2 (ι := ((Nat × Rg))) [(0, _), (3, _), (4, _), (6, _), (7, _)] ⟨rfl, rfl, rfl, rfl, rfl, trivial⟩ ((fun x => [(5, .int .i64 ((f + x.1 : Nat) : Int))])) ((fun x => f + x.1 ≤ m.l.length ∧ enR.ok x.2 ∧ mrg r (m.l.drop f) = ((mrg x.2 (m.l.drop (f + x.1))).1, (mrg x.2 (m.l.drop (f + x.1))).2 + x.1))) ((fun x => m.l.length - (f + x.1))) ((fun x => [(b6, .cells (Rg.cells ⟨0, 0⟩).toArray 102 (0, 0))] :: [(b3, .cells (enR.f x.2).toArray 102 (0, 0))] :: G)) (((0, r) : Nat × Rg)) (by repeat (first | exact True.intro | refine And.intro rfl ?_)) (by first | exact Go.Sl.Cov.refl _ | (intro p; simp only [List.flatten_cons, List.flatten_nil, List.flatten_append, List.append_nil, List.nil_append, Go.Sl.cnt_append, Go.Sl.cnt_cons, Go.Sl.cnt_nil, List.set_cons_zero, List.set_cons_succ, List.length_nil, List.length_cons, Nat.zero_add, List.append]; omega)) ?_ ?_
  · exact ⟨by omega, hr, rfl⟩
  rintro ⟨k, q⟩ ⟨hk, hq, hm⟩
  dsimp only at hk hq hm ⊢
  have hq2 := len2 _ hq
  have hq3 := one2 _ hq
  refine Go.Sl.cw_seq ?_
  refine Go.Sl.cw_seq ?_
  refine Go.Sl.cw_quiet Ty.mixed (by decide +kernel) ?_
  refine Go.Sl.kw_val rfl rfl (Go.Sl.v_move rfl) ?_
  refine Go.Sl.kw_val rfl rfl (Go.Sl.v_move rfl) ?_
  refine Go.Sl.kw_val rfl rfl (Go.Sl.v_nilCheck rfl) ?_
  refine Go.Sl.kw_val rfl rfl (Go.Sl.v_fieldAddr0 Ty.fd212_1 rfl) ?_
  refine Go.Sl.kw_val rfl rfl (Go.Sl.v_load rfl (Go.Sl.Var.sub1 Ty.sc27 (by repeat (first | assumption | refine Go.Sl.Sub.there ?_)) (.head _) (Go.Sl.GetN.lit rfl))) ?_
  refine Go.Sl.kw_val rfl rfl (Go.Sl.v_len rfl Try.underlying27 rfl) ?_
  refine Go.Sl.kw_val rfl rfl (Go.Sl.v_lss rfl rfl) ?_
  refine Go.Sl.kw_val rfl rfl (Go.Sl.v_move rfl) ?_
  refine Go.Sl.kw_dec 19 rfl (fun hc19 => ?_) (fun hc19 => ?_)
  refine Go.Sl.kw_val rfl rfl (Go.Sl.v_move rfl) ?_
  refine Go.Sl.kw_val rfl rfl (Go.Sl.v_nilCheck rfl) ?_
  refine Go.Sl.kw_val rfl rfl (Go.Sl.v_fieldAddr0 Ty.fd212_1 rfl) ?_
  refine Go.Sl.kw_val rfl rfl (Go.Sl.v_load rfl (Go.Sl.Var.sub1 Ty.sc27 (by repeat (first | assumption | refine Go.Sl.Sub.there ?_)) (.head _) (Go.Sl.GetN.lit rfl))) ?_
  refine Go.Sl.kw_val rfl rfl (Go.Sl.v_move rfl) ?_
  refine Go.Sl.kw_val rfl rfl (Go.Sl.v_indexAddr_ls Try.underlying27 (rTy) rfl rfl (by assumption) rfl (by omega)) ?_
  refine Go.Sl.kw_val rfl rfl (Go.Sl.v_fieldAddr Ty.fd102_0 rfl) ?_
  refine Go.Sl.kw_val rfl rfl (Go.Sl.v_load rfl (Go.Sl.Vw.fld1 (rTy) Ty.sc22 (hL.vw hs2.there.there) (by omega) rfl)) ?_
  refine Go.Sl.kw_val rfl rfl (Go.Sl.v_fieldAddr0 Ty.fd102_1 rfl) ?_
  refine Go.Sl.kw_val rfl rfl (Go.Sl.v_load rfl (Go.Sl.Var.at1 Ty.sc22 (.there .here) (Go.Sl.GetN.lit rfl))) ?_
  refine Go.Sl.kw_val rfl rfl (Go.Sl.v_leq rfl rfl) ?_
  refine Go.Sl.kw_val rfl rfl (Go.Sl.v_pick_true rfl rfl) ?_
  refine Go.Sl.kw_nil ?_
  refine Go.Sl.xw_then ?_
  refine Go.Sl.cw_dec rfl (fun hc31 => ?_) (fun hc31 => ?_)
  refine Go.Sl.cw_skip ?_
  refine Go.Sl.xw_then ?_
  refine Go.Sl.cw_block ?_
  refine Go.Sl.cw_seq ?_
  refine Go.Sl.cw_mix [] [12] [0, 1, 2, 3, 4, 5, 6, 7, 8, 9, 10, 11] Ty.mixed rfl rfl rfl rfl (by decide +kernel) ?_
  refine Go.Sl.hw_pure rfl rfl (Go.Sl.v_fieldAddr0 Ty.fd102_0 rfl) rfl ?_
  refine Go.Sl.hw_read rfl rfl rfl (Go.Sl.v_load rfl (Go.Sl.Var.at1 Ty.sc22 (.there .here) (Go.Sl.GetN.lit rfl))) ?_
  refine Go.Sl.hw_pure rfl rfl (Go.Sl.v_move rfl) rfl ?_
  refine Go.Sl.hw_pure rfl rfl (Go.Sl.v_nilCheck rfl) rfl ?_
  refine Go.Sl.hw_pure rfl rfl (Go.Sl.v_fieldAddr0 Ty.fd212_1 rfl) rfl ?_
  refine Go.Sl.hw_read rfl rfl rfl (Go.Sl.v_load rfl (Go.Sl.Var.sub1 Ty.sc27 (by repeat (first | assumption | refine Go.Sl.Sub.there ?_)) (.head _) (Go.Sl.GetN.lit rfl))) ?_
  refine Go.Sl.hw_pure rfl rfl (Go.Sl.v_move rfl) rfl ?_
  refine Go.Sl.hw_pure rfl rfl (Go.Sl.v_indexAddr_ls Try.underlying27 (rTy) rfl rfl (by assumption) rfl (by omega)) rfl ?_
  refine Go.Sl.hw_pure rfl rfl (Go.Sl.v_fieldAddr Ty.fd102_0 rfl) rfl ?_
  refine Go.Sl.hw_read rfl rfl rfl (Go.Sl.v_load rfl (Go.Sl.Vw.fld1 (rTy) Ty.sc22 (hL.vw hs2.there.there) (by omega) rfl)) ?_
  refine Go.Sl.hw_pure rfl rfl (Go.Sl.v_min rfl rfl) rfl ?_
  refine Go.Sl.hw_pure rfl rfl (Go.Sl.v_fieldAddr0 Ty.fd102_0 rfl) rfl ?_
  refine Go.Sl.hw_nil ?_
  refine Go.Sl.sw_nil ?_
  refine Go.Sl.ow_store1 rfl rfl rfl rfl Ty.sc22 (.there .here) (Go.Sl.SetN.one (by first | decide | exact Nat.le_of_ble_eq_true rfl)) ?_
  refine Go.Sl.ow_nil ?_
  refine Go.Sl.xw_np ?_
  refine Go.Sl.xw_then ?_
  refine Go.Sl.cw_seq ?_
  refine Go.Sl.cw_mix [] [12] [0, 1, 2, 3, 4, 5, 6, 7, 8, 9, 10, 11] Ty.mixed rfl rfl rfl rfl (by decide +kernel) ?_
  refine Go.Sl.hw_pure rfl rfl (Go.Sl.v_fieldAddr0 Ty.fd102_1 rfl) rfl ?_
  refine Go.Sl.hw_read rfl rfl rfl (Go.Sl.v_load rfl (Go.Sl.Var.at1 Ty.sc22 (.there .here) (Go.Sl.GetN.lit rfl))) ?_
  refine Go.Sl.hw_pure rfl rfl (Go.Sl.v_move rfl) rfl ?_
  refine Go.Sl.hw_pure rfl rfl (Go.Sl.v_nilCheck rfl) rfl ?_
  refine Go.Sl.hw_pure rfl rfl (Go.Sl.v_fieldAddr0 Ty.fd212_1 rfl) rfl ?_
  refine Go.Sl.hw_read rfl rfl rfl (Go.Sl.v_load rfl (Go.Sl.Var.sub1 Ty.sc27 (by repeat (first | assumption | refine Go.Sl.Sub.there ?_)) (.head _) (Go.Sl.GetN.lit rfl))) ?_
  refine Go.Sl.hw_pure rfl rfl (Go.Sl.v_move rfl) rfl ?_
  refine Go.Sl.hw_pure rfl rfl (Go.Sl.v_indexAddr_ls Try.underlying27 (rTy) rfl rfl (by assumption) rfl (by omega)) rfl ?_
  refine Go.Sl.hw_pure rfl rfl (Go.Sl.v_fieldAddr Ty.fd102_1 rfl) rfl ?_
  refine Go.Sl.hw_read rfl rfl rfl (Go.Sl.v_load rfl (Go.Sl.Vw.fld1 (rTy) Ty.sc22 (hL.vw hs2.there.there) (by omega) rfl)) ?_
  refine Go.Sl.hw_pure rfl rfl (Go.Sl.v_max rfl rfl) rfl ?_
  refine Go.Sl.hw_pure rfl rfl (Go.Sl.v_fieldAddr0 Ty.fd102_1 rfl) rfl ?_
  refine Go.Sl.hw_nil ?_
  refine Go.Sl.sw_nil ?_
  refine Go.Sl.ow_store1 rfl rfl rfl rfl Ty.sc22 (.there .here) (Go.Sl.SetN.one (by first | decide | exact Nat.le_of_ble_eq_true rfl)) ?_
  refine Go.Sl.ow_nil ?_
  refine Go.Sl.xw_np ?_
  refine Go.Sl.xw_then ?_
  refine Go.Sl.cw_region ?_
  refine Go.Sl.ow_val rfl rfl (Go.Sl.v_move rfl) ?_
  refine Go.Sl.ow_val rfl rfl (Go.Sl.v_add rfl rfl (Go.Sl.nw_i64 (by omega) (by omega))) ?_
  refine Go.Sl.ow_val rfl rfl (Go.Sl.v_assign rfl) ?_
  refine Go.Sl.ow_nil ?_
  refine Go.Sl.xw_block ?_
  rotate_left
  refine Go.Sl.cw_exit ?_
  refine Go.Sl.xw_then_exit ?_
  refine Go.Sl.xw_round_exit ?_
  refine Go.Sl.xw_block_exit ?_
  refine Go.Sl.xw_then ?_
  refine Go.Sl.cw_seq ?_
  refine Go.Sl.cw_mix [] [5] [0, 1, 2, 3, 4] Ty.mixed rfl rfl rfl rfl (by decide +kernel) ?_
  refine Go.Sl.hw_pure rfl rfl (Go.Sl.v_move rfl) rfl ?_
  refine Go.Sl.hw_pure rfl rfl (Go.Sl.v_move rfl) rfl ?_
  refine Go.Sl.hw_read rfl rfl rfl (Go.Sl.v_load rfl (Go.Sl.Var.atN Ty.ag102 (.there .here) Go.Sl.GetN.all (by first | rfl | assumption))) ?_
  refine Go.Sl.hw_pure rfl rfl (Go.Sl.v_assign rfl) rfl ?_
  refine Go.Sl.hw_pure rfl rfl (Go.Sl.v_assign rfl) rfl ?_
  refine Go.Sl.hw_nil ?_
  refine Go.Sl.sw_nil ?_
  refine Go.Sl.ow_storeE rfl (rTy) rfl rfl .here (by first | rfl | assumption) (by assumption) ?_
  refine Go.Sl.ow_nil ?_
  refine Go.Sl.xw_np ?_
  refine Go.Sl.xw_then ?_
  refine Go.Sl.cw_ret ?_
  refine Go.Sl.ret3 rfl (Go.Sl.res_tmp rfl) (Go.Sl.res_tmp rfl) (Go.Sl.res_cell rfl (Go.Sl.Var.atN Ty.ag102 .here Go.Sl.GetN.all (by first | rfl | assumption))) ?_
  rotate_left
  refine Go.Sl.kw_skip rfl rfl ?_
  refine Go.Sl.kw_skip rfl rfl ?_
  refine Go.Sl.kw_skip rfl rfl ?_
  refine Go.Sl.kw_skip rfl rfl ?_
  refine Go.Sl.kw_skip rfl rfl ?_
  refine Go.Sl.kw_skip rfl rfl ?_
  refine Go.Sl.kw_skip rfl rfl ?_
  refine Go.Sl.kw_skip rfl rfl ?_
  refine Go.Sl.kw_skip rfl rfl ?_
  refine Go.Sl.kw_skip rfl rfl ?_
  refine Go.Sl.kw_skip rfl rfl ?_
  refine Go.Sl.kw_val rfl rfl (Go.Sl.v_pick_false rfl rfl) ?_
  refine Go.Sl.kw_nil ?_
  refine Go.Sl.xw_then ?_
  refine Go.Sl.cw_false rfl ?_
  refine Go.Sl.cw_exit ?_
  refine Go.Sl.xw_then_exit ?_
  refine Go.Sl.xw_round_exit ?_
  refine Go.Sl.xw_block_exit ?_
  refine Go.Sl.xw_then ?_
  refine Go.Sl.cw_seq ?_
  refine Go.Sl.cw_mix [] [5] [0, 1, 2, 3, 4] Ty.mixed rfl rfl rfl rfl (by decide +kernel) ?_
  refine Go.Sl.hw_pure rfl rfl (Go.Sl.v_move rfl) rfl ?_
  refine Go.Sl.hw_pure rfl rfl (Go.Sl.v_move rfl) rfl ?_
  refine Go.Sl.hw_read rfl rfl rfl (Go.Sl.v_load rfl (Go.Sl.Var.atN Ty.ag102 (.there .here) Go.Sl.GetN.all (by first | rfl | assumption))) ?_
  refine Go.Sl.hw_pure rfl rfl (Go.Sl.v_assign rfl) rfl ?_
  refine Go.Sl.hw_pure rfl rfl (Go.Sl.v_assign rfl) rfl ?_
  refine Go.Sl.hw_nil ?_
  refine Go.Sl.sw_nil ?_
  refine Go.Sl.ow_storeE rfl (rTy) rfl rfl .here (by first | rfl | assumption) (by assumption) ?_
  refine Go.Sl.ow_nil ?_
  refine Go.Sl.xw_np ?_
  refine Go.Sl.xw_then ?_
  refine Go.Sl.cw_ret ?_
  refine Go.Sl.ret3 rfl (Go.Sl.res_tmp rfl) (Go.Sl.res_tmp rfl) (Go.Sl.res_cell rfl (Go.Sl.Var.atN Ty.ag102 .here Go.Sl.GetN.all (by first | rfl | assumption))) ?_
  rotate_left
  · have hk2 : f + k < m.l.length := by omega
    have hok := hL.ok _ (List.getElem_mem hk2)
    have hme := mrg_at (r := q) hk2
    rw [if_pos hc31] at hme
    rw [hme] at hm
    exact xw_round ((k + 1, ⟨min q.a (m.l[f + k]'hk2).a, max q.b (m.l[f + k]'hk2).b⟩) : Nat × Rg) ⟨by omega, ⟨by have := hq.1; have := hok.1; dsimp only; omega, by have := hq.2; have := hok.2; dsimp only; omega⟩, by rw [hm]; simp only [Prod.mk.injEq, true_and]; rw [show f + (k + 1) = f + k + 1 by omega]; exact ⟨rfl, by omega⟩⟩ (by dsimp only; omega) (by first | exact Go.Sl.Cov.refl _ | (intro p; simp only [List.flatten_cons, List.flatten_nil, List.flatten_append, List.append_nil, List.nil_append, Go.Sl.cnt_append, Go.Sl.cnt_cons, Go.Sl.cnt_nil, List.set_cons_zero, List.set_cons_succ, List.length_nil, List.length_cons, Nat.zero_add, List.append]; omega)) (by repeat (first | exact True.intro | refine And.intro rfl ?_))
  · have hk2 : f + k < m.l.length := by omega
    have hme := mrg_at (r := q) hk2
    rw [if_neg hc31] at hme
    rw [hme] at hm
    rw [hm]
    exact ⟨by simp only [Nat.zero_add]; rfl, (by first | exact Go.Sl.Cov.refl _ | (intro p; simp only [List.flatten_cons, List.flatten_nil, List.flatten_append, List.append_nil, List.nil_append, Go.Sl.cnt_append, Go.Sl.cnt_cons, Go.Sl.cnt_nil, List.set_cons_zero, List.set_cons_succ, List.length_nil, List.length_cons, Nat.zero_add, List.append]; omega))⟩
  · rw [mrg_end (r := q) (i := f + k) (by omega)] at hm
    rw [hm]
    exact ⟨by simp only [Nat.zero_add]; rfl, (by first | exact Go.Sl.Cov.refl _ | (intro p; simp only [List.flatten_cons, List.flatten_nil, List.flatten_append, List.append_nil, List.nil_append, Go.Sl.cnt_append, Go.Sl.cnt_cons, Go.Sl.cnt_nil, List.set_cons_zero, List.set_cons_succ, List.length_nil, List.length_cons, Nat.zero_add, List.append]; omega))⟩

/-- what joining yields, with names -/
structure Join (m : SetM) (r : Rg) (f : Nat) (w : Rg) (k : Nat) : Prop where
  at_ : f = cutAt (fun x => decide (r.a ≤ x.b)) m.l
  mrg_ : mrg r (m.l.drop f) = (w, k)
  le : f + k ≤ m.l.length
  ok : enR.ok w
  add : addL m.l r = m.l.take f ++ ([w] ++ m.l.drop (f + k))
  len : (addL m.l r).length = f + 1 + (m.l.length - (f + k))
theorem joinS {m : SetM} {r : Rg} (hw : m.WF) (hr : RgOk r) : ∃ f w k, Join m r f w k := by
  have hS := addS hw.good hr
  have hc := @cutAt_le (fun x => decide (r.a ≤ x.b)) m.l
  refine ⟨_, (mrg r (m.l.drop (cutAt (fun x => decide (r.a ≤ x.b)) m.l))).1, (mrg r (m.l.drop (cutAt (fun x => decide (r.a ≤ x.b)) m.l))).2, rfl, rfl, ?_, hS.ok.inn, rfl, ?_⟩
  · have := hS.le
    rw [List.length_drop] at this
    omega
  · unfold addL
    rw [List.length_append, List.length_append, List.length_take, List.length_drop, List.length_singleton]
    omega
theorem joinedJ_c {B : Nat} {w0 : World} {G : List Hp} {m : SetM} {b f k : Nat} {c : Hp} {r w : Rg} (hO : SetAt m b c) (hs : Sub c G) (hw : m.WF) (hr : RgIn r) (hj : Join m r f w k) :
    Go.Sl.Fn Try.prog 142 #[.pointer (some ⟨b, 0, none⟩), enR.val r] B w0 G fun u G' => u = .tuple #[.int .i64 f, .int .i64 ((f + k : Nat) : Int), enR.val w] ∧ G' = G := by
  have h := joined_c (B := B) (w0 := w0) hO hs hw hr hj.at_
  rw [hj.mrg_] at h
  exact h

set_option maxHeartbeats 4000000 in
theorem setAddLast_c {B : Nat} {w0 : World} {G : List Hp} {R : Hp → List Hp} {m : SetM} {b : Nat} {c : Hp} {r : Rg} (hsel : Sel G c R) (hO : SetAt m b c) (hw : m.WF) (hr : RgIn r) :
    Go.Sl.Fn Try.prog 128 #[.pointer (some ⟨b, 0, none⟩), enR.val r] B w0 G fun u G' => ∃ c' : Hp, u = .int .i64 (m.addLast r).2 ∧ SetAt (m.addLast r).1 b c' ∧ G' = R c' := by
  refine Fn.sel0 hsel fun F hR hF => ?_
  have hO' := hO
  obtain ⟨ao, cap, cl, rfl, hL⟩ := hO
  have h2 := hw.len
  have hr2 := len2 _ hr
  have hr3 := one2 _ hr
  have hwl := hw.lim
  refine fn_enter Try.func128 rfl (by kernel_rfl) Try.ntmps128 (by simp) ?_
  refine cw_split ?_
  refine Go.Sl.cw_seq ?_
  refine Go.Sl.cw_region ?_
  (refine Go.Sl.ow_box rfl rfl rfl rfl ?_; intro b3)
  refine Go.Sl.ow_val rfl rfl (Go.Sl.v_assign rfl) ?_
  refine Go.Sl.ow_nil ?_
  refine Go.Sl.xw_then ?_
  refine Go.Sl.cw_seq ?_
  refine Go.Sl.cw_seq ?_
  refine Go.Sl.cw_region ?_
  refine Go.Sl.ow_val rfl rfl (Go.Sl.v_move rfl) ?_
  refine Go.Sl.ow_val rfl rfl (Go.Sl.v_eql_nil_some Try.underlying187 rfl) ?_
  refine Go.Sl.ow_val rfl rfl (Go.Sl.v_move rfl) ?_
  refine Go.Sl.ow_val rfl rfl (Go.Sl.v_load rfl (Go.Sl.Var.atN Ty.ag102 .here Go.Sl.GetN.all (by first | rfl | assumption))) ?_
  refine Go.Sl.ow_val rfl rfl (Go.Sl.v_call rfl rfl (empty_c)) ?_
  refine Go.Sl.ow_val rfl rfl (Go.Sl.v_pick_false rfl rfl) ?_
  refine Go.Sl.ow_nil ?_
  refine Go.Sl.xw_then ?_
  refine Go.Sl.cw_dec rfl (fun hc14 => ?_) (fun hc14 => ?_)
  refine Go.Sl.cw_seq ?_
  refine Go.Sl.cw_region ?_
  refine Go.Sl.ow_val rfl rfl (Go.Sl.v_assign rfl) ?_
  refine Go.Sl.ow_nil ?_
  refine Go.Sl.xw_then ?_
  refine Go.Sl.cw_ret ?_
  refine Go.Sl.xw_then_ret ?_
  refine Go.Sl.ret1 rfl (Go.Sl.res_tmp rfl) ?_
  rotate_left
  refine Go.Sl.cw_skip ?_
  refine Go.Sl.xw_then ?_
  rotate_left
  · rw [show m.addLast r = (m, 0) from by rw [SetM.addLast, if_pos (by omega)]]
    exact ⟨_, rfl, ⟨ao, cap, cl, rfl, hL⟩, (by first | exact Go.Sl.Cov.refl _ | (intro p; simp only [List.flatten_cons, List.flatten_nil, List.flatten_append, List.append_nil, List.nil_append, Go.Sl.cnt_append, Go.Sl.cnt_cons, Go.Sl.cnt_nil, List.set_cons_zero, List.set_cons_succ, List.length_nil, List.length_cons, Nat.zero_add, List.append]; omega))⟩
  · have hne : r.a < r.b := by omega
    obtain ⟨f, w, k, hj⟩ := joinS hw (hr.ok hne)
    have hj1 := hj.le
    have hj2 := hj.len
    have hj3 := hj.ok
    have hj4 := len2 _ hj.ok
    have hj5 := one2 _ hj.ok
    refine Go.Sl.cw_seq ?_
    refine Go.Sl.cw_region ?_
    refine Go.Sl.ow_val rfl rfl (Go.Sl.v_move rfl) ?_
    refine Go.Sl.ow_val rfl rfl (Go.Sl.v_load rfl (Go.Sl.Var.atN Ty.ag102 .here Go.Sl.GetN.all (by first | rfl | assumption))) ?_
    refine Go.Sl.ow_val rfl rfl (Go.Sl.v_call rfl rfl (joinedJ_c hO' (Sub.app (by repeat (first | exact Go.Sl.Sub.here | exact Go.Sl.Sub.nil | assumption | refine Go.Sl.Sub.there ?_)) (by repeat (first | exact Go.Sl.Sub.here | exact Go.Sl.Sub.nil | assumption | refine Go.Sl.Sub.there ?_))) hw hr hj)) ?_
    refine Go.Sl.ow_val rfl rfl (Go.Sl.v_move rfl) ?_
    refine Go.Sl.ow_val rfl rfl (Go.Sl.v_extract rfl rfl) ?_
    refine Go.Sl.ow_val rfl rfl (Go.Sl.v_extract rfl rfl) ?_
    refine Go.Sl.ow_val rfl rfl (Go.Sl.v_extract rfl rfl) ?_
    (refine Go.Sl.ow_alloc rfl rfl Ty.ze102 ?_; intro b7)
    refine Go.Sl.ow_val rfl rfl (Go.Sl.v_assign rfl) ?_
    refine Go.Sl.ow_val rfl rfl (Go.Sl.v_assign rfl) ?_
    refine Go.Sl.ow_storeE rfl (rTy) rfl rfl .here (by first | rfl | assumption) (by assumption) ?_
    refine Go.Sl.ow_nil ?_
    refine Go.Sl.xw_then ?_
    refine Go.Sl.cw_seq ?_
    refine Go.Sl.cw_mix [8] [9, 10, 11, 12] [0, 1, 2, 3, 4, 5, 6, 7] Ty.mixed rfl rfl rfl rfl (by decide +kernel) ?_
    refine Go.Sl.hw_pure rfl rfl (Go.Sl.v_move rfl) rfl ?_
    refine Go.Sl.hw_pure rfl rfl (Go.Sl.v_move rfl) rfl ?_
    refine Go.Sl.hw_pure rfl rfl (Go.Sl.v_nilCheck rfl) rfl ?_
    refine Go.Sl.hw_pure rfl rfl (Go.Sl.v_fieldAddr0 Ty.fd212_1 rfl) rfl ?_
    refine Go.Sl.hw_read rfl rfl rfl (Go.Sl.v_load rfl (Go.Sl.Var.at1 Ty.sc27 (.there (.there .here)) (Go.Sl.GetN.lit rfl))) ?_
    refine Go.Sl.hw_pure rfl rfl (Go.Sl.v_move rfl) rfl ?_
    refine Go.Sl.hw_pure rfl rfl (Go.Sl.v_move rfl) rfl ?_
    refine Go.Sl.hw_read rfl rfl rfl (Go.Sl.v_load rfl (Go.Sl.Var.atN Ty.ag102 .here Go.Sl.GetN.all (by first | rfl | assumption))) ?_
    refine Go.Sl.hw_nil ?_
    (refine Go.Sl.sw_buildL (es := [(w)]) rfl rfl Try.underlying27 Ty.em27 (rTy) rfl rfl (by first | (simp [*]; done) | (repeat (first | exact List.forall_mem_nil _ | refine List.forall_mem_cons.2 ⟨?_, ?_⟩ | assumption | (show _ ∧ _; omega)))) (by simp only [List.length_cons, List.length_nil]; decide) ?_; intro ao30 c30 hL30)
    refine Go.Sl.sw_nil ?_
    (refine Go.Sl.ow_call rfl rfl rfl rfl (replaceR_c (i := f) (j := f + k) (l2 := [w]) rfl rfl (by repeat (first | exact Go.Sl.Sel.here | apply Go.Sl.Sel.there)) hL (by assumption) (by first | exact Go.Sl.Cov.refl _ | (intro p; simp only [List.flatten_cons, List.flatten_nil, List.flatten_append, List.append_nil, List.nil_append, Go.Sl.cnt_append, Go.Sl.cnt_cons, Go.Sl.cnt_nil, List.set_cons_zero, List.set_cons_succ, List.length_nil, List.length_cons, Nat.zero_add, List.append]; omega)) (by omega) (by omega) (by simp; omega)) ?_; rintro _ _ ⟨x31, rfl, hq31, rfl⟩)
    refine Go.Sl.ow_val rfl rfl (Go.Sl.v_nilCheck rfl) ?_
    refine Go.Sl.ow_val rfl rfl (Go.Sl.v_fieldAddr0 Ty.fd212_1 rfl) ?_
    refine Go.Sl.ow_store1 rfl rfl rfl rfl Ty.sc27 (.there (.there (.there .here))) (Go.Sl.SetN.one (by first | decide | exact Nat.le_of_ble_eq_true rfl)) ?_
    refine Go.Sl.ow_nil ?_
    refine Go.Sl.xw_np ?_
    refine Go.Sl.xw_then ?_
    rw [← hj.add] at hq31 ⊢
    have hO2 : SetAt ⟨m.limit, addL m.l r⟩ b ([(b, .cells [.int .i64 m.limit, .slice x31.1 (addL m.l r).length x31.2.1].toArray 212 (0, 0))] ++ x31.2.2) := ⟨x31.1, x31.2.1, x31.2.2, rfl, hq31⟩
    have hmo : ∀ {G : List Hp}, Go.Sl.Sub ([(b, .cells [.int .i64 m.limit, .slice x31.1 (addL m.l r).length x31.2.1].toArray 212 (0, 0))] ++ x31.2.2) G → Go.Sl.Fn Try.prog 132 #[.pointer (some ⟨b, 0, none⟩)] B w0 G fun u G' => u = .int .i64 (max m.limit 1) ∧ G' = G := fun hs => most_c (m := ⟨m.limit, addL m.l r⟩) hO2 hs
    have hv1 : max (((addL m.l r).length : Int) - max m.limit 1) 0 = ((max (((addL m.l r).length : Int) - max m.limit 1) 0).toNat : Int) := by omega
    have hv2 : (max (((addL m.l r).length : Int) - max m.limit 1) 0).toNat ≤ (addL m.l r).length := by omega
    have hv3 : (addL m.l r).length ≤ 100000000 := by omega
    refine Go.Sl.cw_seq ?_
    refine Go.Sl.cw_quiet Ty.mixed (by decide +kernel) ?_
    refine Go.Sl.kw_val rfl rfl (Go.Sl.v_move rfl) ?_
    refine Go.Sl.kw_val rfl rfl (Go.Sl.v_nilCheck rfl) ?_
    refine Go.Sl.kw_val rfl rfl (Go.Sl.v_fieldAddr0 Ty.fd212_1 rfl) ?_
    refine Go.Sl.kw_val rfl rfl (Go.Sl.v_load rfl (Go.Sl.Var.at1 Ty.sc27 (.there (.there (.there .here))) (Go.Sl.GetN.lit rfl))) ?_
    refine Go.Sl.kw_val rfl rfl (Go.Sl.v_len rfl Try.underlying27 rfl) ?_
    refine Go.Sl.kw_val rfl rfl (Go.Sl.v_move rfl) ?_
    refine Go.Sl.kw_val rfl rfl (Go.Sl.v_call rfl rfl (hmo (Sub.app (by repeat (first | exact Go.Sl.Sub.here | exact Go.Sl.Sub.nil | assumption | refine Go.Sl.Sub.there ?_)) (by repeat (first | exact Go.Sl.Sub.here | exact Go.Sl.Sub.nil | assumption | refine Go.Sl.Sub.there ?_))))) ?_
    refine Go.Sl.kw_val rfl rfl (Go.Sl.v_sub rfl rfl (Go.Sl.nw_i64 (by omega) (by omega))) ?_
    refine Go.Sl.kw_val rfl rfl (Go.Sl.v_max rfl rfl) ?_
    refine Go.Sl.kw_val rfl rfl (Go.Sl.v_assign rfl) ?_
    refine Go.Sl.kw_nil ?_
    refine Go.Sl.xw_then ?_
    refine Go.Sl.cw_seq ?_
    refine Go.Sl.cw_region ?_
    refine Go.Sl.ow_val rfl rfl (Go.Sl.v_move rfl) ?_
    refine Go.Sl.ow_val rfl rfl (Go.Sl.v_move rfl) ?_
    refine Go.Sl.ow_val rfl rfl (Go.Sl.v_nilCheck rfl) ?_
    refine Go.Sl.ow_val rfl rfl (Go.Sl.v_fieldAddr0 Ty.fd212_1 rfl) ?_
    refine Go.Sl.ow_val rfl rfl (Go.Sl.v_load rfl (Go.Sl.Var.at1 Ty.sc27 (.there (.there (.there .here))) (Go.Sl.GetN.lit rfl))) ?_
    refine Go.Sl.ow_val rfl rfl (Go.Sl.v_move rfl) ?_
    (refine Go.Sl.ow_call rfl rfl rfl rfl (deleteR_c (i := 0) (j := (max (((addL m.l r).length : Int) - max m.limit 1) 0).toNat) rfl hv1 (by repeat (first | exact Go.Sl.Sel.here | apply Go.Sl.Sel.there)) hq31 (Nat.zero_le _) hv2 hv3) ?_; rintro _ _ ⟨x49, rfl, hq49, rfl⟩)
    refine Go.Sl.ow_val rfl rfl (Go.Sl.v_nilCheck rfl) ?_
    refine Go.Sl.ow_val rfl rfl (Go.Sl.v_fieldAddr0 Ty.fd212_1 rfl) ?_
    refine Go.Sl.ow_store1 rfl rfl rfl rfl Ty.sc27 (.there (.there (.there .here))) (Go.Sl.SetN.one (by first | decide | exact Nat.le_of_ble_eq_true rfl)) ?_
    refine Go.Sl.ow_nil ?_
    refine Go.Sl.xw_then ?_
    refine Go.Sl.cw_seq ?_
    refine Go.Sl.cw_region ?_
    refine Go.Sl.ow_val rfl rfl (Go.Sl.v_move rfl) ?_
    refine Go.Sl.ow_val rfl rfl (Go.Sl.v_assign rfl) ?_
    refine Go.Sl.ow_nil ?_
    refine Go.Sl.xw_then ?_
    refine Go.Sl.cw_ret ?_
    refine Go.Sl.ret1 rfl (Go.Sl.res_tmp rfl) ?_
    rw [List.take_zero, List.nil_append] at hq49 ⊢
    rw [show m.addLast r = (⟨m.limit, (addL m.l r).drop (max (((addL m.l r).length : Int) - max m.limit 1) 0).toNat⟩, max (((addL m.l r).length : Int) - max m.limit 1) 0) from by rw [SetM.addLast, if_neg (by omega)]]
    exact ⟨_, rfl, ⟨x49.1, x49.2.1, x49.2.2, rfl, hq49⟩, (by first | exact Go.Sl.Cov.refl _ | (intro p; simp only [List.flatten_cons, List.flatten_nil, List.flatten_append, List.append_nil, List.nil_append, Go.Sl.cnt_append, Go.Sl.cnt_cons, Go.Sl.cnt_nil, List.set_cons_zero, List.set_cons_succ, List.length_nil, List.length_cons, Nat.zero_add, List.append]; omega))⟩

theorem cutM_at {r : Rg} {l : List Rg} {i : Nat} (h : i < l.length) : cutM r (l.drop i) = if l[i].a < r.b then (below r l[i] ++ (above r l[i] ++ (cutM r (l.drop (i + 1))).1), (cutM r (l.drop (i + 1))).2 + 1) else ([], 0) := by
  rw [List.drop_eq_getElem_cons h, cutM]
theorem cutM_end {r : Rg} {l : List Rg} {i : Nat} (h : ¬ i < l.length) : cutM r (l.drop i) = ([], 0) := by
  rw [List.drop_eq_nil_of_le (by omega), cutM]

structure CutIx where
  k : Nat
  l : List Rg
  ao : Option Addr
  cap : Nat
  c : Hp

set_option maxHeartbeats 4000000 in
theorem setCut_c {B : Nat} {w0 : World} {G : List Hp} {R : Hp → List Hp} {m : SetM} {b : Nat} {c : Hp} {r : Rg} (hsel : Sel G c R) (hO : SetAt m b c) (hw : m.WF) (hr : RgIn r) :
    Go.Sl.Fn Try.prog 108 #[.pointer (some ⟨b, 0, none⟩), enR.val r] B w0 G fun u G' => ∃ c' : Hp, u = .int .i64 (m.cut r).2 ∧ SetAt (m.cut r).1 b c' ∧ G' = R c' := by
  refine Fn.sel0 hsel fun F hR hF => ?_
  have hO' := hO
  obtain ⟨ao, cap, cl, rfl, hL⟩ := hO
  have h2 := hw.len
  have hr2 := len2 _ hr
  have hr3 := one2 _ hr
  have hwl := hw.lim
  refine fn_enter Try.func108 rfl (by kernel_rfl) Try.ntmps108 (by simp) ?_
  refine cw_split ?_
  refine Go.Sl.cw_seq ?_
  refine Go.Sl.cw_region ?_
  (refine Go.Sl.ow_box rfl rfl rfl rfl ?_; intro b3)
  refine Go.Sl.ow_val rfl rfl (Go.Sl.v_assign rfl) ?_
  refine Go.Sl.ow_nil ?_
  refine Go.Sl.xw_then ?_
  refine Go.Sl.cw_seq ?_
  refine Go.Sl.cw_seq ?_
  refine Go.Sl.cw_region ?_
  refine Go.Sl.ow_val rfl rfl (Go.Sl.v_move rfl) ?_
  refine Go.Sl.ow_val rfl rfl (Go.Sl.v_eql_nil_some Try.underlying187 rfl) ?_
  refine Go.Sl.ow_nil ?_
  refine Go.Sl.xw_then ?_
  refine Go.Sl.cw_false rfl ?_
  refine Go.Sl.cw_skip ?_
  refine Go.Sl.xw_then ?_
  refine Go.Sl.cw_seq ?_
  refine Go.Sl.cw_seq ?_
  refine Go.Sl.cw_region ?_
  refine Go.Sl.ow_val rfl rfl (Go.Sl.v_load rfl (Go.Sl.Var.atN Ty.ag102 .here Go.Sl.GetN.all (by first | rfl | assumption))) ?_
  refine Go.Sl.ow_val rfl rfl (Go.Sl.v_call rfl rfl (empty_c)) ?_
  refine Go.Sl.ow_nil ?_
  refine Go.Sl.xw_then ?_
  refine Go.Sl.cw_dec rfl (fun hc14 => ?_) (fun hc14 => ?_)
  refine Go.Sl.cw_seq ?_
  refine Go.Sl.cw_region ?_
  refine Go.Sl.ow_val rfl rfl (Go.Sl.v_assign rfl) ?_
  refine Go.Sl.ow_nil ?_
  refine Go.Sl.xw_then ?_
  refine Go.Sl.cw_ret ?_
  refine Go.Sl.xw_then_ret ?_
  refine Go.Sl.ret1 rfl (Go.Sl.res_tmp rfl) ?_
  rotate_left
  refine Go.Sl.cw_skip ?_
  refine Go.Sl.xw_then ?_
  rotate_left
  · rw [show m.cut r = (m, 0) from by rw [SetM.cut, if_pos (by omega)]]
    exact ⟨_, rfl, ⟨ao, cap, cl, rfl, hL⟩, (by first | exact Go.Sl.Cov.refl _ | (intro p; simp only [List.flatten_cons, List.flatten_nil, List.flatten_append, List.append_nil, List.nil_append, Go.Sl.cnt_append, Go.Sl.cnt_cons, Go.Sl.cnt_nil, List.set_cons_zero, List.set_cons_succ, List.length_nil, List.length_cons, Nat.zero_add, List.append]; omega))⟩
  · have hne : r.a < r.b := by omega
    have h3 := @cutAt_le (fun x => decide (r.a < x.b)) m.l
    obtain ⟨f, hf⟩ : ∃ f, f = cutAt (fun x => decide (r.a < x.b)) m.l := ⟨_, rfl⟩
    rw [← hf] at h3
    have hbe : ∀ {G : List Hp}, Go.Sl.Sub ([(b, .cells [.int .i64 m.limit, .slice ao m.l.length cap].toArray 212 (0, 0))] ++ cl) G → Go.Sl.Fn Try.prog 131 #[.pointer (some ⟨b, 0, none⟩), .int .u64 r.a] B w0 G fun u G' => u = .int .i64 f ∧ G' = G := fun hs => by rw [hf]; exact behind_c hO' hs hw
    have hcs := cutS (hr.ok hne) (hw.good.drop f) fun x hx => by rw [hf] at hx; simpa using cutAt_post (hw.good.behinds r.a) x hx
    have hcl := hcs.le
    have hcn := hcs.len
    have hcd : cutL m.l r = m.l.take f ++ ((cutM r (m.l.drop f)).1 ++ m.l.drop (f + (cutM r (m.l.drop f)).2)) := by unfold cutL; rw [← hf]
    rw [List.length_drop] at hcl
    clear hf
    refine Go.Sl.cw_seq ?_
    refine Go.Sl.cw_region ?_
    refine Go.Sl.ow_val rfl rfl (Go.Sl.v_move rfl) ?_
    refine Go.Sl.ow_val rfl rfl (Go.Sl.v_fieldAddr0 Ty.fd102_0 rfl) ?_
    refine Go.Sl.ow_val rfl rfl (Go.Sl.v_load rfl (Go.Sl.Var.at1 Ty.sc22 .here (Go.Sl.GetN.lit rfl))) ?_
    refine Go.Sl.ow_val rfl rfl (Go.Sl.v_call rfl rfl (hbe (Sub.app (by repeat (first | exact Go.Sl.Sub.here | exact Go.Sl.Sub.nil | assumption | refine Go.Sl.Sub.there ?_)) (by repeat (first | exact Go.Sl.Sub.here | exact Go.Sl.Sub.nil | assumption | refine Go.Sl.Sub.there ?_))))) ?_
    refine Go.Sl.ow_val rfl rfl (Go.Sl.v_assign rfl) ?_
    refine Go.Sl.ow_nil ?_
    refine Go.Sl.xw_then ?_
    refine Go.Sl.cw_seq ?_
    refine Go.Sl.cw_region ?_
    refine Go.Sl.ow_val rfl rfl (Go.Sl.v_move rfl) ?_
    refine Go.Sl.ow_val rfl rfl (Go.Sl.v_assign rfl) ?_
    refine Go.Sl.ow_nil ?_
    refine Go.Sl.xw_then ?_
    refine Go.Sl.cw_seq ?_
    refine Go.Sl.cw_region ?_
    refine Go.Sl.ow_val rfl rfl (Go.Sl.v_assign rfl) ?_
    refine Go.Sl.ow_nil ?_
    refine Go.Sl.xw_then ?_
    refine Go.Sl.cw_seq ?_
    refine Go.Sl.cw_block ?_
    refine Go.Sl.cw_loop2 (ι := (CutIx)) [(0, _), (1, _), (3, _), (4, _), (5, _)] ⟨rfl, rfl, rfl, rfl, rfl, trivial⟩ ((fun x => [(6, .int .i64 ((f + x.k : Nat) : Int)), (7, .slice x.ao x.l.length x.cap)])) ((fun x => f + x.k ≤ m.l.length ∧ x.l.length ≤ 2 * x.k ∧ (cutM r (m.l.drop f)).1 = x.l ++ (cutM r (m.l.drop (f + x.k))).1 ∧ (cutM r (m.l.drop f)).2 = x.k + (cutM r (m.l.drop (f + x.k))).2 ∧ Ls enR 102 (.slice x.ao x.l.length x.cap) x.c x.l)) ((fun x => m.l.length - (f + x.k))) ((fun x => x.c :: [(b3, .cells r.cells.toArray 102 (0, 0))] :: [(b, .cells [.int .i64 m.limit, .slice ao m.l.length cap].toArray 212 (0, 0))] :: cl :: F)) ((⟨0, [], none, 0, []⟩ : CutIx)) (by repeat (first | exact True.intro | refine And.intro rfl ?_)) (by first | exact Go.Sl.Cov.refl _ | (intro p; simp only [List.flatten_cons, List.flatten_nil, List.flatten_append, List.append_nil, List.nil_append, Go.Sl.cnt_append, Go.Sl.cnt_cons, Go.Sl.cnt_nil, List.set_cons_zero, List.set_cons_succ, List.length_nil, List.length_cons, Nat.zero_add, List.append]; omega)) ?_ ?_
    · exact ⟨by dsimp only; omega, by simp, by simp, by simp, Ls.nil⟩
    rintro ⟨k, lt, aoT, capT, ct⟩ ⟨hk, hkl, hm1, hm2, hLt⟩
    dsimp only at hk hkl hm1 hm2 hLt ⊢
    refine Go.Sl.cw_seq ?_
    refine Go.Sl.cw_seq ?_
    refine Go.Sl.cw_quiet Ty.mixed (by decide +kernel) ?_
    refine Go.Sl.kw_val rfl rfl (Go.Sl.v_move rfl) ?_
    refine Go.Sl.kw_val rfl rfl (Go.Sl.v_move rfl) ?_
    refine Go.Sl.kw_val rfl rfl (Go.Sl.v_nilCheck rfl) ?_
    refine Go.Sl.kw_val rfl rfl (Go.Sl.v_fieldAddr0 Ty.fd212_1 rfl) ?_
    refine Go.Sl.kw_val rfl rfl (Go.Sl.v_load rfl (Go.Sl.Var.at1 Ty.sc27 (.there (.there .here)) (Go.Sl.GetN.lit rfl))) ?_
    refine Go.Sl.kw_val rfl rfl (Go.Sl.v_len rfl Try.underlying27 rfl) ?_
    refine Go.Sl.kw_val rfl rfl (Go.Sl.v_lss rfl rfl) ?_
    refine Go.Sl.kw_val rfl rfl (Go.Sl.v_move rfl) ?_
    refine Go.Sl.kw_dec 27 rfl (fun hc27 => ?_) (fun hc27 => ?_)
    refine Go.Sl.kw_val rfl rfl (Go.Sl.v_move rfl) ?_
    refine Go.Sl.kw_val rfl rfl (Go.Sl.v_nilCheck rfl) ?_
    refine Go.Sl.kw_val rfl rfl (Go.Sl.v_fieldAddr0 Ty.fd212_1 rfl) ?_
    refine Go.Sl.kw_val rfl rfl (Go.Sl.v_load rfl (Go.Sl.Var.at1 Ty.sc27 (.there (.there .here)) (Go.Sl.GetN.lit rfl))) ?_
    refine Go.Sl.kw_val rfl rfl (Go.Sl.v_move rfl) ?_
    refine Go.Sl.kw_val rfl rfl (Go.Sl.v_indexAddr_ls Try.underlying27 (rTy) rfl rfl (by assumption) rfl (by omega)) ?_
    refine Go.Sl.kw_val rfl rfl (Go.Sl.v_fieldAddr Ty.fd102_0 rfl) ?_
    refine Go.Sl.kw_val rfl rfl (Go.Sl.v_load rfl (Go.Sl.Vw.fld1 (rTy) Ty.sc22 (hL.vw (by repeat (first | exact Go.Sl.Sub.here | exact Go.Sl.Sub.nil | assumption | refine Go.Sl.Sub.there ?_))) (by omega) rfl)) ?_
    refine Go.Sl.kw_val rfl rfl (Go.Sl.v_fieldAddr0 Ty.fd102_1 rfl) ?_
    refine Go.Sl.kw_val rfl rfl (Go.Sl.v_load rfl (Go.Sl.Var.at1 Ty.sc22 (.there .here) (Go.Sl.GetN.lit rfl))) ?_
    refine Go.Sl.kw_val rfl rfl (Go.Sl.v_lss rfl rfl) ?_
    refine Go.Sl.kw_val rfl rfl (Go.Sl.v_pick_true rfl rfl) ?_
    refine Go.Sl.kw_nil ?_
    refine Go.Sl.xw_then ?_
    refine Go.Sl.cw_dec rfl (fun hc39 => ?_) (fun hc39 => ?_)
    refine Go.Sl.cw_skip ?_
    refine Go.Sl.xw_then ?_
    refine Go.Sl.cw_block ?_
    rotate_left
    refine Go.Sl.cw_exit ?_
    refine Go.Sl.xw_then_exit ?_
    refine Go.Sl.xw_round_exit ?_
    refine Go.Sl.xw_block_exit ?_
    refine Go.Sl.xw_then ?_
    rotate_left
    refine Go.Sl.kw_skip rfl rfl ?_
    refine Go.Sl.kw_skip rfl rfl ?_
    refine Go.Sl.kw_skip rfl rfl ?_
    refine Go.Sl.kw_skip rfl rfl ?_
    refine Go.Sl.kw_skip rfl rfl ?_
    refine Go.Sl.kw_skip rfl rfl ?_
    refine Go.Sl.kw_skip rfl rfl ?_
    refine Go.Sl.kw_skip rfl rfl ?_
    refine Go.Sl.kw_skip rfl rfl ?_
    refine Go.Sl.kw_skip rfl rfl ?_
    refine Go.Sl.kw_skip rfl rfl ?_
    refine Go.Sl.kw_val rfl rfl (Go.Sl.v_pick_false rfl rfl) ?_
    refine Go.Sl.kw_nil ?_
    refine Go.Sl.xw_then ?_
    refine Go.Sl.cw_false rfl ?_
    refine Go.Sl.cw_exit ?_
    refine Go.Sl.xw_then_exit ?_
    refine Go.Sl.xw_round_exit ?_
    refine Go.Sl.xw_block_exit ?_
    refine Go.Sl.xw_then ?_
    rotate_left
    · have hk2 : f + k < m.l.length := by omega
      have hok := hL.ok _ (List.getElem_mem hk2)
      have hk3 := len2 _ hok
      have hk4 := one2 _ hok
      have hce := cutM_at (r := r) hk2
      rw [if_pos hc39] at hce
      rw [hce] at hm1 hm2
      have hb1 : enR.ok ⟨(m.l[f + k]'hk2).a, r.a⟩ := ⟨hok.1, hr.1⟩
      have hb2 : enR.ok ⟨r.b, (m.l[f + k]'hk2).b⟩ := ⟨hr.2, hok.2⟩
      have hb3 := len2 _ hb1
      have hb4 := one2 _ hb1
      have hb5 := len2 _ hb2
      have hb6 := one2 _ hb2
      refine Go.Sl.cw_seq ?_
      refine Go.Sl.cw_region ?_
      refine Go.Sl.ow_val rfl rfl (Go.Sl.v_move rfl) ?_
      refine Go.Sl.ow_val rfl rfl (Go.Sl.v_nilCheck rfl) ?_
      refine Go.Sl.ow_val rfl rfl (Go.Sl.v_fieldAddr0 Ty.fd212_1 rfl) ?_
      refine Go.Sl.ow_val rfl rfl (Go.Sl.v_load rfl (Go.Sl.Var.at1 Ty.sc27 (.there (.there .here)) (Go.Sl.GetN.lit rfl))) ?_
      refine Go.Sl.ow_val rfl rfl (Go.Sl.v_move rfl) ?_
      refine Go.Sl.ow_val rfl rfl (Go.Sl.v_indexAddr_ls Try.underlying27 (rTy) rfl rfl (by assumption) rfl (by omega)) ?_
      refine Go.Sl.ow_val rfl rfl (Go.Sl.v_load rfl (Go.Sl.Vw.var (rTy) (hL.vw (by repeat (first | exact Go.Sl.Sub.here | exact Go.Sl.Sub.nil | assumption | refine Go.Sl.Sub.there ?_))) (by omega))) ?_
      (refine Go.Sl.ow_alloc rfl rfl Ty.ze102 ?_; intro b8)
      refine Go.Sl.ow_storeE rfl (rTy) rfl rfl .here (by first | rfl | assumption) (by assumption) ?_
      refine Go.Sl.ow_nil ?_
      refine Go.Sl.xw_then ?_
      refine Go.Sl.cw_seq ?_
      refine Go.Sl.cw_seq ?_
      refine Go.Sl.cw_region ?_
      refine Go.Sl.ow_val rfl rfl (Go.Sl.v_fieldAddr0 Ty.fd102_0 rfl) ?_
      refine Go.Sl.ow_val rfl rfl (Go.Sl.v_load rfl (Go.Sl.Var.at1 Ty.sc22 .here (Go.Sl.GetN.lit rfl))) ?_
      refine Go.Sl.ow_val rfl rfl (Go.Sl.v_fieldAddr0 Ty.fd102_0 rfl) ?_
      refine Go.Sl.ow_val rfl rfl (Go.Sl.v_load rfl (Go.Sl.Var.at1 Ty.sc22 (.there (.there .here)) (Go.Sl.GetN.lit rfl))) ?_
      refine Go.Sl.ow_val rfl rfl (Go.Sl.v_build rfl (b_rng)) ?_
      (refine Go.Sl.ow_alloc rfl rfl Ty.ze102 ?_; intro b9)
      refine Go.Sl.ow_storeE rfl (rTy) rfl rfl .here (by first | rfl | assumption) (by assumption) ?_
      refine Go.Sl.ow_nil ?_
      refine Go.Sl.xw_then ?_
      refine Go.Sl.cw_seq ?_
      refine Go.Sl.cw_region ?_
      refine Go.Sl.ow_val rfl rfl (Go.Sl.v_load rfl (Go.Sl.Var.atN Ty.ag102 .here Go.Sl.GetN.all (by first | rfl | assumption))) ?_
      refine Go.Sl.ow_val rfl rfl (Go.Sl.v_call rfl rfl (empty_c)) ?_
      refine Go.Sl.ow_val rfl rfl (Go.Sl.v_not rfl) ?_
      refine Go.Sl.ow_nil ?_
      refine Go.Sl.xw_then ?_
      refine Go.Sl.cw_dec rfl (fun hc54 => ?_) (fun hc54 => ?_)
      refine Go.Sl.cw_region ?_
      refine Go.Sl.ow_val rfl rfl (Go.Sl.v_move rfl) ?_
      refine Go.Sl.ow_val rfl rfl (Go.Sl.v_load rfl (Go.Sl.Var.atN Ty.ag102 .here Go.Sl.GetN.all (by first | rfl | assumption))) ?_
      (refine Go.Sl.ow_buildL (es := [(⟨(m.l[f + k]'hk2).a, r.a⟩)]) rfl rfl Try.underlying27 Ty.em27 (rTy) rfl rfl (by first | (simp [*]; done) | (repeat (first | exact List.forall_mem_nil _ | refine List.forall_mem_cons.2 ⟨?_, ?_⟩ | assumption | (show _ ∧ _; omega)))) (by simp only [List.length_cons, List.length_nil]; decide) ?_; intro ao57 c57 hL57)
      (refine Go.Sl.ow_appendL rfl rfl Try.underlying27 Try.underlying27 Ty.em27 (rTy) rfl rfl (by assumption) (by repeat (first | exact Go.Sl.Sel.here | apply Go.Sl.Sel.there)) (Go.Sl.Ls.vw (by assumption) (by repeat (first | exact Go.Sl.Sub.here | exact Go.Sl.Sub.nil | assumption | refine Go.Sl.Sub.there ?_))) (by first | omega | (simp only [List.length_append, List.length_take, List.length_drop, List.length_nil, List.length_cons]; omega)) (by first | omega | (simp only [List.length_append, List.length_take, List.length_drop, List.length_nil, List.length_cons]; omega)) ?_; intro ao58 cap58 c58 hL58)
      refine Go.Sl.ow_val rfl rfl (Go.Sl.v_assign rfl) ?_
      refine Go.Sl.ow_nil ?_
      refine Go.Sl.xw_then ?_
      refine Go.Sl.cw_seq ?_
      refine Go.Sl.cw_seq ?_
      refine Go.Sl.cw_region ?_
      refine Go.Sl.ow_val rfl rfl (Go.Sl.v_fieldAddr0 Ty.fd102_1 rfl) ?_
      refine Go.Sl.ow_val rfl rfl (Go.Sl.v_load rfl (Go.Sl.Var.at1 Ty.sc22 (.there (.there (.there (.there .here)))) (Go.Sl.GetN.lit rfl))) ?_
      refine Go.Sl.ow_val rfl rfl (Go.Sl.v_fieldAddr0 Ty.fd102_1 rfl) ?_
      refine Go.Sl.ow_val rfl rfl (Go.Sl.v_load rfl (Go.Sl.Var.at1 Ty.sc22 (.there (.there .here)) (Go.Sl.GetN.lit rfl))) ?_
      refine Go.Sl.ow_val rfl rfl (Go.Sl.v_build rfl (b_rng)) ?_
      (refine Go.Sl.ow_alloc rfl rfl Ty.ze102 ?_; intro b10)
      refine Go.Sl.ow_storeE rfl (rTy) rfl rfl .here (by first | rfl | assumption) (by assumption) ?_
      refine Go.Sl.ow_nil ?_
      refine Go.Sl.xw_then ?_
      refine Go.Sl.cw_seq ?_
      refine Go.Sl.cw_region ?_
      refine Go.Sl.ow_val rfl rfl (Go.Sl.v_load rfl (Go.Sl.Var.atN Ty.ag102 .here Go.Sl.GetN.all (by first | rfl | assumption))) ?_
      refine Go.Sl.ow_val rfl rfl (Go.Sl.v_call rfl rfl (empty_c)) ?_
      refine Go.Sl.ow_val rfl rfl (Go.Sl.v_not rfl) ?_
      refine Go.Sl.ow_nil ?_
      refine Go.Sl.xw_then ?_
      refine Go.Sl.cw_dec rfl (fun hc66 => ?_) (fun hc66 => ?_)
      refine Go.Sl.cw_region ?_
      refine Go.Sl.ow_val rfl rfl (Go.Sl.v_move rfl) ?_
      refine Go.Sl.ow_val rfl rfl (Go.Sl.v_load rfl (Go.Sl.Var.atN Ty.ag102 .here Go.Sl.GetN.all (by first | rfl | assumption))) ?_
      (refine Go.Sl.ow_buildL (es := [(⟨r.b, (m.l[f + k]'hk2).b⟩)]) rfl rfl Try.underlying27 Ty.em27 (rTy) rfl rfl (by first | (simp [*]; done) | (repeat (first | exact List.forall_mem_nil _ | refine List.forall_mem_cons.2 ⟨?_, ?_⟩ | assumption | (show _ ∧ _; omega)))) (by simp only [List.length_cons, List.length_nil]; decide) ?_; intro ao69 c69 hL69)
      (refine Go.Sl.ow_appendL rfl rfl Try.underlying27 Try.underlying27 Ty.em27 (rTy) rfl rfl (by assumption) (by repeat (first | exact Go.Sl.Sel.here | apply Go.Sl.Sel.there)) (Go.Sl.Ls.vw (by assumption) (by repeat (first | exact Go.Sl.Sub.here | exact Go.Sl.Sub.nil | assumption | refine Go.Sl.Sub.there ?_))) (by first | omega | (simp only [List.length_append, List.length_take, List.length_drop, List.length_nil, List.length_cons]; omega)) (by first | omega | (simp only [List.length_append, List.length_take, List.length_drop, List.length_nil, List.length_cons]; omega)) ?_; intro ao70 cap70 c70 hL70)
      refine Go.Sl.ow_val rfl rfl (Go.Sl.v_assign rfl) ?_
      refine Go.Sl.ow_nil ?_
      refine Go.Sl.xw_then ?_
      refine Go.Sl.cw_region ?_
      refine Go.Sl.ow_val rfl rfl (Go.Sl.v_move rfl) ?_
      refine Go.Sl.ow_val rfl rfl (Go.Sl.v_add rfl rfl (Go.Sl.nw_i64 (by omega) (by omega))) ?_
      refine Go.Sl.ow_val rfl rfl (Go.Sl.v_assign rfl) ?_
      refine Go.Sl.ow_nil ?_
      refine Go.Sl.xw_block ?_
      rotate_left
      refine Go.Sl.cw_skip ?_
      refine Go.Sl.xw_then ?_
      refine Go.Sl.cw_region ?_
      refine Go.Sl.ow_val rfl rfl (Go.Sl.v_move rfl) ?_
      refine Go.Sl.ow_val rfl rfl (Go.Sl.v_add rfl rfl (Go.Sl.nw_i64 (by omega) (by omega))) ?_
      refine Go.Sl.ow_val rfl rfl (Go.Sl.v_assign rfl) ?_
      refine Go.Sl.ow_nil ?_
      refine Go.Sl.xw_block ?_
      rotate_left
      refine Go.Sl.cw_skip ?_
      refine Go.Sl.xw_then ?_
      refine Go.Sl.cw_seq ?_
      refine Go.Sl.cw_seq ?_
      refine Go.Sl.cw_region ?_
      refine Go.Sl.ow_val rfl rfl (Go.Sl.v_fieldAddr0 Ty.fd102_1 rfl) ?_
      refine Go.Sl.ow_val rfl rfl (Go.Sl.v_load rfl (Go.Sl.Var.at1 Ty.sc22 (.there (.there (.there .here))) (Go.Sl.GetN.lit rfl))) ?_
      refine Go.Sl.ow_val rfl rfl (Go.Sl.v_fieldAddr0 Ty.fd102_1 rfl) ?_
      refine Go.Sl.ow_val rfl rfl (Go.Sl.v_load rfl (Go.Sl.Var.at1 Ty.sc22 (.there .here) (Go.Sl.GetN.lit rfl))) ?_
      refine Go.Sl.ow_val rfl rfl (Go.Sl.v_build rfl (b_rng)) ?_
      (refine Go.Sl.ow_alloc rfl rfl Ty.ze102 ?_; intro b10)
      refine Go.Sl.ow_storeE rfl (rTy) rfl rfl .here (by first | rfl | assumption) (by assumption) ?_
      refine Go.Sl.ow_nil ?_
      refine Go.Sl.xw_then ?_
      refine Go.Sl.cw_seq ?_
      refine Go.Sl.cw_region ?_
      refine Go.Sl.ow_val rfl rfl (Go.Sl.v_load rfl (Go.Sl.Var.atN Ty.ag102 .here Go.Sl.GetN.all (by first | rfl | assumption))) ?_
      refine Go.Sl.ow_val rfl rfl (Go.Sl.v_call rfl rfl (empty_c)) ?_
      refine Go.Sl.ow_val rfl rfl (Go.Sl.v_not rfl) ?_
      refine Go.Sl.ow_nil ?_
      refine Go.Sl.xw_then ?_
      refine Go.Sl.cw_dec rfl (fun hc66 => ?_) (fun hc66 => ?_)
      refine Go.Sl.cw_region ?_
      refine Go.Sl.ow_val rfl rfl (Go.Sl.v_move rfl) ?_
      refine Go.Sl.ow_val rfl rfl (Go.Sl.v_load rfl (Go.Sl.Var.atN Ty.ag102 .here Go.Sl.GetN.all (by first | rfl | assumption))) ?_
      (refine Go.Sl.ow_buildL (es := [(⟨r.b, (m.l[f + k]'hk2).b⟩)]) rfl rfl Try.underlying27 Ty.em27 (rTy) rfl rfl (by first | (simp [*]; done) | (repeat (first | exact List.forall_mem_nil _ | refine List.forall_mem_cons.2 ⟨?_, ?_⟩ | assumption | (show _ ∧ _; omega)))) (by simp only [List.length_cons, List.length_nil]; decide) ?_; intro ao69 c69 hL69)
      (refine Go.Sl.ow_appendL rfl rfl Try.underlying27 Try.underlying27 Ty.em27 (rTy) rfl rfl (by assumption) (by repeat (first | exact Go.Sl.Sel.here | apply Go.Sl.Sel.there)) (Go.Sl.Ls.vw (by assumption) (by repeat (first | exact Go.Sl.Sub.here | exact Go.Sl.Sub.nil | assumption | refine Go.Sl.Sub.there ?_))) (by first | omega | (simp only [List.length_append, List.length_take, List.length_drop, List.length_nil, List.length_cons]; omega)) (by first | omega | (simp only [List.length_append, List.length_take, List.length_drop, List.length_nil, List.length_cons]; omega)) ?_; intro ao70 cap70 c70 hL70)
      refine Go.Sl.ow_val rfl rfl (Go.Sl.v_assign rfl) ?_
      refine Go.Sl.ow_nil ?_
      refine Go.Sl.xw_then ?_
      refine Go.Sl.cw_region ?_
      refine Go.Sl.ow_val rfl rfl (Go.Sl.v_move rfl) ?_
      refine Go.Sl.ow_val rfl rfl (Go.Sl.v_add rfl rfl (Go.Sl.nw_i64 (by omega) (by omega))) ?_
      refine Go.Sl.ow_val rfl rfl (Go.Sl.v_assign rfl) ?_
      refine Go.Sl.ow_nil ?_
      refine Go.Sl.xw_block ?_
      rotate_left
      refine Go.Sl.cw_skip ?_
      refine Go.Sl.xw_then ?_
      refine Go.Sl.cw_region ?_
      refine Go.Sl.ow_val rfl rfl (Go.Sl.v_move rfl) ?_
      refine Go.Sl.ow_val rfl rfl (Go.Sl.v_add rfl rfl (Go.Sl.nw_i64 (by omega) (by omega))) ?_
      refine Go.Sl.ow_val rfl rfl (Go.Sl.v_assign rfl) ?_
      refine Go.Sl.ow_nil ?_
      refine Go.Sl.xw_block ?_
      rotate_left
      · have e1 : below r (m.l[f + k]'hk2) = [⟨(m.l[f + k]'hk2).a, r.a⟩] := if_pos (by dsimp only at hc54; omega)
        have e2 : above r (m.l[f + k]'hk2) = [⟨r.b, (m.l[f + k]'hk2).b⟩] := if_pos (by dsimp only at hc66; omega)
        rw [e1, e2] at hm1
        exact xw_round (⟨k + 1, lt ++ [⟨(m.l[f + k]'hk2).a, r.a⟩] ++ [⟨r.b, (m.l[f + k]'hk2).b⟩], ao70, cap70, c70⟩ : CutIx) ⟨by dsimp only; omega, by simp; omega, by rw [hm1]; simp only [List.append_assoc]; rfl, by rw [hm2]; dsimp only; rw [show f + (k + 1) = f + k + 1 by omega]; omega, hL70⟩ (by dsimp only; omega) (by first | exact Go.Sl.Cov.refl _ | (intro p; simp only [List.flatten_cons, List.flatten_nil, List.flatten_append, List.append_nil, List.nil_append, Go.Sl.cnt_append, Go.Sl.cnt_cons, Go.Sl.cnt_nil, List.set_cons_zero, List.set_cons_succ, List.length_nil, List.length_cons, Nat.zero_add, List.append]; omega)) (by repeat (first | exact True.intro | refine And.intro rfl ?_))
      · have e1 : below r (m.l[f + k]'hk2) = [⟨(m.l[f + k]'hk2).a, r.a⟩] := if_pos (by dsimp only at hc54; omega)
        have e2 : above r (m.l[f + k]'hk2) = [] := if_neg (by dsimp only at hc66; omega)
        rw [e1, e2] at hm1
        exact xw_round (⟨k + 1, lt ++ [⟨(m.l[f + k]'hk2).a, r.a⟩], ao58, cap58, c58⟩ : CutIx) ⟨by dsimp only; omega, by simp; omega, by rw [hm1]; simp only [List.append_assoc]; rfl, by rw [hm2]; dsimp only; rw [show f + (k + 1) = f + k + 1 by omega]; omega, hL58⟩ (by dsimp only; omega) (by first | exact Go.Sl.Cov.refl _ | (intro p; simp only [List.flatten_cons, List.flatten_nil, List.flatten_append, List.append_nil, List.nil_append, Go.Sl.cnt_append, Go.Sl.cnt_cons, Go.Sl.cnt_nil, List.set_cons_zero, List.set_cons_succ, List.length_nil, List.length_cons, Nat.zero_add, List.append]; omega)) (by repeat (first | exact True.intro | refine And.intro rfl ?_))
      · have e1 : below r (m.l[f + k]'hk2) = [] := if_neg (by dsimp only at hc54; omega)
        have e2 : above r (m.l[f + k]'hk2) = [⟨r.b, (m.l[f + k]'hk2).b⟩] := if_pos (by dsimp only at hc66; omega)
        rw [e1, e2] at hm1
        exact xw_round (⟨k + 1, lt ++ [⟨r.b, (m.l[f + k]'hk2).b⟩], ao70, cap70, c70⟩ : CutIx) ⟨by dsimp only; omega, by simp; omega, by rw [hm1]; simp only [List.append_assoc]; rfl, by rw [hm2]; dsimp only; rw [show f + (k + 1) = f + k + 1 by omega]; omega, hL70⟩ (by dsimp only; omega) (by first | exact Go.Sl.Cov.refl _ | (intro p; simp only [List.flatten_cons, List.flatten_nil, List.flatten_append, List.append_nil, List.nil_append, Go.Sl.cnt_append, Go.Sl.cnt_cons, Go.Sl.cnt_nil, List.set_cons_zero, List.set_cons_succ, List.length_nil, List.length_cons, Nat.zero_add, List.append]; omega)) (by repeat (first | exact True.intro | refine And.intro rfl ?_))
      · have e1 : below r (m.l[f + k]'hk2) = [] := if_neg (by dsimp only at hc54; omega)
        have e2 : above r (m.l[f + k]'hk2) = [] := if_neg (by dsimp only at hc66; omega)
        rw [e1, e2] at hm1
        exact xw_round (⟨k + 1, lt, aoT, capT, ct⟩ : CutIx) ⟨by dsimp only; omega, by dsimp only; omega, by rw [hm1]; rfl, by rw [hm2]; dsimp only; rw [show f + (k + 1) = f + k + 1 by omega]; omega, hLt⟩ (by dsimp only; omega) (by first | exact Go.Sl.Cov.refl _ | (intro p; simp only [List.flatten_cons, List.flatten_nil, List.flatten_append, List.append_nil, List.nil_append, Go.Sl.cnt_append, Go.Sl.cnt_cons, Go.Sl.cnt_nil, List.set_cons_zero, List.set_cons_succ, List.length_nil, List.length_cons, Nat.zero_add, List.append]; omega)) (by repeat (first | exact True.intro | refine And.intro rfl ?_))
    all_goals
      have he : cutM r (m.l.drop (f + k)) = ([], 0) := by
        by_cases hlt : f + k < m.l.length
        · have h := cutM_at (r := r) hlt
          rw [if_neg (by omega)] at h
          exact h
        · exact cutM_end hlt
      rw [he] at hm1 hm2
      dsimp only at hm1 hm2
      rw [List.append_nil] at hm1
      rw [Nat.add_zero] at hm2
      rw [hm1, hm2] at hcd
      have hcdl : (cutL m.l r).length = f + lt.length + (m.l.length - (f + k)) := by rw [hcd, List.length_append, List.length_append, List.length_take, List.length_drop]; omega
      refine Go.Sl.cw_seq ?_
      refine Go.Sl.cw_seq ?_
      refine Go.Sl.cw_quiet Ty.mixed (by decide +kernel) ?_
      refine Go.Sl.kw_val rfl rfl (Go.Sl.v_move rfl) ?_
      refine Go.Sl.kw_val rfl rfl (Go.Sl.v_nilCheck rfl) ?_
      refine Go.Sl.kw_val rfl rfl (Go.Sl.v_fieldAddr0 Ty.fd212_1 rfl) ?_
      refine Go.Sl.kw_val rfl rfl (Go.Sl.v_load rfl (Go.Sl.Var.at1 Ty.sc27 (.there (.there .here)) (Go.Sl.GetN.lit rfl))) ?_
      refine Go.Sl.kw_val rfl rfl (Go.Sl.v_len rfl Try.underlying27 rfl) ?_
      refine Go.Sl.kw_val rfl rfl (Go.Sl.v_move rfl) ?_
      refine Go.Sl.kw_val rfl rfl (Go.Sl.v_move rfl) ?_
      refine Go.Sl.kw_val rfl rfl (Go.Sl.v_sub rfl rfl (Go.Sl.nw_i64 (by omega) (by omega))) ?_
      refine Go.Sl.kw_val rfl rfl (Go.Sl.v_sub rfl rfl (Go.Sl.nw_i64 (by omega) (by omega))) ?_
      refine Go.Sl.kw_val rfl rfl (Go.Sl.v_move rfl) ?_
      refine Go.Sl.kw_val rfl rfl (Go.Sl.v_len rfl Try.underlying27 rfl) ?_
      refine Go.Sl.kw_val rfl rfl (Go.Sl.v_add rfl rfl (Go.Sl.nw_i64 (by omega) (by omega))) ?_
      refine Go.Sl.kw_val rfl rfl (Go.Sl.v_move rfl) ?_
      refine Go.Sl.kw_val rfl rfl (Go.Sl.v_call rfl rfl (most_c hO' (Sub.app (by repeat (first | exact Go.Sl.Sub.here | exact Go.Sl.Sub.nil | assumption | refine Go.Sl.Sub.there ?_)) (by repeat (first | exact Go.Sl.Sub.here | exact Go.Sl.Sub.nil | assumption | refine Go.Sl.Sub.there ?_))))) ?_
      refine Go.Sl.kw_val rfl rfl (Go.Sl.v_gtr rfl rfl) ?_
      refine Go.Sl.kw_nil ?_
      refine Go.Sl.xw_then ?_
      refine Go.Sl.cw_dec rfl (fun hc87 => ?_) (fun hc87 => ?_)
      refine Go.Sl.cw_seq ?_
      refine Go.Sl.cw_region ?_
      refine Go.Sl.ow_val rfl rfl (Go.Sl.v_assign rfl) ?_
      refine Go.Sl.ow_nil ?_
      refine Go.Sl.xw_then ?_
      refine Go.Sl.cw_ret ?_
      refine Go.Sl.xw_then_ret ?_
      refine Go.Sl.ret1 rfl (Go.Sl.res_tmp rfl) ?_
      rotate_left
      refine Go.Sl.cw_skip ?_
      refine Go.Sl.xw_then ?_
      refine Go.Sl.cw_seq ?_
      refine Go.Sl.cw_region ?_
      refine Go.Sl.ow_val rfl rfl (Go.Sl.v_move rfl) ?_
      refine Go.Sl.ow_val rfl rfl (Go.Sl.v_move rfl) ?_
      refine Go.Sl.ow_val rfl rfl (Go.Sl.v_nilCheck rfl) ?_
      refine Go.Sl.ow_val rfl rfl (Go.Sl.v_fieldAddr0 Ty.fd212_1 rfl) ?_
      refine Go.Sl.ow_val rfl rfl (Go.Sl.v_load rfl (Go.Sl.Var.at1 Ty.sc27 (.there (.there .here)) (Go.Sl.GetN.lit rfl))) ?_
      refine Go.Sl.ow_val rfl rfl (Go.Sl.v_move rfl) ?_
      refine Go.Sl.ow_val rfl rfl (Go.Sl.v_move rfl) ?_
      refine Go.Sl.ow_val rfl rfl (Go.Sl.v_move rfl) ?_
      (refine Go.Sl.ow_call rfl rfl rfl rfl (replaceR_c (i := f) (j := f + k) (l2 := lt) rfl rfl (by repeat (first | exact Go.Sl.Sel.here | apply Go.Sl.Sel.there)) hL hLt (by first | exact Go.Sl.Cov.refl _ | (intro p; simp only [List.flatten_cons, List.flatten_nil, List.flatten_append, List.append_nil, List.nil_append, Go.Sl.cnt_append, Go.Sl.cnt_cons, Go.Sl.cnt_nil, List.set_cons_zero, List.set_cons_succ, List.length_nil, List.length_cons, Nat.zero_add, List.append]; omega)) (by omega) (by omega) (by omega)) ?_; rintro _ _ ⟨x96, rfl, hq96, rfl⟩)
      refine Go.Sl.ow_val rfl rfl (Go.Sl.v_nilCheck rfl) ?_
      refine Go.Sl.ow_val rfl rfl (Go.Sl.v_fieldAddr0 Ty.fd212_1 rfl) ?_
      refine Go.Sl.ow_store1 rfl rfl rfl rfl Ty.sc27 (.there (.there .here)) (Go.Sl.SetN.one (by first | decide | exact Nat.le_of_ble_eq_true rfl)) ?_
      refine Go.Sl.ow_nil ?_
      refine Go.Sl.xw_then ?_
      refine Go.Sl.cw_seq ?_
      refine Go.Sl.cw_region ?_
      refine Go.Sl.ow_val rfl rfl (Go.Sl.v_assign rfl) ?_
      refine Go.Sl.ow_nil ?_
      refine Go.Sl.xw_then ?_
      refine Go.Sl.cw_ret ?_
      refine Go.Sl.ret1 rfl (Go.Sl.res_tmp rfl) ?_
      rotate_left
      · rw [show m.cut r = (m, 7) from by rw [SetM.cut, if_neg (by omega), if_pos (by rw [hcdl]; omega)]]
        exact ⟨_, rfl, ⟨ao, cap, cl, rfl, hL⟩, (by first | exact Go.Sl.Cov.refl _ | (intro p; simp only [List.flatten_cons, List.flatten_nil, List.flatten_append, List.append_nil, List.nil_append, Go.Sl.cnt_append, Go.Sl.cnt_cons, Go.Sl.cnt_nil, List.set_cons_zero, List.set_cons_succ, List.length_nil, List.length_cons, Nat.zero_add, List.append]; omega))⟩
      · rw [show m.cut r = (⟨m.limit, cutL m.l r⟩, 0) from by rw [SetM.cut, if_neg (by omega), if_neg (by rw [hcdl]; omega)], hcd]
        exact ⟨_, rfl, ⟨x96.1, x96.2.1, x96.2.2, rfl, hq96⟩, (by first | exact Go.Sl.Cov.refl _ | (intro p; simp only [List.flatten_cons, List.flatten_nil, List.flatten_append, List.append_nil, List.nil_append, Go.Sl.cnt_append, Go.Sl.cnt_cons, Go.Sl.cnt_nil, List.set_cons_zero, List.set_cons_succ, List.length_nil, List.length_cons, Nat.zero_add, List.append]; omega))⟩
end Go.Proofs.Ytckdhelnafjddaa
