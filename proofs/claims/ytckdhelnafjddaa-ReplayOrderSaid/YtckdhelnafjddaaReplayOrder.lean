/- ReplayOrder: whatever the input it returns true, and the input reads as it did. Conditions: none. -/
import Derived.Test.YtckdhelnafjddaaRpO
namespace Go.Proofs.Ytckdhelnafjddaa.lawReplayOrder
open Go Go.Sl Go.Proofs Go.RowKit Go.ChangeShapes Go.WideShapes Go.ChangeAt Go.Proofs.Ytckdhelnafjddaa
set_option maxRecDepth 20000
set_option linter.unusedVariables false
set_option linter.unusedSimpArgs false

structure FoG where
  i : Nat
  s : StM
  p : StP
  E : Hp
theorem many_pos {k : Int} {n : Nat} (h : 2 ≤ k ∧ k ≤ 7) (hn : (n : Int) = manyK k.toNat) : 0 < n := by
  have h1 : k = 2 ∨ k = 3 ∨ k = 4 ∨ k = 5 ∨ k = 6 ∨ k = 7 := by omega
  rcases h1 with rfl | rfl | rfl | rfl | rfl | rfl <;> (simp [manyK] at hn; omega)
theorem at_nonneg {e : EvM} (h : e.ok) : 0 ≤ e.at 0 := by
  unfold EvM.at
  cases hn : e.n with
  | nil => exact Int.le_refl _
  | cons x l => exact (h.n x (by rw [hn]; exact List.mem_cons_self ..)).1
theorem deep_l {B : Nat} {w0 : World} {e : EvM} {p : EvP} {D E : Hp} (h : EvDeep B w0 e p D) : EvDeep B w0 e p (D ++ E) := fun G hs => h G hs.left
theorem deep_r {B : Nat} {w0 : World} {e : EvM} {p : EvP} {D E : Hp} (h : EvDeep B w0 e p E) : EvDeep B w0 e p (D ++ E) := fun G hs => h G hs.right
theorem is_deep {B : Nat} {w0 : World} {x : EvF} (h : x.Is) : EvDeep B w0 x.m x.p (x.cn ++ x.cd) := fun G hs => ⟨h.ln.vw hs.left, h.rd B w0 G hs.right⟩
set_option maxHeartbeats 8000000 in
theorem law {B : Nat} {w0 : World} {es : List EvE} {xs : List UInt8} {ao bo : Option Addr} {ca cb : Nat} {x y : EvE} {k1 k2 : Int} (hn : es.length ≤ 9223372036854775807) (hx : xs.length ≤ 9223372036854775807) (hV : ∀ G, Vw enEv (St B w0 G) (.slice ao es.length ca) es) (hX : ∀ G, Vw enB (St B w0 G) (.slice bo xs.length cb) xs) (hD : ∀ e ∈ es, EvDeep B w0 e.m e.p [])
    (hxo : x.m.ok) (hyo : y.m.ok) (hxD : EvDeep B w0 x.m x.p []) (hyD : EvDeep B w0 y.m y.p []) (hk1 : 0 ≤ k1 ∧ k1 ≤ 255) (hk2 : 0 ≤ k2 ∧ k2 ≤ 255) :
    FnC Try.prog 7 #[.slice ao es.length ca, .slice bo xs.length cb, .agg (x.m.cells x.p).toArray, .agg (y.m.cells y.p).toArray, .int .u8 k1, .int .u8 k2] B w0 [] (R0 (.bool true)) := fun F => by
  have c1 : ∀ u ∈ x.m.cells x.p, u.oneCell' = true := EvM.cells_one
  have c2 : (x.m.cells x.p).length = 4 := rfl
  have c3 : ∀ u ∈ y.m.cells y.p, u.oneCell' = true := EvM.cells_one
  have c4 : (y.m.cells y.p).length = 4 := rfl
  have oxy : enEv.ok x := hxo
  have oyy : enEv.ok y := hyo
  refine fn_enter Try.func7 rfl (by kernel_rfl) Try.ntmps7 (by simp) ?_
  refine Go.Sl.cw_seq ?_
  refine Go.Sl.cw_region ?_
  (refine Go.Sl.ow_box rfl rfl rfl rfl ?_; intro b8)
  (refine Go.Sl.ow_box rfl rfl rfl rfl ?_; intro b9)
  refine Go.Sl.ow_val rfl rfl (Go.Sl.v_assign rfl) ?_
  refine Go.Sl.ow_nil ?_
  refine Go.Sl.xw_then ?_
  refine Go.Sl.cw_seq ?_
  refine Go.Sl.cw_seq ?_
  refine Go.Sl.cw_region ?_
  refine Go.Sl.ow_val rfl rfl (Go.Sl.v_call rfl rfl (awake28_c)) ?_
  refine Go.Sl.ow_val rfl rfl (Go.Sl.v_not_true rfl) ?_
  refine Go.Sl.ow_nil ?_
  refine Go.Sl.xw_then ?_
  refine Go.Sl.cw_false rfl ?_
  refine Go.Sl.cw_skip ?_
  refine Go.Sl.xw_then ?_
  refine Go.Sl.cw_seq ?_
  refine Go.Sl.cw_seq ?_
  refine Go.Sl.cw_region ?_
  refine Go.Sl.ow_val rfl rfl (Go.Sl.v_move rfl) ?_
  (refine Go.Sl.ow_call rfl rfl rfl rfl (evLight_c (hV _) hn) ?_; rintro _ _ ⟨x28, rfl, hq28, rfl⟩)
  refine Go.Sl.ow_val rfl rfl (Go.Sl.v_not_bool rfl) ?_
  refine Go.Sl.ow_val rfl rfl (Go.Sl.v_move rfl) ?_
  refine Go.Sl.ow_bool 30 rfl (fun hc30 => ?_) (fun hc30 => ?_)
  refine Go.Sl.ow_skip rfl rfl ?_
  refine Go.Sl.ow_skip rfl rfl ?_
  refine Go.Sl.ow_skip rfl rfl ?_
  refine Go.Sl.ow_skip rfl rfl ?_
  refine Go.Sl.ow_skip rfl rfl ?_
  refine Go.Sl.ow_val rfl rfl (Go.Sl.v_pick_true rfl rfl) ?_
  refine Go.Sl.ow_nil ?_
  refine Go.Sl.xw_then ?_
  refine Go.Sl.cw_true rfl ?_
  refine Go.Sl.cw_seq ?_
  refine Go.Sl.cw_region ?_
  refine Go.Sl.ow_val rfl rfl (Go.Sl.v_assign rfl) ?_
  refine Go.Sl.ow_nil ?_
  refine Go.Sl.xw_then ?_
  refine Go.Sl.cw_ret ?_
  refine Go.Sl.xw_then_ret ?_
  refine Go.Sl.ret1 rfl (Go.Sl.res_tmp rfl) ?_
  rotate_left
  refine Go.Sl.ow_val rfl rfl (Go.Sl.v_load rfl (Go.Sl.Var.atN Ty.ag62 (.there .here) Go.Sl.GetN.all (by first | rfl | assumption))) ?_
  refine Go.Sl.ow_val rfl rfl (Go.Sl.v_load rfl (Go.Sl.Var.atN Ty.ag62 .here Go.Sl.GetN.all (by first | rfl | assumption))) ?_
  (refine Go.Sl.ow_buildL (es := ([x, y])) rfl rfl Try.underlying57 Ty.em57 (evTy) rfl rfl (by first | (simp [*]; done) | (repeat (first | exact List.forall_mem_nil _ | refine List.forall_mem_cons.2 ⟨?_, ?_⟩ | assumption | (show _ ∧ _; omega)))) (by simp only [List.length_cons, List.length_nil]; decide) ?_; intro ao33 c33 hL33)
  (refine Go.Sl.ow_call rfl rfl rfl rfl (evLight_c (l := [x, y]) (Go.Sl.Ls.vw (by assumption) (by repeat (first | exact Go.Sl.Sub.here | exact Go.Sl.Sub.nil | assumption | refine Go.Sl.Sub.there ?_))) (by show 2 ≤ 9223372036854775807; decide)) ?_; rintro _ _ ⟨x34, rfl, hq34, rfl⟩)
  refine Go.Sl.ow_val rfl rfl (Go.Sl.v_not_bool rfl) ?_
  refine Go.Sl.ow_val rfl rfl (Go.Sl.v_pick_false rfl rfl) ?_
  refine Go.Sl.ow_nil ?_
  refine Go.Sl.xw_then ?_
  refine Go.Sl.cw_bool rfl (fun hc36 => ?_) (fun hc36 => ?_)
  refine Go.Sl.cw_seq ?_
  refine Go.Sl.cw_region ?_
  refine Go.Sl.ow_val rfl rfl (Go.Sl.v_assign rfl) ?_
  refine Go.Sl.ow_nil ?_
  refine Go.Sl.xw_then ?_
  refine Go.Sl.cw_ret ?_
  refine Go.Sl.xw_then_ret ?_
  refine Go.Sl.ret1 rfl (Go.Sl.res_tmp rfl) ?_
  rotate_left
  refine Go.Sl.cw_skip ?_
  refine Go.Sl.xw_then ?_
  rotate_left
  · exact done0 rfl (by first | exact Go.Sl.Cov.refl _ | (intro p; simp only [List.flatten_cons, List.flatten_nil, List.flatten_append, List.append_nil, List.nil_append, Go.Sl.cnt_append, Go.Sl.cnt_cons, Go.Sl.cnt_nil, List.set_cons_zero, List.set_cons_succ, List.length_nil, List.length_cons, Nat.zero_add, List.append]; omega))
  · exact done0 rfl (by first | exact Go.Sl.Cov.refl _ | (intro p; simp only [List.flatten_cons, List.flatten_nil, List.flatten_append, List.append_nil, List.nil_append, Go.Sl.cnt_append, Go.Sl.cnt_cons, Go.Sl.cnt_nil, List.set_cons_zero, List.set_cons_succ, List.length_nil, List.length_cons, Nat.zero_add, List.append]; omega))
  obtain ⟨h60, hli⟩ : es.length ≤ 60 ∧ ∀ e ∈ es, e.m.n.length ≤ 30 ∧ e.m.d.length ≤ 100 := hq28 (by simpa using hc30)
  obtain ⟨_, hxy⟩ : [x, y].length ≤ 60 ∧ ∀ e ∈ [x, y], e.m.n.length ≤ 30 ∧ e.m.d.length ≤ 100 := hq34 (by simpa using hc36)
  have hxb := hxy x (by simp)
  have hyb := hxy y (by simp)
  clear hq28 hc30 hq34 hc36 hxy
  have hcl : ∀ (s : StM) (p : StP), s.WF → (s.cells p).length = 37 := fun s p h => StM.cells_len h
  have hco : ∀ (s : StM) (p : StP), ∀ u ∈ s.cells p, u.oneCell' = true := fun s p => StM.cells_one
  have hzl : ∀ (s : StM) (p : StP), s.WF → (s.cells p).length = zeroL.length := hcl
  refine Go.Sl.cw_seq ?_
  refine Go.Sl.cw_region ?_
  (refine Go.Sl.ow_call rfl rfl rfl rfl (stNew_c) ?_; rintro _ _ ⟨x37, rfl, hq37, rfl⟩)
  (refine Go.Sl.ow_alloc rfl rfl Ty.ze75 ?_; intro b13)
  obtain ⟨p9, D9⟩ := x37
  obtain ⟨hD9, hl9⟩ := hq37
  dsimp only at hD9 hl9 ⊢
  have k3 := hzl StM.zero p9 StM.zero_wf
  have k4 := hco StM.zero p9
  refine ow_cov ([(b13, .cells zeroL.toArray 75 (0, 0))] :: D9 :: [(b9, .cells (y.m.cells y.p).toArray 62 (0, 0))] :: [(b8, .cells (x.m.cells x.p).toArray 62 (0, 0))] :: F) (by unfold zeroL; exact (by first | exact Go.Sl.Cov.refl _ | (intro p; simp only [List.flatten_cons, List.flatten_nil, List.flatten_append, List.append_nil, List.nil_append, Go.Sl.cnt_append, Go.Sl.cnt_cons, Go.Sl.cnt_nil, List.set_cons_zero, List.set_cons_succ, List.length_nil, List.length_cons, Nat.zero_add, List.append]; omega))) ?_
  refine Go.Sl.ow_storeN rfl rfl rfl Ty.ag75 (by first | rfl | assumption) (by first | assumption | simp) .here ((SetN.all k3)) ?_
  refine Go.Sl.ow_nil ?_
  refine Go.Sl.xw_then ?_
  refine Go.Sl.cw_seq ?_
  refine Go.Sl.cw_seq ?_
  refine Go.Sl.cw_region ?_
  refine Go.Sl.ow_val rfl rfl (Go.Sl.v_move rfl) ?_
  refine Go.Sl.ow_val rfl rfl (Go.Sl.v_len rfl Try.underlying57 rfl) ?_
  refine Go.Sl.ow_val rfl rfl (Go.Sl.v_move rfl) ?_
  refine Go.Sl.ow_nil ?_
  refine Go.Sl.xw_then ?_
  refine Go.Sl.cw_block ?_
  refine Go.Sl.cw_loop2 (ι := (FoG)) [(1, _), (2, _), (3, _), (4, _), (5, _), (8, _), (9, _), (12, _), (13, _), (38, _), (39, _)] ⟨rfl, rfl, rfl, rfl, rfl, rfl, rfl, rfl, rfl, rfl, rfl, trivial⟩ ((fun z => [(40, .int .i64 z.i)])) ((fun z => z.i ≤ es.length ∧ z.s.WF ∧ z.s.Sz z.i ∧ StDeep z.s z.p z.E ∧ z.p.live)) ((fun z => es.length - z.i)) ((fun z => [(b13, .cells (z.s.cells z.p).toArray 75 (0, 0))] :: z.E :: [(b9, .cells (y.m.cells y.p).toArray 62 (0, 0))] :: [(b8, .cells (x.m.cells x.p).toArray 62 (0, 0))] :: F)) ((⟨0, StM.zero, p9, D9⟩ : FoG)) (by repeat (first | exact True.intro | refine And.intro rfl ?_)) (by first | exact Go.Sl.Cov.refl _ | (intro p; simp only [List.flatten_cons, List.flatten_nil, List.flatten_append, List.append_nil, List.nil_append, Go.Sl.cnt_append, Go.Sl.cnt_cons, Go.Sl.cnt_nil, List.set_cons_zero, List.set_cons_succ, List.length_nil, List.length_cons, Nat.zero_add, List.append]; omega)) ?_ ?_
  · exact ⟨Nat.zero_le _, StM.zero_wf, StM.zero_sz, hD9, hl9⟩
  rintro ⟨j, s, p, E⟩ ⟨hj, hw, hz, hS, hlv⟩
  dsimp only at hj hw hz hS hlv ⊢
  have m1 := hcl s p hw
  have m2 := hco s p
  refine Go.Sl.cw_seq ?_
  refine Go.Sl.cw_region ?_
  refine Go.Sl.ow_val rfl rfl (Go.Sl.v_lss rfl rfl) ?_
  refine Go.Sl.ow_nil ?_
  refine Go.Sl.xw_then ?_
  refine Go.Sl.cw_seq ?_
  refine Go.Sl.cw_dec rfl (fun hc41 => ?_) (fun hc41 => ?_)
  refine Go.Sl.cw_skip ?_
  refine Go.Sl.xw_then ?_
  rotate_left
  refine Go.Sl.cw_exit ?_
  refine Go.Sl.xw_then_exit ?_
  refine Go.Sl.xw_round_exit ?_
  refine Go.Sl.xw_block_exit ?_
  refine Go.Sl.xw_then ?_
  rotate_left
  · have hj2 : j < es.length := by omega
    have hVj := hV F
    have hokj := (hV []).ok _ (List.getElem_mem hj2)
    have hoe : (es[j]).m.ok := hokj
    have hcj : ∀ u ∈ (es[j]).m.cells (es[j]).p, u.oneCell' = true := EvM.cells_one
    have hlj4 : ((es[j]).m.cells (es[j]).p).length = 4 := rfl
    have hDj := hD _ (List.getElem_mem hj2)
    have hb := hli _ (List.getElem_mem hj2)
    refine Go.Sl.cw_seq ?_
    refine Go.Sl.cw_block ?_
    refine Go.Sl.cw_seq ?_
    refine Go.Sl.cw_region ?_
    refine Go.Sl.ow_val rfl rfl (Go.Sl.v_move rfl) ?_
    refine Go.Sl.ow_val rfl rfl (Go.Sl.v_indexAddr_vw Try.underlying57 (evTy) rfl rfl (by assumption) rfl (by omega)) ?_
    refine Go.Sl.ow_val rfl rfl (Go.Sl.v_load rfl (Go.Sl.Vw.var (evTy) ((hV _)) (by omega))) ?_
    (refine Go.Sl.ow_alloc rfl rfl Ty.ze62 ?_; intro b15)
    refine Go.Sl.ow_val rfl rfl (Go.Sl.v_assign rfl) ?_
    refine Go.Sl.ow_storeE rfl (evTy) rfl rfl .here (by first | rfl | assumption) (by assumption) ?_
    refine Go.Sl.ow_nil ?_
    refine Go.Sl.xw_then ?_
    refine cw_cov ([(b15, .cells ((es[j]).m.cells (es[j]).p).toArray 62 (0, 0))] :: [(b13, .cells (s.cells p).toArray 75 (0, 0))] :: E :: [(b9, .cells (y.m.cells y.p).toArray 62 (0, 0))] :: [(b8, .cells (x.m.cells x.p).toArray 62 (0, 0))] :: [] :: F) (by first | exact Go.Sl.Cov.refl _ | (intro p; simp only [List.flatten_cons, List.flatten_nil, List.flatten_append, List.append_nil, List.nil_append, Go.Sl.cnt_append, Go.Sl.cnt_cons, Go.Sl.cnt_nil, List.set_cons_zero, List.set_cons_succ, List.length_nil, List.length_cons, Nat.zero_add, List.append]; omega)) ?_
    refine Go.Sl.cw_cut2 (ι := ((EvE × Hp))) [(1, _), (2, _), (3, _), (4, _), (5, _), (8, _), (9, _), (12, _), (13, _), (14, _), (15, _), (38, _), (39, _), (40, _)] ⟨rfl, rfl, rfl, rfl, rfl, rfl, rfl, rfl, rfl, rfl, rfl, rfl, rfl, rfl, trivial⟩ ((fun _ => [])) ((fun z => z.1.m.ok ∧ EvDeep B w0 z.1.m z.1.p z.2)) ((fun z => [(b15, .cells (z.1.m.cells z.1.p).toArray 62 (0, 0))] :: [(b13, .cells (s.cells p).toArray 75 (0, 0))] :: E :: [(b9, .cells (y.m.cells y.p).toArray 62 (0, 0))] :: [(b8, .cells (x.m.cells x.p).toArray 62 (0, 0))] :: z.2 :: F)) ?_ ?_
    · have hXj := hX F
      have hkj : ∀ (x : UInt8), 0 ≤ (x.toNat : Int) ∧ (x.toNat : Int) ≤ 255 := fun x => by have := x.toNat_lt; omega
      have hbo : ∀ (x : UInt8), enB.ok x := fun x => trivial
      refine Go.Sl.cw_seq ?_
      refine Go.Sl.cw_region ?_
      refine Go.Sl.ow_val rfl rfl (Go.Sl.v_move rfl) ?_
      refine Go.Sl.ow_val rfl rfl (Go.Sl.v_move rfl) ?_
      refine Go.Sl.ow_val rfl rfl (Go.Sl.v_len rfl Try.underlying23 rfl) ?_
      refine Go.Sl.ow_val rfl rfl (Go.Sl.v_lss rfl rfl) ?_
      refine Go.Sl.ow_nil ?_
      refine Go.Sl.xw_then ?_
      refine Go.Sl.cw_dec rfl (fun hc48 => ?_) (fun hc48 => ?_)
      refine Go.Sl.cw_mix [] [5, 6] [0, 1, 2, 3, 4] Ty.mixed rfl rfl rfl rfl (by decide +kernel) ?_
      refine Go.Sl.hw_read rfl rfl rfl (Go.Sl.v_load rfl (Go.Sl.Var.atN Ty.ag62 .here Go.Sl.GetN.all (by first | rfl | assumption))) ?_
      refine Go.Sl.hw_pure rfl rfl (Go.Sl.v_move rfl) rfl ?_
      refine Go.Sl.hw_pure rfl rfl (Go.Sl.v_move rfl) rfl ?_
      refine Go.Sl.hw_pure rfl rfl (Go.Sl.v_indexAddr_vw Try.underlying23 (vbTy) rfl rfl (by assumption) rfl (by omega)) rfl ?_
      refine Go.Sl.hw_read rfl rfl rfl (Go.Sl.v_load rfl (Go.Sl.Vw.var (vbTy) ((hX _)) (by omega))) ?_
      refine Go.Sl.hw_nil ?_
      refine Go.Sl.sw_nil ?_
      (refine Go.Sl.ow_call rfl rfl rfl rfl (small_c (hDj _ Sub.nil) hoe (by omega) (by omega) (hkj _)) ?_; rintro _ _ ⟨x54, rfl, hq54, rfl⟩)
      rotate_left
      refine Go.Sl.cw_skip ?_
      rotate_left
      · have hxo : ∀ u ∈ x54.m.cells x54.p, u.oneCell' = true := EvM.cells_one
        have hx4 : (x54.m.cells x54.p).length = ((es[j]).m.cells (es[j]).p).length := rfl
        refine Go.Sl.ow_storeN rfl rfl rfl Ty.ag62 (by first | rfl | assumption) (by first | assumption | simp) (.there (.there .here)) ((SetN.all hx4)) ?_
        refine Go.Sl.ow_nil ?_
        refine Go.Sl.xw_np ?_
        exact xw_joint ((⟨x54.m, x54.p⟩, x54.cn ++ x54.cd) : EvE × Hp) ⟨hq54.ok, is_deep hq54⟩ (by first | exact Go.Sl.Cov.refl _ | (intro p; simp only [List.flatten_cons, List.flatten_nil, List.flatten_append, List.append_nil, List.nil_append, Go.Sl.cnt_append, Go.Sl.cnt_cons, Go.Sl.cnt_nil, List.set_cons_zero, List.set_cons_succ, List.length_nil, List.length_cons, Nat.zero_add, List.append]; omega)) (by repeat (first | exact True.intro | refine And.intro rfl ?_))
      · exact xw_joint ((es[j], []) : EvE × Hp) ⟨hoe, hDj⟩ (by first | exact Go.Sl.Cov.refl _ | (intro p; simp only [List.flatten_cons, List.flatten_nil, List.flatten_append, List.append_nil, List.nil_append, Go.Sl.cnt_append, Go.Sl.cnt_cons, Go.Sl.cnt_nil, List.set_cons_zero, List.set_cons_succ, List.length_nil, List.length_cons, Nat.zero_add, List.append]; omega)) (by repeat (first | exact True.intro | refine And.intro rfl ?_))
    · rintro ⟨e, E2⟩ ⟨heo, hE2⟩
      dsimp only at heo hE2 ⊢
      have heo2 : e.m.ok := heo
      have hce : ∀ u ∈ e.m.cells e.p, u.oneCell' = true := EvM.cells_one
      have hle : (e.m.cells e.p).length = 4 := rfl
      have hw' := StM.step_wf hw heo2
      refine Go.Sl.cw_seq ?_
      refine Go.Sl.cw_region ?_
      refine Go.Sl.ow_val rfl rfl (Go.Sl.v_load rfl (Go.Sl.Var.atN Ty.ag75 (.there .here) Go.Sl.GetN.all (by first | rfl | assumption))) ?_
      refine Go.Sl.ow_val rfl rfl (Go.Sl.v_load rfl (Go.Sl.Var.atN Ty.ag62 .here Go.Sl.GetN.all (by first | rfl | assumption))) ?_
      (refine Go.Sl.ow_call rfl rfl rfl rfl (stFoldV_c hS (by repeat (first | exact Go.Sl.Sub.here | exact Go.Sl.Sub.nil | assumption | refine Go.Sl.Sub.there ?_)) hw (hz.mono (by omega)) heo2 hE2 (by repeat (first | exact Go.Sl.Sub.here | exact Go.Sl.Sub.nil | assumption | refine Go.Sl.Sub.there ?_))) ?_; rintro _ _ ⟨x58, rfl, hq58, rfl⟩)
      refine Go.Sl.ow_val rfl rfl (Go.Sl.v_move rfl) ?_
      refine Go.Sl.ow_val rfl rfl (Go.Sl.v_extract rfl rfl) ?_
      refine Go.Sl.ow_val rfl rfl (Go.Sl.v_extract rfl rfl) ?_
      (refine Go.Sl.ow_alloc rfl rfl Ty.ze75 ?_; intro b16)
      obtain ⟨q6, E6⟩ := x58
      obtain ⟨hE6, hq6⟩ := hq58
      dsimp only at hE6 hq6 ⊢
      have n1 := hcl _ q6 hw'
      have n2 := hco (s.step e.m).1 q6
      have n3 := hzl _ q6 hw'
      refine ow_cov ([(b16, .cells zeroL.toArray 75 (0, 0))] :: E6 :: [(b15, .cells (e.m.cells e.p).toArray 62 (0, 0))] :: [(b13, .cells (s.cells p).toArray 75 (0, 0))] :: E :: [(b9, .cells (y.m.cells y.p).toArray 62 (0, 0))] :: [(b8, .cells (x.m.cells x.p).toArray 62 (0, 0))] :: F) (by unfold zeroL; exact (by first | exact Go.Sl.Cov.refl _ | (intro p; simp only [List.flatten_cons, List.flatten_nil, List.flatten_append, List.append_nil, List.nil_append, Go.Sl.cnt_append, Go.Sl.cnt_cons, Go.Sl.cnt_nil, List.set_cons_zero, List.set_cons_succ, List.length_nil, List.length_cons, Nat.zero_add, List.append]; omega))) ?_
      refine Go.Sl.ow_storeN rfl rfl rfl Ty.ag75 (by first | rfl | assumption) (by first | assumption | simp) .here ((SetN.all n3)) ?_
      refine Go.Sl.ow_val rfl rfl (Go.Sl.v_assign rfl) ?_
      refine Go.Sl.ow_nil ?_
      refine Go.Sl.xw_then ?_
      refine Go.Sl.cw_seq ?_
      refine Go.Sl.cw_region ?_
      refine Go.Sl.ow_val rfl rfl (Go.Sl.v_move rfl) ?_
      refine Go.Sl.ow_val rfl rfl (Go.Sl.v_eql rfl rfl) ?_
      refine Go.Sl.ow_val rfl rfl (Go.Sl.v_move rfl) ?_
      refine Go.Sl.ow_dec 63 rfl (fun hc63 => ?_) (fun hc63 => ?_)
      refine Go.Sl.ow_val rfl rfl (Go.Sl.v_fieldAddr0 Ty.fd62_0 rfl) ?_
      refine Go.Sl.ow_val rfl rfl (Go.Sl.v_load rfl (Go.Sl.Var.at1 Ty.sc59 (.there (.there .here)) ((GetN.one rfl)))) ?_
      refine Go.Sl.ow_val rfl rfl (Go.Sl.v_neq rfl rfl) ?_
      refine Go.Sl.ow_val rfl rfl (Go.Sl.v_pick_true rfl rfl) ?_
      refine Go.Sl.ow_nil ?_
      refine Go.Sl.xw_then ?_
      refine Go.Sl.cw_dec rfl (fun hc67 => ?_) (fun hc67 => ?_)
      refine Go.Sl.cw_region ?_
      refine Go.Sl.ow_val rfl rfl (Go.Sl.v_load rfl (Go.Sl.Var.atN Ty.ag75 .here Go.Sl.GetN.all (by first | rfl | assumption))) ?_
      refine Go.Sl.ow_storeN rfl rfl rfl Ty.ag75 (by first | rfl | assumption) (by first | assumption | simp) (.there (.there (.there .here))) (Go.Sl.SetN.all (by first | rfl | assumption | simp_all)) ?_
      refine Go.Sl.ow_nil ?_
      refine Go.Sl.xw_block ?_
      refine Go.Sl.xw_then ?_
      refine Go.Sl.cw_region ?_
      refine Go.Sl.ow_val rfl rfl (Go.Sl.v_add rfl rfl (Go.Sl.nw_i64 (by omega) (by omega))) ?_
      refine Go.Sl.ow_val rfl rfl (Go.Sl.v_move rfl) ?_
      refine Go.Sl.ow_nil ?_
      rotate_left
      refine Go.Sl.cw_skip ?_
      refine Go.Sl.xw_block ?_
      refine Go.Sl.xw_then ?_
      refine Go.Sl.cw_region ?_
      refine Go.Sl.ow_val rfl rfl (Go.Sl.v_add rfl rfl (Go.Sl.nw_i64 (by omega) (by omega))) ?_
      refine Go.Sl.ow_val rfl rfl (Go.Sl.v_move rfl) ?_
      refine Go.Sl.ow_nil ?_
      rotate_left
      refine Go.Sl.ow_skip rfl rfl ?_
      refine Go.Sl.ow_skip rfl rfl ?_
      refine Go.Sl.ow_skip rfl rfl ?_
      refine Go.Sl.ow_val rfl rfl (Go.Sl.v_pick_false rfl rfl) ?_
      refine Go.Sl.ow_nil ?_
      refine Go.Sl.xw_then ?_
      refine Go.Sl.cw_false rfl ?_
      refine Go.Sl.cw_skip ?_
      refine Go.Sl.xw_block ?_
      refine Go.Sl.xw_then ?_
      refine Go.Sl.cw_region ?_
      refine Go.Sl.ow_val rfl rfl (Go.Sl.v_add rfl rfl (Go.Sl.nw_i64 (by omega) (by omega))) ?_
      refine Go.Sl.ow_val rfl rfl (Go.Sl.v_move rfl) ?_
      refine Go.Sl.ow_nil ?_
      rotate_left
      · exact xw_round (⟨j + 1, (s.step e.m).1, q6, E6⟩ : FoG) ⟨by dsimp only; omega, hw', StM.step_sz hz, hE6, hq6⟩ (by dsimp only; omega) (by first | exact Go.Sl.Cov.refl _ | (intro p; simp only [List.flatten_cons, List.flatten_nil, List.flatten_append, List.append_nil, List.nil_append, Go.Sl.cnt_append, Go.Sl.cnt_cons, Go.Sl.cnt_nil, List.set_cons_zero, List.set_cons_succ, List.length_nil, List.length_cons, Nat.zero_add, List.append]; omega)) (by repeat (first | exact True.intro | refine And.intro rfl ?_))
      · exact xw_round (⟨j + 1, s, p, E⟩ : FoG) ⟨by dsimp only; omega, hw, hz.mono (Nat.le_succ _), hS, hlv⟩ (by dsimp only; omega) (by first | exact Go.Sl.Cov.refl _ | (intro p; simp only [List.flatten_cons, List.flatten_nil, List.flatten_append, List.append_nil, List.nil_append, Go.Sl.cnt_append, Go.Sl.cnt_cons, Go.Sl.cnt_nil, List.set_cons_zero, List.set_cons_succ, List.length_nil, List.length_cons, Nat.zero_add, List.append]; omega)) (by repeat (first | exact True.intro | refine And.intro rfl ?_))
      · exact xw_round (⟨j + 1, s, p, E⟩ : FoG) ⟨by dsimp only; omega, hw, hz.mono (Nat.le_succ _), hS, hlv⟩ (by dsimp only; omega) (by first | exact Go.Sl.Cov.refl _ | (intro p; simp only [List.flatten_cons, List.flatten_nil, List.flatten_append, List.append_nil, List.nil_append, Go.Sl.cnt_append, Go.Sl.cnt_cons, Go.Sl.cnt_nil, List.set_cons_zero, List.set_cons_succ, List.length_nil, List.length_cons, Nat.zero_add, List.append]; omega)) (by repeat (first | exact True.intro | refine And.intro rfl ?_))
  · have hsx := small_c (B := B) (w0 := w0) (G := [(b13, .cells (s.cells p).toArray 75 (0, 0))] :: E :: [(b9, .cells (y.m.cells y.p).toArray 62 (0, 0))] :: [(b8, .cells (x.m.cells x.p).toArray 62 (0, 0))] :: F) (hxD _ Sub.nil) hxo (by omega) (by omega) hk1
    have hsy := fun (G : List Hp) => small_c (B := B) (w0 := w0) (G := G) (hyD _ Sub.nil) hyo (by omega) (by omega) hk2
    refine Go.Sl.cw_cut2 (ι := ((EvF × EvF))) [(3, _), (8, _), (9, _), (12, _), (13, _)] ⟨rfl, rfl, rfl, rfl, rfl, trivial⟩ ((fun _ => [])) ((fun z => z.1.Is ∧ z.2.Is)) ((fun z => [(b9, .cells (z.2.m.cells z.2.p).toArray 62 (0, 0))] :: [(b8, .cells (z.1.m.cells z.1.p).toArray 62 (0, 0))] :: (z.1.cn ++ z.1.cd) :: (z.2.cn ++ z.2.cd) :: [(b13, .cells (s.cells p).toArray 75 (0, 0))] :: E :: F)) ?_ ?_
    · refine Go.Sl.cw_any Ty.mixed ?_
      refine Go.Sl.aw_pure 1 rfl (by decide +kernel) rfl rfl (Go.Sl.v_move rfl) rfl ?_
      refine Go.Sl.aw_pure 4 rfl (by decide +kernel) rfl rfl (Go.Sl.v_move rfl) rfl ?_
      refine Go.Sl.aw_step2 0 3 (by decide +kernel) rfl rfl ?_ ?_
      refine Go.Sl.ow_val rfl rfl (Go.Sl.v_load rfl (Go.Sl.Var.atN Ty.ag62 (.there (.there (.there .here))) Go.Sl.GetN.all (by first | rfl | assumption))) ?_
      refine Go.Sl.ow_nil ?_
      refine Go.Sl.xw_nx ?_
      refine Go.Sl.aw_step2 2 3 (by decide +kernel) rfl rfl ?_ ?_
      (refine Go.Sl.ow_call rfl rfl rfl rfl (hsx) ?_; rintro _ _ ⟨x72, rfl, hq72, rfl⟩)
      refine Go.Sl.ow_nil ?_
      refine Go.Sl.xw_nx ?_
      refine Go.Sl.aw_step1 3 (by decide +kernel) rfl ?_
      refine Go.Sl.ow_val rfl rfl (Go.Sl.v_load rfl (Go.Sl.Var.atN Ty.ag62 (.there (.there (.there (.there .here)))) Go.Sl.GetN.all (by first | rfl | assumption))) ?_
      refine Go.Sl.ow_nil ?_
      refine Go.Sl.xw_nx ?_
      refine Go.Sl.aw_step1 5 (by decide +kernel) rfl ?_
      (refine Go.Sl.ow_call rfl rfl rfl rfl (hsy _) ?_; rintro _ _ ⟨x75, rfl, hq75, rfl⟩)
      refine Go.Sl.ow_nil ?_
      refine Go.Sl.xw_nx ?_
      refine Go.Sl.aw_step1 6 (by decide +kernel) rfl ?_
      rotate_left
      refine Go.Sl.ow_val rfl rfl (Go.Sl.v_load rfl (Go.Sl.Var.atN Ty.ag62 (.there (.there .here)) Go.Sl.GetN.all (by first | rfl | assumption))) ?_
      refine Go.Sl.ow_nil ?_
      refine Go.Sl.xw_nx ?_
      refine Go.Sl.aw_step1 2 (by decide +kernel) rfl ?_
      (refine Go.Sl.ow_call rfl rfl rfl rfl (hsx) ?_; rintro _ _ ⟨x72, rfl, hq72, rfl⟩)
      refine Go.Sl.ow_nil ?_
      refine Go.Sl.xw_nx ?_
      refine Go.Sl.aw_step1 5 (by decide +kernel) rfl ?_
      (refine Go.Sl.ow_call rfl rfl rfl rfl (hsy _) ?_; rintro _ _ ⟨x75, rfl, hq75, rfl⟩)
      refine Go.Sl.ow_nil ?_
      refine Go.Sl.xw_nx ?_
      refine Go.Sl.aw_step1 6 (by decide +kernel) rfl ?_
      rotate_left
      refine Go.Sl.ow_val rfl rfl (Go.Sl.v_load rfl (Go.Sl.Var.atN Ty.ag62 (.there (.there .here)) Go.Sl.GetN.all (by first | rfl | assumption))) ?_
      refine Go.Sl.ow_nil ?_
      refine Go.Sl.xw_nx ?_
      refine Go.Sl.aw_step1 0 (by decide +kernel) rfl ?_
      refine Go.Sl.ow_val rfl rfl (Go.Sl.v_load rfl (Go.Sl.Var.atN Ty.ag62 (.there (.there (.there .here))) Go.Sl.GetN.all (by first | rfl | assumption))) ?_
      refine Go.Sl.ow_nil ?_
      refine Go.Sl.xw_nx ?_
      refine Go.Sl.aw_step1 2 (by decide +kernel) rfl ?_
      (refine Go.Sl.ow_call rfl rfl rfl rfl (hsx) ?_; rintro _ _ ⟨x72, rfl, hq72, rfl⟩)
      refine Go.Sl.ow_nil ?_
      refine Go.Sl.xw_nx ?_
      refine Go.Sl.aw_step1 5 (by decide +kernel) rfl ?_
      (refine Go.Sl.ow_call rfl rfl rfl rfl (hsy _) ?_; rintro _ _ ⟨x75, rfl, hq75, rfl⟩)
      refine Go.Sl.ow_nil ?_
      refine Go.Sl.xw_nx ?_
      refine Go.Sl.aw_step1 6 (by decide +kernel) rfl ?_
      rotate_left
      · have u1 : ∀ u ∈ x72.m.cells x72.p, u.oneCell' = true := EvM.cells_one
        have u2 : (x72.m.cells x72.p).length = (x.m.cells x.p).length := rfl
        have u3 : ∀ u ∈ x75.m.cells x75.p, u.oneCell' = true := EvM.cells_one
        have u4 : (x75.m.cells x75.p).length = (y.m.cells y.p).length := rfl
        refine Go.Sl.ow_storeN rfl rfl rfl Ty.ag62 (by first | rfl | assumption) (by first | assumption | simp) (.there (.there (.there (.there (.there (.there (.there .here))))))) ((SetN.all u2)) ?_
        refine Go.Sl.ow_nil ?_
        refine Go.Sl.xw_nx ?_
        refine Go.Sl.aw_step1 7 (by decide +kernel) rfl ?_
        refine Go.Sl.ow_storeN rfl rfl rfl Ty.ag62 (by first | rfl | assumption) (by first | assumption | simp) (.there (.there (.there (.there (.there (.there .here)))))) ((SetN.all u2)) ?_
        refine Go.Sl.ow_nil ?_
        refine Go.Sl.xw_nx ?_
        refine Go.Sl.aw_end (by decide +kernel) ?_
        refine Go.Sl.xw_np ?_
        exact xw_joint ((x72, x75) : EvF × EvF) ⟨hq72, hq75⟩ (by first | exact Go.Sl.Cov.refl _ | (intro p; simp only [List.flatten_cons, List.flatten_nil, List.flatten_append, List.append_nil, List.nil_append, Go.Sl.cnt_append, Go.Sl.cnt_cons, Go.Sl.cnt_nil, List.set_cons_zero, List.set_cons_succ, List.length_nil, List.length_cons, Nat.zero_add, List.append]; omega)) (by repeat (first | exact True.intro | refine And.intro rfl ?_))
      · have u1 : ∀ u ∈ x72.m.cells x72.p, u.oneCell' = true := EvM.cells_one
        have u2 : (x72.m.cells x72.p).length = (x.m.cells x.p).length := rfl
        have u3 : ∀ u ∈ x75.m.cells x75.p, u.oneCell' = true := EvM.cells_one
        have u4 : (x75.m.cells x75.p).length = (y.m.cells y.p).length := rfl
        refine Go.Sl.ow_storeN rfl rfl rfl Ty.ag62 (by first | rfl | assumption) (by first | assumption | simp) (.there (.there (.there (.there (.there (.there (.there .here))))))) ((SetN.all u2)) ?_
        refine Go.Sl.ow_nil ?_
        refine Go.Sl.xw_nx ?_
        refine Go.Sl.aw_step1 7 (by decide +kernel) rfl ?_
        refine Go.Sl.ow_storeN rfl rfl rfl Ty.ag62 (by first | rfl | assumption) (by first | assumption | simp) (.there (.there (.there (.there (.there (.there .here)))))) ((SetN.all u2)) ?_
        refine Go.Sl.ow_nil ?_
        refine Go.Sl.xw_nx ?_
        refine Go.Sl.aw_end (by decide +kernel) ?_
        refine Go.Sl.xw_np ?_
        exact xw_joint ((x72, x75) : EvF × EvF) ⟨hq72, hq75⟩ (by first | exact Go.Sl.Cov.refl _ | (intro p; simp only [List.flatten_cons, List.flatten_nil, List.flatten_append, List.append_nil, List.nil_append, Go.Sl.cnt_append, Go.Sl.cnt_cons, Go.Sl.cnt_nil, List.set_cons_zero, List.set_cons_succ, List.length_nil, List.length_cons, Nat.zero_add, List.append]; omega)) (by repeat (first | exact True.intro | refine And.intro rfl ?_))
      · have u1 : ∀ u ∈ x72.m.cells x72.p, u.oneCell' = true := EvM.cells_one
        have u2 : (x72.m.cells x72.p).length = (x.m.cells x.p).length := rfl
        have u3 : ∀ u ∈ x75.m.cells x75.p, u.oneCell' = true := EvM.cells_one
        have u4 : (x75.m.cells x75.p).length = (y.m.cells y.p).length := rfl
        refine Go.Sl.ow_storeN rfl rfl rfl Ty.ag62 (by first | rfl | assumption) (by first | assumption | simp) (.there (.there (.there (.there (.there (.there (.there .here))))))) ((SetN.all u2)) ?_
        refine Go.Sl.ow_nil ?_
        refine Go.Sl.xw_nx ?_
        refine Go.Sl.aw_step1 7 (by decide +kernel) rfl ?_
        refine Go.Sl.ow_storeN rfl rfl rfl Ty.ag62 (by first | rfl | assumption) (by first | assumption | simp) (.there (.there (.there (.there (.there (.there .here)))))) ((SetN.all u2)) ?_
        refine Go.Sl.ow_nil ?_
        refine Go.Sl.xw_nx ?_
        refine Go.Sl.aw_end (by decide +kernel) ?_
        refine Go.Sl.xw_np ?_
        exact xw_joint ((x72, x75) : EvF × EvF) ⟨hq72, hq75⟩ (by first | exact Go.Sl.Cov.refl _ | (intro p; simp only [List.flatten_cons, List.flatten_nil, List.flatten_append, List.append_nil, List.nil_append, Go.Sl.cnt_append, Go.Sl.cnt_cons, Go.Sl.cnt_nil, List.set_cons_zero, List.set_cons_succ, List.length_nil, List.length_cons, Nat.zero_add, List.append]; omega)) (by repeat (first | exact True.intro | refine And.intro rfl ?_))
    rintro ⟨a, b⟩ ⟨ha, hb⟩
    dsimp only at ha hb ⊢
    have hDa := is_deep (B := B) (w0 := w0) ha
    have hDb := is_deep (B := B) (w0 := w0) hb
    have v1 : ∀ u ∈ a.m.cells a.p, u.oneCell' = true := EvM.cells_one
    have v2 : (a.m.cells a.p).length = 4 := rfl
    have v3 : ∀ u ∈ b.m.cells b.p, u.oneCell' = true := EvM.cells_one
    have v4 : (b.m.cells b.p).length = 4 := rfl
    refine Go.Sl.cw_seq ?_
    refine Go.Sl.cw_region ?_
    refine Go.Sl.ow_val rfl rfl (Go.Sl.v_assign rfl) ?_
    refine Go.Sl.ow_nil ?_
    refine Go.Sl.xw_then ?_
    refine Go.Sl.cw_cut2 (ι := (Unit)) [(3, _), (8, _), (9, _), (13, _)] ⟨rfl, rfl, rfl, rfl, trivial⟩ ((fun _ => [])) ((fun _ => a.m.k ≠ 19 ∧ b.m.k ≠ 19 ∧ a.m.spc = true ∧ (b.m.spc = true → a.m.at 0 ≠ b.m.at 0))) ((fun _ => [(b9, .cells (b.m.cells b.p).toArray 62 (0, 0))] :: [(b8, .cells (a.m.cells a.p).toArray 62 (0, 0))] :: (a.cn ++ a.cd) :: (b.cn ++ b.cd) :: [(b13, .cells (s.cells p).toArray 75 (0, 0))] :: E :: F)) ?_ ?_
    have hva := (hDa ((a.cn ++ a.cd) :: (b.cn ++ b.cd) :: F) (by repeat (first | exact Go.Sl.Sub.here | exact Go.Sl.Sub.nil | assumption | refine Go.Sl.Sub.there ?_))).n
    have hvb := (hDb ((a.cn ++ a.cd) :: (b.cn ++ b.cd) :: F) (by repeat (first | exact Go.Sl.Sub.here | exact Go.Sl.Sub.nil | assumption | refine Go.Sl.Sub.there ?_))).n
    have hna : a.m.spc = true → 0 < a.m.n.length := fun h => many_pos (spc_iff.1 h) ha.n
    have hnb : b.m.spc = true → 0 < b.m.n.length := fun h => many_pos (spc_iff.1 h) hb.n
    have sa := fun (G : List Hp) => spaced_c (B := B) (w0 := w0) (G := G) (e := a.m) (p := a.p)
    have sb := fun (G : List Hp) => spaced_c (B := B) (w0 := w0) (G := G) (e := b.m) (p := b.p)
    cases hsa : a.m.spc with
    | false =>
      rw [hsa] at sa
      cases hsb : b.m.spc with
      | false =>
        rw [hsb] at sb
        refine Go.Sl.cw_seq ?_
        refine Go.Sl.cw_quiet Ty.mixed (by decide +kernel) ?_
        refine Go.Sl.kw_val rfl rfl (Go.Sl.v_fieldAddr0 Ty.fd62_0 rfl) ?_
        refine Go.Sl.kw_val rfl rfl (Go.Sl.v_load rfl (Go.Sl.Var.at1 Ty.sc59 (.there .here) ((GetN.one rfl)))) ?_
        refine Go.Sl.kw_val rfl rfl (Go.Sl.v_eql rfl rfl) ?_
        refine Go.Sl.kw_val rfl rfl (Go.Sl.v_move rfl) ?_
        refine Go.Sl.kw_dec 79 rfl (fun hc79 => ?_) (fun hc79 => ?_)
        refine Go.Sl.kw_skip rfl rfl ?_
        refine Go.Sl.kw_skip rfl rfl ?_
        refine Go.Sl.kw_skip rfl rfl ?_
        refine Go.Sl.kw_val rfl rfl (Go.Sl.v_pick_true rfl rfl) ?_
        refine Go.Sl.kw_val rfl rfl (Go.Sl.v_move rfl) ?_
        refine Go.Sl.kw_skip rfl rfl ?_
        refine Go.Sl.kw_skip rfl rfl ?_
        refine Go.Sl.kw_skip rfl rfl ?_
        refine Go.Sl.kw_skip rfl rfl ?_
        refine Go.Sl.kw_val rfl rfl (Go.Sl.v_pick_true rfl rfl) ?_
        refine Go.Sl.kw_val rfl rfl (Go.Sl.v_move rfl) ?_
        refine Go.Sl.kw_skip rfl rfl ?_
        refine Go.Sl.kw_skip rfl rfl ?_
        refine Go.Sl.kw_skip rfl rfl ?_
        refine Go.Sl.kw_skip rfl rfl ?_
        refine Go.Sl.kw_skip rfl rfl ?_
        refine Go.Sl.kw_skip rfl rfl ?_
        refine Go.Sl.kw_skip rfl rfl ?_
        refine Go.Sl.kw_skip rfl rfl ?_
        refine Go.Sl.kw_skip rfl rfl ?_
        refine Go.Sl.kw_skip rfl rfl ?_
        refine Go.Sl.kw_skip rfl rfl ?_
        refine Go.Sl.kw_skip rfl rfl ?_
        refine Go.Sl.kw_skip rfl rfl ?_
        refine Go.Sl.kw_skip rfl rfl ?_
        refine Go.Sl.kw_val rfl rfl (Go.Sl.v_pick_true rfl rfl) ?_
        refine Go.Sl.kw_nil ?_
        refine Go.Sl.xw_then ?_
        refine Go.Sl.cw_true rfl ?_
        refine Go.Sl.cw_seq ?_
        refine Go.Sl.cw_region ?_
        refine Go.Sl.ow_val rfl rfl (Go.Sl.v_assign rfl) ?_
        refine Go.Sl.ow_nil ?_
        refine Go.Sl.xw_then ?_
        refine Go.Sl.cw_ret ?_
        refine Go.Sl.xw_joint_ret ?_
        refine Go.Sl.ret1 rfl (Go.Sl.res_tmp rfl) ?_
        rotate_left
        refine Go.Sl.kw_val rfl rfl (Go.Sl.v_fieldAddr0 Ty.fd62_0 rfl) ?_
        refine Go.Sl.kw_val rfl rfl (Go.Sl.v_load rfl (Go.Sl.Var.at1 Ty.sc59 .here ((GetN.one rfl)))) ?_
        refine Go.Sl.kw_val rfl rfl (Go.Sl.v_eql rfl rfl) ?_
        refine Go.Sl.kw_val rfl rfl (Go.Sl.v_pick_false rfl rfl) ?_
        refine Go.Sl.kw_val rfl rfl (Go.Sl.v_move rfl) ?_
        refine Go.Sl.kw_dec 84 rfl (fun hc84 => ?_) (fun hc84 => ?_)
        refine Go.Sl.kw_skip rfl rfl ?_
        refine Go.Sl.kw_skip rfl rfl ?_
        refine Go.Sl.kw_skip rfl rfl ?_
        refine Go.Sl.kw_skip rfl rfl ?_
        refine Go.Sl.kw_val rfl rfl (Go.Sl.v_pick_true rfl rfl) ?_
        refine Go.Sl.kw_val rfl rfl (Go.Sl.v_move rfl) ?_
        refine Go.Sl.kw_skip rfl rfl ?_
        refine Go.Sl.kw_skip rfl rfl ?_
        refine Go.Sl.kw_skip rfl rfl ?_
        refine Go.Sl.kw_skip rfl rfl ?_
        refine Go.Sl.kw_skip rfl rfl ?_
        refine Go.Sl.kw_skip rfl rfl ?_
        refine Go.Sl.kw_skip rfl rfl ?_
        refine Go.Sl.kw_skip rfl rfl ?_
        refine Go.Sl.kw_skip rfl rfl ?_
        refine Go.Sl.kw_skip rfl rfl ?_
        refine Go.Sl.kw_skip rfl rfl ?_
        refine Go.Sl.kw_skip rfl rfl ?_
        refine Go.Sl.kw_skip rfl rfl ?_
        refine Go.Sl.kw_skip rfl rfl ?_
        refine Go.Sl.kw_val rfl rfl (Go.Sl.v_pick_true rfl rfl) ?_
        refine Go.Sl.kw_nil ?_
        refine Go.Sl.xw_then ?_
        refine Go.Sl.cw_true rfl ?_
        refine Go.Sl.cw_seq ?_
        refine Go.Sl.cw_region ?_
        refine Go.Sl.ow_val rfl rfl (Go.Sl.v_assign rfl) ?_
        refine Go.Sl.ow_nil ?_
        refine Go.Sl.xw_then ?_
        refine Go.Sl.cw_ret ?_
        refine Go.Sl.xw_joint_ret ?_
        refine Go.Sl.ret1 rfl (Go.Sl.res_tmp rfl) ?_
        rotate_left
        refine Go.Sl.kw_val rfl rfl (Go.Sl.v_move rfl) ?_
        refine Go.Sl.kw_val rfl rfl (Go.Sl.v_load rfl (Go.Sl.Var.atN Ty.ag62 (.there .here) Go.Sl.GetN.all (by first | rfl | assumption))) ?_
        refine Go.Sl.kw_val rfl rfl (Go.Sl.v_call rfl rfl (sa _)) ?_
        refine Go.Sl.kw_val rfl rfl (Go.Sl.v_not_false rfl) ?_
        refine Go.Sl.kw_val rfl rfl (Go.Sl.v_pick_false rfl rfl) ?_
        refine Go.Sl.kw_val rfl rfl (Go.Sl.v_move rfl) ?_
        refine Go.Sl.kw_skip rfl rfl ?_
        refine Go.Sl.kw_skip rfl rfl ?_
        refine Go.Sl.kw_skip rfl rfl ?_
        refine Go.Sl.kw_skip rfl rfl ?_
        refine Go.Sl.kw_skip rfl rfl ?_
        refine Go.Sl.kw_skip rfl rfl ?_
        refine Go.Sl.kw_skip rfl rfl ?_
        refine Go.Sl.kw_skip rfl rfl ?_
        refine Go.Sl.kw_skip rfl rfl ?_
        refine Go.Sl.kw_skip rfl rfl ?_
        refine Go.Sl.kw_skip rfl rfl ?_
        refine Go.Sl.kw_skip rfl rfl ?_
        refine Go.Sl.kw_skip rfl rfl ?_
        refine Go.Sl.kw_skip rfl rfl ?_
        refine Go.Sl.kw_val rfl rfl (Go.Sl.v_pick_true rfl rfl) ?_
        refine Go.Sl.kw_nil ?_
        refine Go.Sl.xw_then ?_
        refine Go.Sl.cw_true rfl ?_
        refine Go.Sl.cw_seq ?_
        refine Go.Sl.cw_region ?_
        refine Go.Sl.ow_val rfl rfl (Go.Sl.v_assign rfl) ?_
        refine Go.Sl.ow_nil ?_
        refine Go.Sl.xw_then ?_
        refine Go.Sl.cw_ret ?_
        refine Go.Sl.xw_joint_ret ?_
        refine Go.Sl.ret1 rfl (Go.Sl.res_tmp rfl) ?_
        rotate_left
        all_goals exact done0 rfl (by first | exact Go.Sl.Cov.refl _ | (intro p; simp only [List.flatten_cons, List.flatten_nil, List.flatten_append, List.append_nil, List.nil_append, Go.Sl.cnt_append, Go.Sl.cnt_cons, Go.Sl.cnt_nil, List.set_cons_zero, List.set_cons_succ, List.length_nil, List.length_cons, Nat.zero_add, List.append]; omega))
      | true =>
        rw [hsb] at sb
        have h2 := hnb hsb
        refine Go.Sl.cw_seq ?_
        refine Go.Sl.cw_quiet Ty.mixed (by decide +kernel) ?_
        refine Go.Sl.kw_val rfl rfl (Go.Sl.v_fieldAddr0 Ty.fd62_0 rfl) ?_
        refine Go.Sl.kw_val rfl rfl (Go.Sl.v_load rfl (Go.Sl.Var.at1 Ty.sc59 (.there .here) ((GetN.one rfl)))) ?_
        refine Go.Sl.kw_val rfl rfl (Go.Sl.v_eql rfl rfl) ?_
        refine Go.Sl.kw_val rfl rfl (Go.Sl.v_move rfl) ?_
        refine Go.Sl.kw_dec 79 rfl (fun hc79 => ?_) (fun hc79 => ?_)
        refine Go.Sl.kw_skip rfl rfl ?_
        refine Go.Sl.kw_skip rfl rfl ?_
        refine Go.Sl.kw_skip rfl rfl ?_
        refine Go.Sl.kw_val rfl rfl (Go.Sl.v_pick_true rfl rfl) ?_
        refine Go.Sl.kw_val rfl rfl (Go.Sl.v_move rfl) ?_
        refine Go.Sl.kw_skip rfl rfl ?_
        refine Go.Sl.kw_skip rfl rfl ?_
        refine Go.Sl.kw_skip rfl rfl ?_
        refine Go.Sl.kw_skip rfl rfl ?_
        refine Go.Sl.kw_val rfl rfl (Go.Sl.v_pick_true rfl rfl) ?_
        refine Go.Sl.kw_val rfl rfl (Go.Sl.v_move rfl) ?_
        refine Go.Sl.kw_skip rfl rfl ?_
        refine Go.Sl.kw_skip rfl rfl ?_
        refine Go.Sl.kw_skip rfl rfl ?_
        refine Go.Sl.kw_skip rfl rfl ?_
        refine Go.Sl.kw_skip rfl rfl ?_
        refine Go.Sl.kw_skip rfl rfl ?_
        refine Go.Sl.kw_skip rfl rfl ?_
        refine Go.Sl.kw_skip rfl rfl ?_
        refine Go.Sl.kw_skip rfl rfl ?_
        refine Go.Sl.kw_skip rfl rfl ?_
        refine Go.Sl.kw_skip rfl rfl ?_
        refine Go.Sl.kw_skip rfl rfl ?_
        refine Go.Sl.kw_skip rfl rfl ?_
        refine Go.Sl.kw_skip rfl rfl ?_
        refine Go.Sl.kw_val rfl rfl (Go.Sl.v_pick_true rfl rfl) ?_
        refine Go.Sl.kw_nil ?_
        refine Go.Sl.xw_then ?_
        refine Go.Sl.cw_true rfl ?_
        refine Go.Sl.cw_seq ?_
        refine Go.Sl.cw_region ?_
        refine Go.Sl.ow_val rfl rfl (Go.Sl.v_assign rfl) ?_
        refine Go.Sl.ow_nil ?_
        refine Go.Sl.xw_then ?_
        refine Go.Sl.cw_ret ?_
        refine Go.Sl.xw_joint_ret ?_
        refine Go.Sl.ret1 rfl (Go.Sl.res_tmp rfl) ?_
        rotate_left
        refine Go.Sl.kw_val rfl rfl (Go.Sl.v_fieldAddr0 Ty.fd62_0 rfl) ?_
        refine Go.Sl.kw_val rfl rfl (Go.Sl.v_load rfl (Go.Sl.Var.at1 Ty.sc59 .here ((GetN.one rfl)))) ?_
        refine Go.Sl.kw_val rfl rfl (Go.Sl.v_eql rfl rfl) ?_
        refine Go.Sl.kw_val rfl rfl (Go.Sl.v_pick_false rfl rfl) ?_
        refine Go.Sl.kw_val rfl rfl (Go.Sl.v_move rfl) ?_
        refine Go.Sl.kw_dec 84 rfl (fun hc84 => ?_) (fun hc84 => ?_)
        refine Go.Sl.kw_skip rfl rfl ?_
        refine Go.Sl.kw_skip rfl rfl ?_
        refine Go.Sl.kw_skip rfl rfl ?_
        refine Go.Sl.kw_skip rfl rfl ?_
        refine Go.Sl.kw_val rfl rfl (Go.Sl.v_pick_true rfl rfl) ?_
        refine Go.Sl.kw_val rfl rfl (Go.Sl.v_move rfl) ?_
        refine Go.Sl.kw_skip rfl rfl ?_
        refine Go.Sl.kw_skip rfl rfl ?_
        refine Go.Sl.kw_skip rfl rfl ?_
        refine Go.Sl.kw_skip rfl rfl ?_
        refine Go.Sl.kw_skip rfl rfl ?_
        refine Go.Sl.kw_skip rfl rfl ?_
        refine Go.Sl.kw_skip rfl rfl ?_
        refine Go.Sl.kw_skip rfl rfl ?_
        refine Go.Sl.kw_skip rfl rfl ?_
        refine Go.Sl.kw_skip rfl rfl ?_
        refine Go.Sl.kw_skip rfl rfl ?_
        refine Go.Sl.kw_skip rfl rfl ?_
        refine Go.Sl.kw_skip rfl rfl ?_
        refine Go.Sl.kw_skip rfl rfl ?_
        refine Go.Sl.kw_val rfl rfl (Go.Sl.v_pick_true rfl rfl) ?_
        refine Go.Sl.kw_nil ?_
        refine Go.Sl.xw_then ?_
        refine Go.Sl.cw_true rfl ?_
        refine Go.Sl.cw_seq ?_
        refine Go.Sl.cw_region ?_
        refine Go.Sl.ow_val rfl rfl (Go.Sl.v_assign rfl) ?_
        refine Go.Sl.ow_nil ?_
        refine Go.Sl.xw_then ?_
        refine Go.Sl.cw_ret ?_
        refine Go.Sl.xw_joint_ret ?_
        refine Go.Sl.ret1 rfl (Go.Sl.res_tmp rfl) ?_
        rotate_left
        refine Go.Sl.kw_val rfl rfl (Go.Sl.v_move rfl) ?_
        refine Go.Sl.kw_val rfl rfl (Go.Sl.v_load rfl (Go.Sl.Var.atN Ty.ag62 (.there .here) Go.Sl.GetN.all (by first | rfl | assumption))) ?_
        refine Go.Sl.kw_val rfl rfl (Go.Sl.v_call rfl rfl (sa _)) ?_
        refine Go.Sl.kw_val rfl rfl (Go.Sl.v_not_false rfl) ?_
        refine Go.Sl.kw_val rfl rfl (Go.Sl.v_pick_false rfl rfl) ?_
        refine Go.Sl.kw_val rfl rfl (Go.Sl.v_move rfl) ?_
        refine Go.Sl.kw_skip rfl rfl ?_
        refine Go.Sl.kw_skip rfl rfl ?_
        refine Go.Sl.kw_skip rfl rfl ?_
        refine Go.Sl.kw_skip rfl rfl ?_
        refine Go.Sl.kw_skip rfl rfl ?_
        refine Go.Sl.kw_skip rfl rfl ?_
        refine Go.Sl.kw_skip rfl rfl ?_
        refine Go.Sl.kw_skip rfl rfl ?_
        refine Go.Sl.kw_skip rfl rfl ?_
        refine Go.Sl.kw_skip rfl rfl ?_
        refine Go.Sl.kw_skip rfl rfl ?_
        refine Go.Sl.kw_skip rfl rfl ?_
        refine Go.Sl.kw_skip rfl rfl ?_
        refine Go.Sl.kw_skip rfl rfl ?_
        refine Go.Sl.kw_val rfl rfl (Go.Sl.v_pick_true rfl rfl) ?_
        refine Go.Sl.kw_nil ?_
        refine Go.Sl.xw_then ?_
        refine Go.Sl.cw_true rfl ?_
        refine Go.Sl.cw_seq ?_
        refine Go.Sl.cw_region ?_
        refine Go.Sl.ow_val rfl rfl (Go.Sl.v_assign rfl) ?_
        refine Go.Sl.ow_nil ?_
        refine Go.Sl.xw_then ?_
        refine Go.Sl.cw_ret ?_
        refine Go.Sl.xw_joint_ret ?_
        refine Go.Sl.ret1 rfl (Go.Sl.res_tmp rfl) ?_
        rotate_left
        all_goals exact done0 rfl (by first | exact Go.Sl.Cov.refl _ | (intro p; simp only [List.flatten_cons, List.flatten_nil, List.flatten_append, List.append_nil, List.nil_append, Go.Sl.cnt_append, Go.Sl.cnt_cons, Go.Sl.cnt_nil, List.set_cons_zero, List.set_cons_succ, List.length_nil, List.length_cons, Nat.zero_add, List.append]; omega))
    | true =>
      rw [hsa] at sa
      have h1 := hna hsa
      cases hsb : b.m.spc with
      | false =>
        rw [hsb] at sb
        refine Go.Sl.cw_seq ?_
        refine Go.Sl.cw_quiet Ty.mixed (by decide +kernel) ?_
        refine Go.Sl.kw_val rfl rfl (Go.Sl.v_fieldAddr0 Ty.fd62_0 rfl) ?_
        refine Go.Sl.kw_val rfl rfl (Go.Sl.v_load rfl (Go.Sl.Var.at1 Ty.sc59 (.there .here) ((GetN.one rfl)))) ?_
        refine Go.Sl.kw_val rfl rfl (Go.Sl.v_eql rfl rfl) ?_
        refine Go.Sl.kw_val rfl rfl (Go.Sl.v_move rfl) ?_
        refine Go.Sl.kw_dec 79 rfl (fun hc79 => ?_) (fun hc79 => ?_)
        refine Go.Sl.kw_skip rfl rfl ?_
        refine Go.Sl.kw_skip rfl rfl ?_
        refine Go.Sl.kw_skip rfl rfl ?_
        refine Go.Sl.kw_val rfl rfl (Go.Sl.v_pick_true rfl rfl) ?_
        refine Go.Sl.kw_val rfl rfl (Go.Sl.v_move rfl) ?_
        refine Go.Sl.kw_skip rfl rfl ?_
        refine Go.Sl.kw_skip rfl rfl ?_
        refine Go.Sl.kw_skip rfl rfl ?_
        refine Go.Sl.kw_skip rfl rfl ?_
        refine Go.Sl.kw_val rfl rfl (Go.Sl.v_pick_true rfl rfl) ?_
        refine Go.Sl.kw_val rfl rfl (Go.Sl.v_move rfl) ?_
        refine Go.Sl.kw_skip rfl rfl ?_
        refine Go.Sl.kw_skip rfl rfl ?_
        refine Go.Sl.kw_skip rfl rfl ?_
        refine Go.Sl.kw_skip rfl rfl ?_
        refine Go.Sl.kw_skip rfl rfl ?_
        refine Go.Sl.kw_skip rfl rfl ?_
        refine Go.Sl.kw_skip rfl rfl ?_
        refine Go.Sl.kw_skip rfl rfl ?_
        refine Go.Sl.kw_skip rfl rfl ?_
        refine Go.Sl.kw_skip rfl rfl ?_
        refine Go.Sl.kw_skip rfl rfl ?_
        refine Go.Sl.kw_skip rfl rfl ?_
        refine Go.Sl.kw_skip rfl rfl ?_
        refine Go.Sl.kw_skip rfl rfl ?_
        refine Go.Sl.kw_val rfl rfl (Go.Sl.v_pick_true rfl rfl) ?_
        refine Go.Sl.kw_nil ?_
        refine Go.Sl.xw_then ?_
        refine Go.Sl.cw_true rfl ?_
        refine Go.Sl.cw_seq ?_
        refine Go.Sl.cw_region ?_
        refine Go.Sl.ow_val rfl rfl (Go.Sl.v_assign rfl) ?_
        refine Go.Sl.ow_nil ?_
        refine Go.Sl.xw_then ?_
        refine Go.Sl.cw_ret ?_
        refine Go.Sl.xw_joint_ret ?_
        refine Go.Sl.ret1 rfl (Go.Sl.res_tmp rfl) ?_
        rotate_left
        refine Go.Sl.kw_val rfl rfl (Go.Sl.v_fieldAddr0 Ty.fd62_0 rfl) ?_
        refine Go.Sl.kw_val rfl rfl (Go.Sl.v_load rfl (Go.Sl.Var.at1 Ty.sc59 .here ((GetN.one rfl)))) ?_
        refine Go.Sl.kw_val rfl rfl (Go.Sl.v_eql rfl rfl) ?_
        refine Go.Sl.kw_val rfl rfl (Go.Sl.v_pick_false rfl rfl) ?_
        refine Go.Sl.kw_val rfl rfl (Go.Sl.v_move rfl) ?_
        refine Go.Sl.kw_dec 84 rfl (fun hc84 => ?_) (fun hc84 => ?_)
        refine Go.Sl.kw_skip rfl rfl ?_
        refine Go.Sl.kw_skip rfl rfl ?_
        refine Go.Sl.kw_skip rfl rfl ?_
        refine Go.Sl.kw_skip rfl rfl ?_
        refine Go.Sl.kw_val rfl rfl (Go.Sl.v_pick_true rfl rfl) ?_
        refine Go.Sl.kw_val rfl rfl (Go.Sl.v_move rfl) ?_
        refine Go.Sl.kw_skip rfl rfl ?_
        refine Go.Sl.kw_skip rfl rfl ?_
        refine Go.Sl.kw_skip rfl rfl ?_
        refine Go.Sl.kw_skip rfl rfl ?_
        refine Go.Sl.kw_skip rfl rfl ?_
        refine Go.Sl.kw_skip rfl rfl ?_
        refine Go.Sl.kw_skip rfl rfl ?_
        refine Go.Sl.kw_skip rfl rfl ?_
        refine Go.Sl.kw_skip rfl rfl ?_
        refine Go.Sl.kw_skip rfl rfl ?_
        refine Go.Sl.kw_skip rfl rfl ?_
        refine Go.Sl.kw_skip rfl rfl ?_
        refine Go.Sl.kw_skip rfl rfl ?_
        refine Go.Sl.kw_skip rfl rfl ?_
        refine Go.Sl.kw_val rfl rfl (Go.Sl.v_pick_true rfl rfl) ?_
        refine Go.Sl.kw_nil ?_
        refine Go.Sl.xw_then ?_
        refine Go.Sl.cw_true rfl ?_
        refine Go.Sl.cw_seq ?_
        refine Go.Sl.cw_region ?_
        refine Go.Sl.ow_val rfl rfl (Go.Sl.v_assign rfl) ?_
        refine Go.Sl.ow_nil ?_
        refine Go.Sl.xw_then ?_
        refine Go.Sl.cw_ret ?_
        refine Go.Sl.xw_joint_ret ?_
        refine Go.Sl.ret1 rfl (Go.Sl.res_tmp rfl) ?_
        rotate_left
        refine Go.Sl.kw_val rfl rfl (Go.Sl.v_move rfl) ?_
        refine Go.Sl.kw_val rfl rfl (Go.Sl.v_load rfl (Go.Sl.Var.atN Ty.ag62 (.there .here) Go.Sl.GetN.all (by first | rfl | assumption))) ?_
        refine Go.Sl.kw_val rfl rfl (Go.Sl.v_call rfl rfl (sa _)) ?_
        refine Go.Sl.kw_val rfl rfl (Go.Sl.v_not_true rfl) ?_
        refine Go.Sl.kw_val rfl rfl (Go.Sl.v_pick_false rfl rfl) ?_
        refine Go.Sl.kw_val rfl rfl (Go.Sl.v_move rfl) ?_
        refine Go.Sl.kw_val rfl rfl (Go.Sl.v_move rfl) ?_
        refine Go.Sl.kw_val rfl rfl (Go.Sl.v_load rfl (Go.Sl.Var.atN Ty.ag62 .here Go.Sl.GetN.all (by first | rfl | assumption))) ?_
        refine Go.Sl.kw_val rfl rfl (Go.Sl.v_call rfl rfl (sb _)) ?_
        refine Go.Sl.kw_val rfl rfl (Go.Sl.v_move rfl) ?_
        refine Go.Sl.kw_skip rfl rfl ?_
        refine Go.Sl.kw_skip rfl rfl ?_
        refine Go.Sl.kw_skip rfl rfl ?_
        refine Go.Sl.kw_skip rfl rfl ?_
        refine Go.Sl.kw_skip rfl rfl ?_
        refine Go.Sl.kw_skip rfl rfl ?_
        refine Go.Sl.kw_skip rfl rfl ?_
        refine Go.Sl.kw_skip rfl rfl ?_
        refine Go.Sl.kw_skip rfl rfl ?_
        refine Go.Sl.kw_val rfl rfl (Go.Sl.v_pick_false rfl rfl) ?_
        refine Go.Sl.kw_val rfl rfl (Go.Sl.v_pick_false rfl rfl) ?_
        refine Go.Sl.kw_nil ?_
        refine Go.Sl.xw_then ?_
        refine Go.Sl.cw_false rfl ?_
        refine Go.Sl.cw_skip ?_
        rotate_left
        · exact done0 rfl (by first | exact Go.Sl.Cov.refl _ | (intro p; simp only [List.flatten_cons, List.flatten_nil, List.flatten_append, List.append_nil, List.nil_append, Go.Sl.cnt_append, Go.Sl.cnt_cons, Go.Sl.cnt_nil, List.set_cons_zero, List.set_cons_succ, List.length_nil, List.length_cons, Nat.zero_add, List.append]; omega))
        · exact done0 rfl (by first | exact Go.Sl.Cov.refl _ | (intro p; simp only [List.flatten_cons, List.flatten_nil, List.flatten_append, List.append_nil, List.nil_append, Go.Sl.cnt_append, Go.Sl.cnt_cons, Go.Sl.cnt_nil, List.set_cons_zero, List.set_cons_succ, List.length_nil, List.length_cons, Nat.zero_add, List.append]; omega))
        · exact xw_joint () ⟨hc79, hc84, rfl, fun h => by cases h⟩ (by first | exact Go.Sl.Cov.refl _ | (intro p; simp only [List.flatten_cons, List.flatten_nil, List.flatten_append, List.append_nil, List.nil_append, Go.Sl.cnt_append, Go.Sl.cnt_cons, Go.Sl.cnt_nil, List.set_cons_zero, List.set_cons_succ, List.length_nil, List.length_cons, Nat.zero_add, List.append]; omega)) (by repeat (first | exact True.intro | refine And.intro rfl ?_))
      | true =>
        rw [hsb] at sb
        have h2 := hnb hsb
        refine Go.Sl.cw_seq ?_
        refine Go.Sl.cw_quiet Ty.mixed (by decide +kernel) ?_
        refine Go.Sl.kw_val rfl rfl (Go.Sl.v_fieldAddr0 Ty.fd62_0 rfl) ?_
        refine Go.Sl.kw_val rfl rfl (Go.Sl.v_load rfl (Go.Sl.Var.at1 Ty.sc59 (.there .here) ((GetN.one rfl)))) ?_
        refine Go.Sl.kw_val rfl rfl (Go.Sl.v_eql rfl rfl) ?_
        refine Go.Sl.kw_val rfl rfl (Go.Sl.v_move rfl) ?_
        refine Go.Sl.kw_dec 79 rfl (fun hc79 => ?_) (fun hc79 => ?_)
        refine Go.Sl.kw_skip rfl rfl ?_
        refine Go.Sl.kw_skip rfl rfl ?_
        refine Go.Sl.kw_skip rfl rfl ?_
        refine Go.Sl.kw_val rfl rfl (Go.Sl.v_pick_true rfl rfl) ?_
        refine Go.Sl.kw_val rfl rfl (Go.Sl.v_move rfl) ?_
        refine Go.Sl.kw_skip rfl rfl ?_
        refine Go.Sl.kw_skip rfl rfl ?_
        refine Go.Sl.kw_skip rfl rfl ?_
        refine Go.Sl.kw_skip rfl rfl ?_
        refine Go.Sl.kw_val rfl rfl (Go.Sl.v_pick_true rfl rfl) ?_
        refine Go.Sl.kw_val rfl rfl (Go.Sl.v_move rfl) ?_
        refine Go.Sl.kw_skip rfl rfl ?_
        refine Go.Sl.kw_skip rfl rfl ?_
        refine Go.Sl.kw_skip rfl rfl ?_
        refine Go.Sl.kw_skip rfl rfl ?_
        refine Go.Sl.kw_skip rfl rfl ?_
        refine Go.Sl.kw_skip rfl rfl ?_
        refine Go.Sl.kw_skip rfl rfl ?_
        refine Go.Sl.kw_skip rfl rfl ?_
        refine Go.Sl.kw_skip rfl rfl ?_
        refine Go.Sl.kw_skip rfl rfl ?_
        refine Go.Sl.kw_skip rfl rfl ?_
        refine Go.Sl.kw_skip rfl rfl ?_
        refine Go.Sl.kw_skip rfl rfl ?_
        refine Go.Sl.kw_skip rfl rfl ?_
        refine Go.Sl.kw_val rfl rfl (Go.Sl.v_pick_true rfl rfl) ?_
        refine Go.Sl.kw_nil ?_
        refine Go.Sl.xw_then ?_
        refine Go.Sl.cw_true rfl ?_
        refine Go.Sl.cw_seq ?_
        refine Go.Sl.cw_region ?_
        refine Go.Sl.ow_val rfl rfl (Go.Sl.v_assign rfl) ?_
        refine Go.Sl.ow_nil ?_
        refine Go.Sl.xw_then ?_
        refine Go.Sl.cw_ret ?_
        refine Go.Sl.xw_joint_ret ?_
        refine Go.Sl.ret1 rfl (Go.Sl.res_tmp rfl) ?_
        rotate_left
        refine Go.Sl.kw_val rfl rfl (Go.Sl.v_fieldAddr0 Ty.fd62_0 rfl) ?_
        refine Go.Sl.kw_val rfl rfl (Go.Sl.v_load rfl (Go.Sl.Var.at1 Ty.sc59 .here ((GetN.one rfl)))) ?_
        refine Go.Sl.kw_val rfl rfl (Go.Sl.v_eql rfl rfl) ?_
        refine Go.Sl.kw_val rfl rfl (Go.Sl.v_pick_false rfl rfl) ?_
        refine Go.Sl.kw_val rfl rfl (Go.Sl.v_move rfl) ?_
        refine Go.Sl.kw_dec 84 rfl (fun hc84 => ?_) (fun hc84 => ?_)
        refine Go.Sl.kw_skip rfl rfl ?_
        refine Go.Sl.kw_skip rfl rfl ?_
        refine Go.Sl.kw_skip rfl rfl ?_
        refine Go.Sl.kw_skip rfl rfl ?_
        refine Go.Sl.kw_val rfl rfl (Go.Sl.v_pick_true rfl rfl) ?_
        refine Go.Sl.kw_val rfl rfl (Go.Sl.v_move rfl) ?_
        refine Go.Sl.kw_skip rfl rfl ?_
        refine Go.Sl.kw_skip rfl rfl ?_
        refine Go.Sl.kw_skip rfl rfl ?_
        refine Go.Sl.kw_skip rfl rfl ?_
        refine Go.Sl.kw_skip rfl rfl ?_
        refine Go.Sl.kw_skip rfl rfl ?_
        refine Go.Sl.kw_skip rfl rfl ?_
        refine Go.Sl.kw_skip rfl rfl ?_
        refine Go.Sl.kw_skip rfl rfl ?_
        refine Go.Sl.kw_skip rfl rfl ?_
        refine Go.Sl.kw_skip rfl rfl ?_
        refine Go.Sl.kw_skip rfl rfl ?_
        refine Go.Sl.kw_skip rfl rfl ?_
        refine Go.Sl.kw_skip rfl rfl ?_
        refine Go.Sl.kw_val rfl rfl (Go.Sl.v_pick_true rfl rfl) ?_
        refine Go.Sl.kw_nil ?_
        refine Go.Sl.xw_then ?_
        refine Go.Sl.cw_true rfl ?_
        refine Go.Sl.cw_seq ?_
        refine Go.Sl.cw_region ?_
        refine Go.Sl.ow_val rfl rfl (Go.Sl.v_assign rfl) ?_
        refine Go.Sl.ow_nil ?_
        refine Go.Sl.xw_then ?_
        refine Go.Sl.cw_ret ?_
        refine Go.Sl.xw_joint_ret ?_
        refine Go.Sl.ret1 rfl (Go.Sl.res_tmp rfl) ?_
        rotate_left
        refine Go.Sl.kw_val rfl rfl (Go.Sl.v_move rfl) ?_
        refine Go.Sl.kw_val rfl rfl (Go.Sl.v_load rfl (Go.Sl.Var.atN Ty.ag62 (.there .here) Go.Sl.GetN.all (by first | rfl | assumption))) ?_
        refine Go.Sl.kw_val rfl rfl (Go.Sl.v_call rfl rfl (sa _)) ?_
        refine Go.Sl.kw_val rfl rfl (Go.Sl.v_not_true rfl) ?_
        refine Go.Sl.kw_val rfl rfl (Go.Sl.v_pick_false rfl rfl) ?_
        refine Go.Sl.kw_val rfl rfl (Go.Sl.v_move rfl) ?_
        refine Go.Sl.kw_val rfl rfl (Go.Sl.v_move rfl) ?_
        refine Go.Sl.kw_val rfl rfl (Go.Sl.v_load rfl (Go.Sl.Var.atN Ty.ag62 .here Go.Sl.GetN.all (by first | rfl | assumption))) ?_
        refine Go.Sl.kw_val rfl rfl (Go.Sl.v_call rfl rfl (sb _)) ?_
        refine Go.Sl.kw_val rfl rfl (Go.Sl.v_move rfl) ?_
        refine Go.Sl.kw_val rfl rfl (Go.Sl.v_fieldAddr0 Ty.fd62_2 rfl) ?_
        refine Go.Sl.kw_val rfl rfl (Go.Sl.v_load rfl (Go.Sl.Var.at1 Ty.sc60 (.there .here) ((GetN.one rfl)))) ?_
        refine Go.Sl.kw_val rfl rfl (Go.Sl.v_indexAddr_vw (i := 0) Try.underlying60 (qTy) rfl rfl (by assumption) rfl (by omega)) ?_
        refine Go.Sl.kw_val rfl rfl (Go.Sl.v_load rfl (Go.Sl.Vw.var (qTy) ((hDa _ (by repeat (first | exact Go.Sl.Sub.here | exact Go.Sl.Sub.nil | assumption | refine Go.Sl.Sub.there ?_))).n) (by omega))) ?_
        refine Go.Sl.kw_val rfl rfl (Go.Sl.v_fieldAddr0 Ty.fd62_2 rfl) ?_
        refine Go.Sl.kw_val rfl rfl (Go.Sl.v_load rfl (Go.Sl.Var.at1 Ty.sc60 .here ((GetN.one rfl)))) ?_
        refine Go.Sl.kw_val rfl rfl (Go.Sl.v_indexAddr_vw (i := 0) Try.underlying60 (qTy) rfl rfl (by assumption) rfl (by omega)) ?_
        refine Go.Sl.kw_val rfl rfl (Go.Sl.v_load rfl (Go.Sl.Vw.var (qTy) ((hDb _ (by repeat (first | exact Go.Sl.Sub.here | exact Go.Sl.Sub.nil | assumption | refine Go.Sl.Sub.there ?_))).n) (by omega))) ?_
        refine Go.Sl.kw_val rfl rfl (Go.Sl.v_eql rfl rfl) ?_
        refine Go.Sl.kw_val rfl rfl (Go.Sl.v_pick_true rfl rfl) ?_
        refine Go.Sl.kw_val rfl rfl (Go.Sl.v_pick_false rfl rfl) ?_
        refine Go.Sl.kw_nil ?_
        refine Go.Sl.xw_then ?_
        refine Go.Sl.cw_dec rfl (fun hc105 => ?_) (fun hc105 => ?_)
        refine Go.Sl.cw_seq ?_
        refine Go.Sl.cw_region ?_
        refine Go.Sl.ow_val rfl rfl (Go.Sl.v_assign rfl) ?_
        refine Go.Sl.ow_nil ?_
        refine Go.Sl.xw_then ?_
        refine Go.Sl.cw_ret ?_
        refine Go.Sl.xw_joint_ret ?_
        refine Go.Sl.ret1 rfl (Go.Sl.res_tmp rfl) ?_
        rotate_left
        refine Go.Sl.cw_skip ?_
        rotate_left
        · exact done0 rfl (by first | exact Go.Sl.Cov.refl _ | (intro p; simp only [List.flatten_cons, List.flatten_nil, List.flatten_append, List.append_nil, List.nil_append, Go.Sl.cnt_append, Go.Sl.cnt_cons, Go.Sl.cnt_nil, List.set_cons_zero, List.set_cons_succ, List.length_nil, List.length_cons, Nat.zero_add, List.append]; omega))
        · exact done0 rfl (by first | exact Go.Sl.Cov.refl _ | (intro p; simp only [List.flatten_cons, List.flatten_nil, List.flatten_append, List.append_nil, List.nil_append, Go.Sl.cnt_append, Go.Sl.cnt_cons, Go.Sl.cnt_nil, List.set_cons_zero, List.set_cons_succ, List.length_nil, List.length_cons, Nat.zero_add, List.append]; omega))
        · exact done0 rfl (by first | exact Go.Sl.Cov.refl _ | (intro p; simp only [List.flatten_cons, List.flatten_nil, List.flatten_append, List.append_nil, List.nil_append, Go.Sl.cnt_append, Go.Sl.cnt_cons, Go.Sl.cnt_nil, List.set_cons_zero, List.set_cons_succ, List.length_nil, List.length_cons, Nat.zero_add, List.append]; omega))
        · exact xw_joint () ⟨hc79, hc84, rfl, fun _ => by rw [← EvM.at_get h1, ← EvM.at_get h2]; exact hc105⟩ (by first | exact Go.Sl.Cov.refl _ | (intro p; simp only [List.flatten_cons, List.flatten_nil, List.flatten_append, List.append_nil, List.nil_append, Go.Sl.cnt_append, Go.Sl.cnt_cons, Go.Sl.cnt_nil, List.set_cons_zero, List.set_cons_succ, List.length_nil, List.length_cons, Nat.zero_add, List.append]; omega)) (by repeat (first | exact True.intro | refine And.intro rfl ?_))
    rintro _ ⟨hka, hkb, hsa, hne⟩
    have hwa := StM.step_wf (s := s) (e := a.m) hw ha.ok
    have hwb := StM.step_wf (s := s) (e := b.m) hw hb.ok
    have hza := StM.step_sz (e := a.m) hz
    have hzb := StM.step_sz (e := b.m) hz
    have hwab := StM.step_wf (e := b.m) hwa hb.ok
    have hwba := StM.step_wf (e := a.m) hwb ha.ok
    have hzab := StM.step_sz (e := b.m) hza
    have hzba := StM.step_sz (e := a.m) hzb
    have hlm := hcl
    have hka' := ha.k
    have hna : a.m.n.length > 0 := many_pos (spc_iff.1 hsa) ha.n
    have hat : 0 ≤ a.m.at 0 := at_nonneg ha.ok
    have hbt : 0 ≤ b.m.at 0 := at_nonneg hb.ok
    have hcm : Comm s a.m b.m := comm (spc_iff.1 hsa) (by have := hb.k; omega) (fun h => hne (spc_iff.2 h)) hat hbt
    obtain ⟨ea, eb, eS⟩ := hcm
    refine Go.Sl.cw_seq ?_
    refine Go.Sl.cw_region ?_
    refine Go.Sl.ow_val rfl rfl (Go.Sl.v_load rfl (Go.Sl.Var.atN Ty.ag75 (.there (.there (.there (.there .here)))) Go.Sl.GetN.all (by first | rfl | assumption))) ?_
    refine Go.Sl.ow_val rfl rfl (Go.Sl.v_load rfl (Go.Sl.Var.atN Ty.ag62 (.there .here) Go.Sl.GetN.all (by first | rfl | assumption))) ?_
    (refine Go.Sl.ow_call rfl rfl rfl rfl (stFoldV_c hS (by repeat (first | exact Go.Sl.Sub.here | exact Go.Sl.Sub.nil | assumption | refine Go.Sl.Sub.there ?_)) hw (hz.mono (by omega)) ha.ok hDa (by repeat (first | exact Go.Sl.Sub.here | exact Go.Sl.Sub.nil | assumption | refine Go.Sl.Sub.there ?_))) ?_; rintro _ _ ⟨x109, rfl, hq109, rfl⟩)
    refine Go.Sl.ow_val rfl rfl (Go.Sl.v_move rfl) ?_
    refine Go.Sl.ow_val rfl rfl (Go.Sl.v_extract rfl rfl) ?_
    refine Go.Sl.ow_val rfl rfl (Go.Sl.v_extract rfl rfl) ?_
    (refine Go.Sl.ow_alloc rfl rfl Ty.ze75 ?_; intro b19)
    obtain ⟨q1, E1⟩ := x109
    obtain ⟨hE1, hl1⟩ := hq109
    dsimp only at hE1 hl1 ⊢
    have l1 := hcl _ q1 hwa
    have l2 := hco (s.step a.m).1 q1
    have l3 := hzl _ q1 hwa
    refine ow_cov ([(b19, .cells zeroL.toArray 75 (0, 0))] :: E1 :: [(b9, .cells (b.m.cells b.p).toArray 62 (0, 0))] :: [(b8, .cells (a.m.cells a.p).toArray 62 (0, 0))] :: (a.cn ++ a.cd) :: (b.cn ++ b.cd) :: [(b13, .cells (s.cells p).toArray 75 (0, 0))] :: E :: F) (by unfold zeroL; exact (by first | exact Go.Sl.Cov.refl _ | (intro p; simp only [List.flatten_cons, List.flatten_nil, List.flatten_append, List.append_nil, List.nil_append, Go.Sl.cnt_append, Go.Sl.cnt_cons, Go.Sl.cnt_nil, List.set_cons_zero, List.set_cons_succ, List.length_nil, List.length_cons, Nat.zero_add, List.append]; omega))) ?_
    refine Go.Sl.ow_storeN rfl rfl rfl Ty.ag75 (by first | rfl | assumption) (by first | assumption | simp) .here ((SetN.all l3)) ?_
    refine Go.Sl.ow_val rfl rfl (Go.Sl.v_assign rfl) ?_
    refine Go.Sl.ow_nil ?_
    refine Go.Sl.xw_then ?_
    refine Go.Sl.cw_seq ?_
    refine Go.Sl.cw_region ?_
    refine Go.Sl.ow_val rfl rfl (Go.Sl.v_load rfl (Go.Sl.Var.atN Ty.ag75 (.there (.there (.there (.there (.there (.there .here)))))) Go.Sl.GetN.all (by first | rfl | assumption))) ?_
    refine Go.Sl.ow_val rfl rfl (Go.Sl.v_load rfl (Go.Sl.Var.atN Ty.ag62 (.there (.there .here)) Go.Sl.GetN.all (by first | rfl | assumption))) ?_
    (refine Go.Sl.ow_call rfl rfl rfl rfl (stFoldV_c hS (by repeat (first | exact Go.Sl.Sub.here | exact Go.Sl.Sub.nil | assumption | refine Go.Sl.Sub.there ?_)) hw (hz.mono (by omega)) hb.ok hDb (by repeat (first | exact Go.Sl.Sub.here | exact Go.Sl.Sub.nil | assumption | refine Go.Sl.Sub.there ?_))) ?_; rintro _ _ ⟨x115, rfl, hq115, rfl⟩)
    refine Go.Sl.ow_val rfl rfl (Go.Sl.v_move rfl) ?_
    refine Go.Sl.ow_val rfl rfl (Go.Sl.v_extract rfl rfl) ?_
    refine Go.Sl.ow_val rfl rfl (Go.Sl.v_extract rfl rfl) ?_
    (refine Go.Sl.ow_alloc rfl rfl Ty.ze75 ?_; intro b21)
    obtain ⟨q2, E2⟩ := x115
    obtain ⟨hE2, hl2⟩ := hq115
    dsimp only at hE2 hl2 ⊢
    have l4 := hcl _ q2 hwb
    have l5 := hco (s.step b.m).1 q2
    have l6 := hzl _ q2 hwb
    refine ow_cov ([(b21, .cells zeroL.toArray 75 (0, 0))] :: E2 :: [(b19, .cells ((s.step a.m).1.cells q1).toArray 75 (0, 0))] :: E1 :: [(b9, .cells (b.m.cells b.p).toArray 62 (0, 0))] :: [(b8, .cells (a.m.cells a.p).toArray 62 (0, 0))] :: (a.cn ++ a.cd) :: (b.cn ++ b.cd) :: [(b13, .cells (s.cells p).toArray 75 (0, 0))] :: E :: F) (by unfold zeroL; exact (by first | exact Go.Sl.Cov.refl _ | (intro p; simp only [List.flatten_cons, List.flatten_nil, List.flatten_append, List.append_nil, List.nil_append, Go.Sl.cnt_append, Go.Sl.cnt_cons, Go.Sl.cnt_nil, List.set_cons_zero, List.set_cons_succ, List.length_nil, List.length_cons, Nat.zero_add, List.append]; omega))) ?_
    have hC1 : ∀ {G : List Hp}, Sub E1 G → Sub (b.cn ++ b.cd) G → Go.Sl.Fn Try.prog 30 #[.agg ((s.step a.m).1.cells q1).toArray, .agg (b.m.cells b.p).toArray] B w0 G fun u G' => ∃ x : StP × Hp, u = .tuple #[.agg (((s.step a.m).1.step b.m).1.cells x.1).toArray, .int .i64 (s.step b.m).2] ∧ (StDeep ((s.step a.m).1.step b.m).1 x.1 x.2 ∧ x.1.live) ∧ G' = [x.2] ++ G := fun h1 h2 => by
      have h := stFoldV_c hE1 h1 hwa (hza.mono (by omega)) hb.ok hDb h2
      rw [eb] at h
      exact h
    have hC2 : ∀ {G : List Hp}, Sub E2 G → Sub (a.cn ++ a.cd) G → Go.Sl.Fn Try.prog 30 #[.agg ((s.step b.m).1.cells q2).toArray, .agg (a.m.cells a.p).toArray] B w0 G fun u G' => ∃ x : StP × Hp, u = .tuple #[.agg (((s.step a.m).1.step b.m).1.cells x.1).toArray, .int .i64 (s.step a.m).2] ∧ (StDeep ((s.step a.m).1.step b.m).1 x.1 x.2 ∧ x.1.live) ∧ G' = [x.2] ++ G := fun h1 h2 => by
      have h := stFoldV_c hE2 h1 hwb (hzb.mono (by omega)) ha.ok hDa h2
      rw [ea, ← eS] at h
      exact h
    refine Go.Sl.ow_storeN rfl rfl rfl Ty.ag75 (by first | rfl | assumption) (by first | assumption | simp) .here ((SetN.all l6)) ?_
    refine Go.Sl.ow_val rfl rfl (Go.Sl.v_assign rfl) ?_
    refine Go.Sl.ow_nil ?_
    refine Go.Sl.xw_then ?_
    refine Go.Sl.cw_seq ?_
    refine Go.Sl.cw_region ?_
    refine Go.Sl.ow_val rfl rfl (Go.Sl.v_load rfl (Go.Sl.Var.atN Ty.ag75 (.there (.there .here)) Go.Sl.GetN.all (by first | rfl | assumption))) ?_
    refine Go.Sl.ow_val rfl rfl (Go.Sl.v_load rfl (Go.Sl.Var.atN Ty.ag62 (.there (.there (.there (.there .here)))) Go.Sl.GetN.all (by first | rfl | assumption))) ?_
    (refine Go.Sl.ow_call rfl rfl rfl rfl (hC1 (by repeat (first | exact Go.Sl.Sub.here | exact Go.Sl.Sub.nil | assumption | refine Go.Sl.Sub.there ?_)) (by repeat (first | exact Go.Sl.Sub.here | exact Go.Sl.Sub.nil | assumption | refine Go.Sl.Sub.there ?_))) ?_; rintro _ _ ⟨x121, rfl, hq121, rfl⟩)
    refine Go.Sl.ow_val rfl rfl (Go.Sl.v_move rfl) ?_
    refine Go.Sl.ow_val rfl rfl (Go.Sl.v_extract rfl rfl) ?_
    refine Go.Sl.ow_val rfl rfl (Go.Sl.v_extract rfl rfl) ?_
    obtain ⟨q3, E3⟩ := x121
    obtain ⟨hE3, hl3⟩ := hq121
    dsimp only at hE3 hl3 ⊢
    have l7 := hcl _ q3 hwab
    have l8 := hco ((s.step a.m).1.step b.m).1 q3
    have l9 : ((((s.step a.m).1.step b.m).1).cells q3).length = ((s.step a.m).1.cells q1).length := l7.trans l1.symm
    refine Go.Sl.ow_storeN rfl rfl rfl Ty.ag75 (by first | rfl | assumption) (by first | assumption | simp) (.there (.there (.there .here))) ((SetN.all l9)) ?_
    refine Go.Sl.ow_val rfl rfl (Go.Sl.v_assign rfl) ?_
    refine Go.Sl.ow_nil ?_
    refine Go.Sl.xw_then ?_
    refine Go.Sl.cw_seq ?_
    refine Go.Sl.cw_region ?_
    refine Go.Sl.ow_val rfl rfl (Go.Sl.v_load rfl (Go.Sl.Var.atN Ty.ag75 (.there .here) Go.Sl.GetN.all (by first | rfl | assumption))) ?_
    refine Go.Sl.ow_val rfl rfl (Go.Sl.v_load rfl (Go.Sl.Var.atN Ty.ag62 (.there (.there (.there (.there (.there (.there .here)))))) Go.Sl.GetN.all (by first | rfl | assumption))) ?_
    (refine Go.Sl.ow_call rfl rfl rfl rfl (hC2 (by repeat (first | exact Go.Sl.Sub.here | exact Go.Sl.Sub.nil | assumption | refine Go.Sl.Sub.there ?_)) (by repeat (first | exact Go.Sl.Sub.here | exact Go.Sl.Sub.nil | assumption | refine Go.Sl.Sub.there ?_))) ?_; rintro _ _ ⟨x127, rfl, hq127, rfl⟩)
    refine Go.Sl.ow_val rfl rfl (Go.Sl.v_move rfl) ?_
    refine Go.Sl.ow_val rfl rfl (Go.Sl.v_extract rfl rfl) ?_
    refine Go.Sl.ow_val rfl rfl (Go.Sl.v_extract rfl rfl) ?_
    obtain ⟨q4, E4⟩ := x127
    obtain ⟨hE4, hl4⟩ := hq127
    dsimp only at hE4 hl4 ⊢
    have l10 := hcl _ q4 hwab
    have l11 := hco ((s.step a.m).1.step b.m).1 q4
    have l12 : ((((s.step a.m).1.step b.m).1).cells q4).length = ((s.step b.m).1.cells q2).length := l10.trans l4.symm
    refine Go.Sl.ow_storeN rfl rfl rfl Ty.ag75 (by first | rfl | assumption) (by first | assumption | simp) (.there (.there .here)) ((SetN.all l12)) ?_
    refine Go.Sl.ow_val rfl rfl (Go.Sl.v_assign rfl) ?_
    refine Go.Sl.ow_nil ?_
    refine Go.Sl.xw_then ?_
    refine Go.Sl.cw_seq ?_
    refine Go.Sl.cw_region ?_
    refine Go.Sl.ow_val rfl rfl (Go.Sl.v_move rfl) ?_
    refine Go.Sl.ow_val rfl rfl (Go.Sl.v_move rfl) ?_
    refine Go.Sl.ow_val rfl rfl (Go.Sl.v_eql rfl rfl) ?_
    refine Go.Sl.ow_val rfl rfl (Go.Sl.v_move rfl) ?_
    refine Go.Sl.ow_dec 133 rfl (fun hc133 => ?_) (fun hc133 => ?_)
    rotate_left; (exfalso; omega); rotate_right
    refine Go.Sl.ow_val rfl rfl (Go.Sl.v_move rfl) ?_
    refine Go.Sl.ow_val rfl rfl (Go.Sl.v_move rfl) ?_
    refine Go.Sl.ow_val rfl rfl (Go.Sl.v_eql rfl rfl) ?_
    refine Go.Sl.ow_val rfl rfl (Go.Sl.v_pick_true rfl rfl) ?_
    refine Go.Sl.ow_val rfl rfl (Go.Sl.v_move rfl) ?_
    refine Go.Sl.ow_dec 138 rfl (fun hc138 => ?_) (fun hc138 => ?_)
    rotate_left; (exfalso; omega); rotate_right
    refine Go.Sl.ow_val rfl rfl (Go.Sl.v_load rfl (Go.Sl.Var.atN Ty.ag75 (.there (.there (.there (.there .here)))) Go.Sl.GetN.all (by first | rfl | assumption))) ?_
    refine Go.Sl.ow_val rfl rfl (Go.Sl.v_load rfl (Go.Sl.Var.atN Ty.ag75 (.there (.there .here)) Go.Sl.GetN.all (by first | rfl | assumption))) ?_
    refine Go.Sl.ow_val rfl rfl (Go.Sl.v_call rfl rfl (stDiffers_c hE3 hE4 hl3 hl4 (by repeat (first | exact Go.Sl.Sub.here | exact Go.Sl.Sub.nil | assumption | refine Go.Sl.Sub.there ?_)) (by repeat (first | exact Go.Sl.Sub.here | exact Go.Sl.Sub.nil | assumption | refine Go.Sl.Sub.there ?_)) hwab (hzab.mono (by omega)))) ?_
    refine Go.Sl.ow_val rfl rfl (Go.Sl.v_eqlS rfl rfl) ?_
    refine Go.Sl.ow_val rfl rfl (Go.Sl.v_pick_true rfl rfl) ?_
    refine Go.Sl.ow_val rfl rfl (Go.Sl.v_assign rfl) ?_
    refine Go.Sl.ow_nil ?_
    refine Go.Sl.xw_then ?_
    refine Go.Sl.cw_ret ?_
    refine Go.Sl.ret1 rfl (Go.Sl.res_tmp rfl) ?_
    exact done0 (congrArg Value.bool (decide_eq_true rfl)) (by first | exact Go.Sl.Cov.refl _ | (intro p; simp only [List.flatten_cons, List.flatten_nil, List.flatten_append, List.append_nil, List.nil_append, Go.Sl.cnt_append, Go.Sl.cnt_cons, Go.Sl.cnt_nil, List.set_cons_zero, List.set_cons_succ, List.length_nil, List.length_cons, Nat.zero_add, List.append]; omega))
theorem walk {H : Type} {enc : TypeId × Value → H} (W : World) (base : Nat) (args : Array Value) (ds : List (DataW H)) (p : List MemPlace)
    (hval : ∀ (j : Nat) t v, Try.f7.params[j]? = some t → args[j]? = some v → Value.okWide Try.prog W .any base t v)
    (hA : DataW.TrodAll enc Try.prog W 0 (fun _ => true) true Try.f7.params.toList args.toList ds p) :
    Calls Try.prog 7 args W fun e w' => e = .returned (.bool true) ∧ Below W.heap.size W w' := by
  rw [Try.params7] at hA hval
  obtain ⟨v0, vs0, d0, ds0, p0, q0, hargs, rfl, rfl, h0, r0⟩ := trodAll_cons hA
  obtain ⟨v1, vs1, d1, ds1, p1, q1, rfl, rfl, rfl, h1, r1⟩ := trodAll_cons r0
  obtain ⟨v2, vs2, d2, ds2, p2, q2, rfl, rfl, rfl, h2, r2⟩ := trodAll_cons r1
  obtain ⟨v3, vs3, d3, ds3, p3, q3, rfl, rfl, rfl, h3, r3⟩ := trodAll_cons r2
  obtain ⟨v4, vs4, d4, ds4, p4, q4, rfl, rfl, rfl, h4, r4⟩ := trodAll_cons r3
  obtain ⟨v5, vs5, d5, ds5, p5, q5, rfl, rfl, rfl, h5, r5⟩ := trodAll_cons r4
  obtain ⟨rfl, rfl, rfl⟩ := trodAll_nil r5
  obtain rfl : args = #[v0, v1, v2, v3, v4, v5] := by cases args; simp_all
  obtain ⟨es, ao, ca, rfl, hn, hV, hD⟩ := open_events (hval 0 57 v0 rfl rfl) h0
  obtain ⟨xs, bo, cb, rfl, hx, _, hX⟩ := open_bytes (hval 1 23 v1 rfl rfl) h1
  obtain ⟨x, rfl, hxo, hxD⟩ := open_event (hval 2 62 v2 rfl rfl) h2
  obtain ⟨y, rfl, hyo, hyD⟩ := open_event (hval 3 62 v3 rfl rfl) h3
  obtain ⟨k1, rfl, hk1⟩ := open_u8 (hval 4 5 v4 rfl rfl) h4
  obtain ⟨k2, rfl, hk2⟩ := open_u8 (hval 5 5 v5 rfl rfl) h5
  exact (law hn hx hV hX hD hxo hyo hxD hyD hk1 hk2 []).call

theorem own : ownKnob Try.prog.godebug = none := by kernel_rfl
theorem laidOut : laidOutB Try.prog = true := by kernel_rfl
theorem reads : ∀ t ∈ Try.f7.params.toList, Try.prog.readableRec t = true ∧ t < Try.prog.types.size := by
  rw [Try.params7]
  intro t ht
  simp only [List.mem_cons, List.not_mem_nil, or_false] at ht
  rcases ht with rfl | rfl | rfl | rfl | rfl | rfl
  · exact ⟨by kernel_rfl, of_decide_eq_true (by kernel_rfl)⟩
  · exact ⟨by kernel_rfl, of_decide_eq_true (by kernel_rfl)⟩
  · exact ⟨by kernel_rfl, of_decide_eq_true (by kernel_rfl)⟩
  · exact ⟨by kernel_rfl, of_decide_eq_true (by kernel_rfl)⟩
  · exact ⟨by kernel_rfl, of_decide_eq_true (by kernel_rfl)⟩
  · exact ⟨by kernel_rfl, of_decide_eq_true (by kernel_rfl)⟩

set_option maxRecDepth 100000 in
theorem lifted (os : Os) (started : os.Started) (H : Type) (enc : TypeId × Value → H) :
    ReturnsInHanded {} Try.checked os 7 .any (Rows.replayOrderSpec.pre6 enc Try.prog Try.f7 Rows.replayOrderRow.domain false) (Rows.replayOrderSpec.post enc Try.prog Try.f7 false true false false) := by
  refine returnsInHanded_of_change (C := Try.checked) own started (by kernel_rfl) Try.func7
    (ChangeSpec.witness6 (enc := enc) (C := Try.checked) false ⟨#[], #[.slice none 0 0, .slice none 0 0, .agg #[.int .u8 0, .int .u64 0, .slice none 0 0, .slice none 0 0], .agg #[.int .u8 0, .int .u64 0, .slice none 0 0, .slice none 0 0], .int .u8 0, .int .u8 0], []⟩ 8 (by kernel_rfl) (by kernel_rfl) (by kernel_rfl) (by kernel_rfl)) ?_
  intro W base args ds gs before hval hW _ _
  have hW' := hW
  obtain ⟨p, q, hA0, hV, rfl, _, _⟩ := hW
  obtain ⟨rfl, rfl⟩ := trodVars_none hV
  have hA : DataW.TrodAll enc Try.prog W 0 (fun _ => true) true Try.f7.params.toList args.toList ds p := hA0
  have hlen := trodAll_len hA
  refine (walk W base args ds p hval hA).mono fun e W' ⟨he, bel⟩ => ?_
  subst he
  rw [Try.params7] at hlen
  match ds, hlen.2, hA, hW' with
  | [d0, d1, d2, d3, d4, d5], _, hA, hW' => exact ⟨_, rfl, _, _, _, [], _, [], hW', trodAll_mk1 (shut_bool Try.underlying4 _), trodAll_stays laidOut bel reads hA, rfl, bel.frame _, fun h => by cases h⟩

theorem over : Rows.replayOrderRow.holds Try.pinned (OpenSpec.ofChange Rows.replayOrderSpec) :=
  OpenClaim.holds_of_wide 7 Try.f7 rfl rfl rfl rfl rfl rfl rfl ⟨rfl, rfl, rfl, rfl, rfl⟩ rfl rfl rfl rfl rfl (by kernel_rfl) Try.func7 (by kernel_rfl)
    (of_decide_eq_true (by kernel_rfl)) (by unfold Func.isWrapper; first | (rw [if_pos (by decide +kernel)]; kernel_rfl) | (rw [if_neg (by decide +kernel)]; exact ⟨rfl, rfl⟩))
    (fun os started H enc _ => lifted os started H enc)

theorem proved : Rows.ReplayOrderSaid := over

end Go.Proofs.Ytckdhelnafjddaa.lawReplayOrder
