/- FrameWords: whatever the input it returns true, and the input reads as it did. Conditions: none. -/
import Derived.Test.YtckdhelnafjddaaFrWs
import Derived.Test.YtckdhelnafjddaaLat
import Derived.Test.YtckdhelnafjddaaFrForm
namespace Go.Proofs.Ytckdhelnafjddaa.lawFrameWords
open Go Go.Sl Go.Proofs Go.RowKit Go.ChangeShapes Go.WideShapes Go.ChangeAt Go.Proofs.Ytckdhelnafjddaa
set_option maxRecDepth 20000
set_option linter.unusedVariables false
set_option linter.unusedSimpArgs false

theorem b_kind {k : Int} : Build Try.prog 30 #[(0, .int .u8 k)] (.agg ((FrM.zero k).cells FrP.nil).toArray) := fun w => by kernel_rfl
theorem el_no {k : Int} : (decide ¬((FrM.zero k).k = 0 ∨ (FrM.zero k).k = 2 ∨ (FrM.zero k).k = 3 ∨ (FrM.zero k).k = 28 ∨ (FrM.zero k).k = 29)) ≠ decide (k ∈ [0, 2, 3, 28, 29]) := by
  show (decide ¬(k = 0 ∨ k = 2 ∨ k = 3 ∨ k = 28 ∨ k = 29)) ≠ decide (k ∈ [0, 2, 3, 28, 29])
  by_cases h : k = 0 ∨ k = 2 ∨ k = 3 ∨ k = 28 ∨ k = 29
  · rw [decide_eq_false (fun h2 => h2 h), decide_eq_true (by simpa using h)]; decide
  · rw [decide_eq_true h, decide_eq_false (by simpa using h)]; decide
theorem pr_no {k : Int} : (decide ((FrM.zero k).k = 0 ∨ (FrM.zero k).k = 26 ∨ (FrM.zero k).k = 27 ∨ (FrM.zero k).k = 24)) = decide (k ∈ [0, 26, 27, 24]) :=
  decide_eq_decide.2 (by simp [FrM.zero])
theorem ea_no {k : Int} : (decide ((FrM.zero k).k = 0 ∨ (FrM.zero k).k = 1 ∨ (FrM.zero k).k = 2 ∨ (FrM.zero k).k = 3 ∨ (FrM.zero k).k = 6 ∨ (FrM.zero k).k = 28)) = decide (k ∈ [0, 1, 2, 3, 6, 28]) :=
  decide_eq_decide.2 (by simp [FrM.zero])
theorem bad4 : ∀ n : Fin 31, (pTake ([toB 64, toB ((n.val : Nat) : Int)], 0)).2.2 = 4 := by decide +kernel
theorem bad5 : ∀ n : Fin 33, (pTake ([toB (31 + ((n.val : Nat) : Int))], 0)).2.2 = 5 := by decide +kernel
theorem tm {k m : Int} (hk : 0 ≤ k) (hm : 0 < m) : 0 ≤ k.tmod m ∧ k.tmod m < m := by
  rw [Int.tmod_eq_emod_of_nonneg hk]
  exact ⟨Int.emod_nonneg _ (by omega), Int.emod_lt_of_pos _ hm⟩
theorem takes4 {r : Int} (h : 0 ≤ r ∧ r < 31) : Takes ([64, r].map toB) [] 4 := by
  have h2 := bad4 ⟨r.toNat, by omega⟩
  dsimp only at h2
  rw [Int.toNat_of_nonneg h.1] at h2
  have h3 := Takes.bad (l := [64, r].map toB) (by simp) (by show (pTake ([toB 64, toB r], 0)).2.2 ≠ 0; rw [h2]; decide)
  rw [show (pTake ([64, r].map toB, 0)).2.2 = 4 from h2] at h3
  exact h3
theorem takes5 {r : Int} (h : 0 ≤ r ∧ r < 33) : Takes ([31 + r].map toB) [] 5 := by
  have h2 := bad5 ⟨r.toNat, by omega⟩
  dsimp only at h2
  rw [Int.toNat_of_nonneg h.1] at h2
  have h3 := Takes.bad (l := [31 + r].map toB) (by simp) (by show (pTake ([toB (31 + r)], 0)).2.2 ≠ 0; rw [h2]; decide)
  rw [show (pTake ([31 + r].map toB, 0)).2.2 = 5 from h2] at h3
  exact h3
theorem get_recn {f : FrM} {p : FrP} {T : TypeId} {fr : Nat × Nat} : GetN (.cells (f.rcells p).toArray T fr) 9 [.int .u64 f.e0, .int .u64 f.e1, .int .u64 f.e2] :=
  GetN.part (a := (f.rcells p).take 9) (vs := [.int .u64 f.e0, .int .u64 f.e1, .int .u64 f.e2]) (c := [.int .u64 f.sq, .int .u64 f.pr, .slice p.ia f.id.length p.ic] ++ f.tail) rfl
theorem get_rtok {f : FrM} {p : FrP} {T : TypeId} {fr : Nat × Nat} : GetN (.cells (f.rcells p).toArray T fr) 15 (f.tok.map u8V) := by
  have h : f.rcells p = (f.rcells p).take 15 ++ (f.tok.map u8V ++ f.wd.map u8V) := rfl
  rw [h]
  exact GetN.part rfl
theorem get_rwd {f : FrM} {p : FrP} {T : TypeId} {fr : Nat × Nat} (ht : f.tok.length = 16) : GetN (.cells (f.rcells p).toArray T fr) 31 (f.wd.map u8V) := by
  have h : f.rcells p = ((f.rcells p).take 15 ++ f.tok.map u8V) ++ (f.wd.map u8V ++ []) := by simp [FrM.rcells, FrM.tail]
  rw [h]
  exact GetN.part (by simp [FrM.rcells, ht])
theorem wrap64 (n : Int) : IntKind.u64.wrap n = n % 18446744073709551616 := rfl
theorem wrapU (n : Int) : inU (IntKind.u64.wrap n) := by
  rw [wrap64]
  unfold inU
  omega
theorem wrap_ne {n : Int} (h : inU n) : ¬ n = IntKind.u64.wrap (n + 1) := by
  rw [wrap64]
  unfold inU at h
  omega
set_option maxHeartbeats 8000000 in
theorem law {B : Nat} {w0 : World} {k : Int} {f g : FrM} {p q : FrP} (hk : 0 ≤ k ∧ k ≤ 255) (hf : f.ok) (hg : g.ok) (hF : ∀ G, FrIn (St B w0 G) f p) (hG : ∀ G, FrIn (St B w0 G) g q) :
    FnC Try.prog 5 #[.int .u8 k, .agg (f.cells p).toArray, .agg (g.cells q).toArray] B w0 [] (R0 (.bool true)) := fun F => by
  have hfc : (f.cells p).length = 39 := FrM.cells_len hf
  have hfo : ∀ u ∈ f.cells p, u.oneCell' = true := FrM.cells_one
  have hgc : (g.cells q).length = 39 := FrM.cells_len hg
  have hgo : ∀ u ∈ g.cells q, u.oneCell' = true := FrM.cells_one
  have okf : enF.ok ⟨f, p⟩ := hf
  have okg : enF.ok ⟨g, q⟩ := hg
  refine fn_enter Try.func5 rfl (by kernel_rfl) Try.ntmps5 (by simp) ?_
  refine Go.Sl.cw_seq ?_
  refine Go.Sl.cw_region ?_
  (refine Go.Sl.ow_box rfl rfl rfl rfl ?_; intro b3)
  (refine Go.Sl.ow_box rfl rfl rfl rfl ?_; intro b4)
  (refine Go.Sl.ow_box rfl rfl rfl rfl ?_; intro b5)
  refine Go.Sl.ow_val rfl rfl (Go.Sl.v_assign rfl) ?_
  refine Go.Sl.ow_nil ?_
  refine Go.Sl.xw_then ?_
  refine Go.Sl.cw_seq ?_
  refine Go.Sl.cw_seq ?_
  refine Go.Sl.cw_region ?_
  refine Go.Sl.ow_val rfl rfl (Go.Sl.v_call rfl rfl (fr8Awake_c)) ?_
  refine Go.Sl.ow_val rfl rfl (Go.Sl.v_not_true rfl) ?_
  refine Go.Sl.ow_nil ?_
  refine Go.Sl.xw_then ?_
  refine Go.Sl.cw_false rfl ?_
  refine Go.Sl.cw_skip ?_
  refine Go.Sl.xw_then ?_
  refine Go.Sl.cw_seq ?_
  refine Go.Sl.cw_seq ?_
  refine Go.Sl.cw_region ?_
  refine Go.Sl.ow_val rfl rfl (Go.Sl.v_load rfl (Go.Sl.Var.atN Ty.ag30 (.there .here) Go.Sl.GetN.all (by first | rfl | assumption))) ?_
  refine Go.Sl.ow_val rfl rfl (Go.Sl.v_load rfl (Go.Sl.Var.atN Ty.ag30 .here Go.Sl.GetN.all (by first | rfl | assumption))) ?_
  (refine Go.Sl.ow_buildL (es := ([(⟨f, p⟩ : FrE), ⟨g, q⟩])) rfl rfl Try.underlying36 Ty.em36 (fTy) rfl rfl (by first | (simp [*]; done) | (repeat (first | exact List.forall_mem_nil _ | refine List.forall_mem_cons.2 ⟨?_, ?_⟩ | assumption | (show _ ∧ _; omega)))) (by simp only [List.length_cons, List.length_nil]; decide) ?_; intro ao22 c22 hL22)
  (refine Go.Sl.ow_call rfl rfl rfl rfl (light2_c (l := ([⟨f, p⟩, ⟨g, q⟩] : List FrE)) (Go.Sl.Ls.vw (by assumption) (by repeat (first | exact Go.Sl.Sub.here | assumption | refine Go.Sl.Sub.there ?_))) (by simp)) ?_; rintro _ _ ⟨x23, rfl, hq23, rfl⟩)
  refine Go.Sl.ow_val rfl rfl (Go.Sl.v_not_bool rfl) ?_
  refine Go.Sl.ow_nil ?_
  refine Go.Sl.xw_then ?_
  refine Go.Sl.cw_bool rfl (fun hc24 => ?_) (fun hc24 => ?_)
  refine Go.Sl.cw_seq ?_
  refine Go.Sl.cw_region ?_
  refine Go.Sl.ow_val rfl rfl (Go.Sl.v_assign rfl) ?_
  refine Go.Sl.ow_nil ?_
  refine Go.Sl.xw_then ?_
  refine Go.Sl.cw_ret ?_
  refine Go.Sl.xw_then_ret ?_
  refine Go.Sl.ret1 rfl (Go.Sl.res_tmp rfl) ?_
  rotate_left
  refine Go.Sl.cw_skip ?_
  refine Go.Sl.xw_then ?_
  rotate_left
  · exact done0 rfl (by first | exact Go.Sl.Cov.refl _ | (intro p; simp only [List.flatten_cons, List.flatten_nil, List.flatten_append, List.append_nil, List.nil_append, Go.Sl.cnt_append, Go.Sl.cnt_cons, Go.Sl.cnt_nil, List.set_cons_zero, List.set_cons_succ, List.length_nil, List.length_cons, Nat.zero_add, List.append]; omega))
  have hx23 : x23 = true := by simpa using hc24
  obtain ⟨hf1, hf2⟩ := hq23 hx23 ⟨f, p⟩ List.mem_cons_self
  obtain ⟨hg1, hg2⟩ := hq23 hx23 ⟨g, q⟩ (List.mem_cons_of_mem _ List.mem_cons_self)
  dsimp only at hf1 hf2 hg1 hg2
  have hzc : ((FrM.zero k).cells FrP.nil).length = 39 := rfl
  have hzo : ∀ u ∈ (FrM.zero k).cells FrP.nil, u.oneCell' = true := FrM.cells_one
  refine Go.Sl.cw_seq ?_
  refine Go.Sl.cw_region ?_
  refine Go.Sl.ow_val rfl rfl (Go.Sl.v_load rfl (Go.Sl.Var.at1 Ty.sc5 (.there (.there (.there .here))) (Go.Sl.GetN.lit rfl))) ?_
  refine Go.Sl.ow_val rfl rfl (Go.Sl.v_build rfl (b_kind)) ?_
  (refine Go.Sl.ow_alloc rfl rfl Ty.ze30 ?_; intro b7)
  refine Go.Sl.ow_storeN rfl rfl rfl Ty.ag30 (by first | rfl | assumption) (by first | assumption | simp) .here ((SetN.all hzc)) ?_
  refine Go.Sl.ow_nil ?_
  refine Go.Sl.xw_then ?_
  refine Go.Sl.cw_seq ?_
  refine Go.Sl.cw_region ?_
  refine Go.Sl.ow_val rfl rfl (Go.Sl.v_makeFunc rfl rfl) ?_
  refine Go.Sl.ow_val rfl rfl (Go.Sl.v_assign rfl) ?_
  refine Go.Sl.ow_nil ?_
  refine Go.Sl.xw_then ?_
  refine Go.Sl.cw_seq ?_
  refine Go.Sl.cw_seq ?_
  refine Go.Sl.cw_region ?_
  refine Go.Sl.ow_val rfl rfl (Go.Sl.v_load rfl (Go.Sl.Var.atN Ty.ag30 .here Go.Sl.GetN.all (by first | rfl | assumption))) ?_
  refine Go.Sl.ow_val rfl rfl (Go.Sl.v_call rfl rfl (eliciting_c)) ?_
  refine Go.Sl.ow_val rfl rfl (Go.Sl.v_move rfl) ?_
  (refine Go.Sl.ow_buildL (es := ([0, 2, 3, 28, 29])) rfl rfl Try.underlying49 Ty.em49 (jTy) rfl rfl (by first | (simp [*]; done) | (repeat (first | exact List.forall_mem_nil _ | refine List.forall_mem_cons.2 ⟨?_, ?_⟩ | assumption | (show _ ∧ _; omega)))) (by simp only [List.length_cons, List.length_nil]; decide) ?_; intro ao31 c31 hL31)
  refine Go.Sl.ow_val rfl rfl (Go.Sl.v_call rfl rfl (in_c (ns := [0, 2, 3, 28, 29]) (Go.Sl.Ls.vw (by assumption) (by repeat (first | exact Go.Sl.Sub.here | assumption | refine Go.Sl.Sub.there ?_))) (by repeat (first | exact Go.Sl.Sub.here | assumption | refine Go.Sl.Sub.there ?_)) hk (by simp))) ?_
  refine Go.Sl.ow_val rfl rfl (Go.Sl.v_eqlB Try.underlying4 rfl rfl) ?_
  refine Go.Sl.ow_val rfl rfl (Go.Sl.v_move rfl) ?_
  refine Go.Sl.ow_dec 34 rfl (fun hc34 => ?_) (fun hc34 => ?_)
  refine Go.Sl.ow_skip rfl rfl ?_
  refine Go.Sl.ow_skip rfl rfl ?_
  refine Go.Sl.ow_skip rfl rfl ?_
  refine Go.Sl.ow_skip rfl rfl ?_
  refine Go.Sl.ow_skip rfl rfl ?_
  refine Go.Sl.ow_skip rfl rfl ?_
  refine Go.Sl.ow_val rfl rfl (Go.Sl.v_pick_true rfl rfl) ?_
  refine Go.Sl.ow_val rfl rfl (Go.Sl.v_move rfl) ?_
  refine Go.Sl.ow_skip rfl rfl ?_
  refine Go.Sl.ow_skip rfl rfl ?_
  refine Go.Sl.ow_skip rfl rfl ?_
  refine Go.Sl.ow_skip rfl rfl ?_
  refine Go.Sl.ow_skip rfl rfl ?_
  refine Go.Sl.ow_skip rfl rfl ?_
  refine Go.Sl.ow_val rfl rfl (Go.Sl.v_pick_true rfl rfl) ?_
  refine Go.Sl.ow_nil ?_
  refine Go.Sl.xw_then ?_
  refine Go.Sl.cw_true rfl ?_
  rotate_left
  refine Go.Sl.ow_val rfl rfl (Go.Sl.v_load rfl (Go.Sl.Var.atN Ty.ag30 (.there .here) Go.Sl.GetN.all (by first | rfl | assumption))) ?_
  refine Go.Sl.ow_val rfl rfl (Go.Sl.v_call rfl rfl (probing_c)) ?_
  refine Go.Sl.ow_val rfl rfl (Go.Sl.v_move rfl) ?_
  (refine Go.Sl.ow_buildL (es := ([0, 26, 27, 24])) rfl rfl Try.underlying49 Ty.em49 (jTy) rfl rfl (by first | (simp [*]; done) | (repeat (first | exact List.forall_mem_nil _ | refine List.forall_mem_cons.2 ⟨?_, ?_⟩ | assumption | (show _ ∧ _; omega)))) (by simp only [List.length_cons, List.length_nil]; decide) ?_; intro ao38 c38 hL38)
  rotate_left
  · exact absurd hc34 el_no
  refine Go.Sl.ow_val rfl rfl (Go.Sl.v_call rfl rfl (in_c (ns := [0, 26, 27, 24]) (Go.Sl.Ls.vw (by assumption) (by repeat (first | exact Go.Sl.Sub.here | assumption | refine Go.Sl.Sub.there ?_))) (by repeat (first | exact Go.Sl.Sub.here | assumption | refine Go.Sl.Sub.there ?_)) hk (by simp))) ?_
  refine Go.Sl.ow_val rfl rfl (Go.Sl.v_neqB Try.underlying4 rfl rfl) ?_
  refine Go.Sl.ow_val rfl rfl (Go.Sl.v_pick_false rfl rfl) ?_
  refine Go.Sl.ow_val rfl rfl (Go.Sl.v_move rfl) ?_
  refine Go.Sl.ow_dec 42 rfl (fun hc42 => ?_) (fun hc42 => ?_)
  refine Go.Sl.ow_skip rfl rfl ?_
  refine Go.Sl.ow_skip rfl rfl ?_
  refine Go.Sl.ow_skip rfl rfl ?_
  refine Go.Sl.ow_skip rfl rfl ?_
  refine Go.Sl.ow_skip rfl rfl ?_
  refine Go.Sl.ow_skip rfl rfl ?_
  refine Go.Sl.ow_val rfl rfl (Go.Sl.v_pick_true rfl rfl) ?_
  refine Go.Sl.ow_nil ?_
  refine Go.Sl.xw_then ?_
  refine Go.Sl.cw_true rfl ?_
  rotate_left
  refine Go.Sl.ow_val rfl rfl (Go.Sl.v_load rfl (Go.Sl.Var.atN Ty.ag30 (.there (.there .here)) Go.Sl.GetN.all (by first | rfl | assumption))) ?_
  refine Go.Sl.ow_val rfl rfl (Go.Sl.v_call rfl rfl (early_c)) ?_
  refine Go.Sl.ow_val rfl rfl (Go.Sl.v_move rfl) ?_
  (refine Go.Sl.ow_buildL (es := ([0, 1, 2, 3, 6, 28])) rfl rfl Try.underlying49 Ty.em49 (jTy) rfl rfl (by first | (simp [*]; done) | (repeat (first | exact List.forall_mem_nil _ | refine List.forall_mem_cons.2 ⟨?_, ?_⟩ | assumption | (show _ ∧ _; omega)))) (by simp only [List.length_cons, List.length_nil]; decide) ?_; intro ao46 c46 hL46)
  refine Go.Sl.ow_val rfl rfl (Go.Sl.v_call rfl rfl (in_c (ns := [0, 1, 2, 3, 6, 28]) (Go.Sl.Ls.vw (by assumption) (by repeat (first | exact Go.Sl.Sub.here | assumption | refine Go.Sl.Sub.there ?_))) (by repeat (first | exact Go.Sl.Sub.here | assumption | refine Go.Sl.Sub.there ?_)) hk (by simp))) ?_
  refine Go.Sl.ow_val rfl rfl (Go.Sl.v_neqB Try.underlying4 rfl rfl) ?_
  refine Go.Sl.ow_val rfl rfl (Go.Sl.v_pick_false rfl rfl) ?_
  refine Go.Sl.ow_nil ?_
  refine Go.Sl.xw_then ?_
  refine Go.Sl.cw_dec rfl (fun hc49 => ?_) (fun hc49 => ?_)
  rotate_left
  refine Go.Sl.cw_skip ?_
  refine Go.Sl.xw_then ?_
  rotate_left
  · exact absurd pr_no hc42
  · exact absurd ea_no hc49
  refine cw_cov (c22 :: [(b5, .cells (g.cells q).toArray 30 (0, 0))] :: [(b4, .cells (f.cells p).toArray 30 (0, 0))] :: [(b3, .cells [Value.int .u8 k].toArray 5 (0, 0))] :: F) (by first | exact Go.Sl.Cov.refl _ | (intro p; simp only [List.flatten_cons, List.flatten_nil, List.flatten_append, List.append_nil, List.nil_append, Go.Sl.cnt_append, Go.Sl.cnt_cons, Go.Sl.cnt_nil, List.set_cons_zero, List.set_cons_succ, List.length_nil, List.length_cons, Nat.zero_add, List.append]; omega)) ?_
  have h31 := tm (k := k) (m := 31) hk.1 (by decide)
  have h33 := tm (k := k) (m := 33) hk.1 (by decide)
  have o31 : enI.ok (k.tmod 31) := ⟨h31.1, by omega⟩
  have o33 : enI.ok (31 + k.tmod 33) := ⟨by omega, by omega⟩
  have o64 : enI.ok 64 := ⟨by decide, by decide⟩
  refine Go.Sl.cw_seq ?_
  refine Go.Sl.cw_region ?_
  refine Go.Sl.ow_val rfl rfl (Go.Sl.v_load rfl (Go.Sl.Var.at1 Ty.sc5 (.there (.there (.there .here))) (Go.Sl.GetN.lit rfl))) ?_
  refine Go.Sl.ow_val rfl rfl (Go.Sl.v_rem rfl rfl (by decide)) ?_
  (refine Go.Sl.ow_buildL (es := ([64, k.tmod 31])) rfl rfl Try.underlying23 Ty.em23 (iTy) rfl rfl (by first | (simp [*]; done) | (repeat (first | exact List.forall_mem_nil _ | refine List.forall_mem_cons.2 ⟨?_, ?_⟩ | assumption | (show _ ∧ _; omega)))) (by simp only [List.length_cons, List.length_nil]; decide) ?_; intro ao53 c53 hL53)
  (refine Go.Sl.ow_call rfl rfl rfl rfl (takeAll_c (l := [64, k.tmod 31].map toB) (Go.Proofs.Ytckdhelnafjddaa.Vw.bytes (Go.Sl.Ls.vw (by assumption) (by repeat (first | exact Go.Sl.Sub.here | assumption | refine Go.Sl.Sub.there ?_)))) (by simp)) ?_; rintro _ _ ⟨x54, rfl, hq54, rfl⟩)
  refine Go.Sl.ow_val rfl rfl (Go.Sl.v_move rfl) ?_
  refine Go.Sl.ow_val rfl rfl (v_extractL rfl rfl) ?_
  refine Go.Sl.ow_val rfl rfl (v_extractL rfl rfl) ?_
  refine Go.Sl.ow_val rfl rfl (Go.Sl.v_assign rfl) ?_
  refine Go.Sl.ow_val rfl rfl (Go.Sl.v_assign rfl) ?_
  refine Go.Sl.ow_nil ?_
  refine Go.Sl.xw_then ?_
  obtain ⟨e1, r1, a1, k1, c1, D1⟩ := x54
  obtain ⟨T1, L1⟩ := hq54
  dsimp only at T1 L1 ⊢
  obtain ⟨hr1, he1⟩ := T1.bad (takes4 h31) (by decide)
  subst hr1 he1
  refine Go.Sl.cw_seq ?_
  refine Go.Sl.cw_region ?_
  refine Go.Sl.ow_val rfl rfl (Go.Sl.v_load rfl (Go.Sl.Var.at1 Ty.sc5 (.there (.there (.there (.there (.there (.there .here)))))) (Go.Sl.GetN.lit rfl))) ?_
  refine Go.Sl.ow_val rfl rfl (Go.Sl.v_rem rfl rfl (by decide)) ?_
  refine Go.Sl.ow_val rfl rfl (Go.Sl.v_add rfl rfl (Go.Sl.nw_u8 (by omega) (by omega))) ?_
  (refine Go.Sl.ow_buildL (es := ([31 + k.tmod 33])) rfl rfl Try.underlying23 Ty.em23 (iTy) rfl rfl (by first | (simp [*]; done) | (repeat (first | exact List.forall_mem_nil _ | refine List.forall_mem_cons.2 ⟨?_, ?_⟩ | assumption | (show _ ∧ _; omega)))) (by simp only [List.length_cons, List.length_nil]; decide) ?_; intro ao61 c61 hL61)
  (refine Go.Sl.ow_call rfl rfl rfl rfl (takeAll_c (l := [31 + k.tmod 33].map toB) (Go.Proofs.Ytckdhelnafjddaa.Vw.bytes (Go.Sl.Ls.vw (by assumption) (by repeat (first | exact Go.Sl.Sub.here | assumption | refine Go.Sl.Sub.there ?_)))) (by simp)) ?_; rintro _ _ ⟨x62, rfl, hq62, rfl⟩)
  refine Go.Sl.ow_val rfl rfl (Go.Sl.v_move rfl) ?_
  refine Go.Sl.ow_val rfl rfl (v_extractL rfl rfl) ?_
  refine Go.Sl.ow_val rfl rfl (v_extractL rfl rfl) ?_
  refine Go.Sl.ow_val rfl rfl (Go.Sl.v_assign rfl) ?_
  refine Go.Sl.ow_val rfl rfl (Go.Sl.v_assign rfl) ?_
  refine Go.Sl.ow_nil ?_
  refine Go.Sl.xw_then ?_
  obtain ⟨e2, r2, a2, k2, c2, D2⟩ := x62
  obtain ⟨T2, L2⟩ := hq62
  dsimp only at T2 L2 ⊢
  obtain ⟨hr2, he2⟩ := T2.bad (takes5 h33) (by decide)
  subst hr2 he2
  refine cw_cov ([(b5, .cells (g.cells q).toArray 30 (0, 0))] :: [(b4, .cells (f.cells p).toArray 30 (0, 0))] :: [(b3, .cells [Value.int .u8 k].toArray 5 (0, 0))] :: F) (by first | exact Go.Sl.Cov.refl _ | (intro p; simp only [List.flatten_cons, List.flatten_nil, List.flatten_append, List.append_nil, List.nil_append, Go.Sl.cnt_append, Go.Sl.cnt_cons, Go.Sl.cnt_nil, List.set_cons_zero, List.set_cons_succ, List.length_nil, List.length_cons, Nat.zero_add, List.append]; omega)) ?_
  refine Go.Sl.cw_seq ?_
  refine Go.Sl.cw_region ?_
  refine Go.Sl.ow_val rfl rfl (Go.Sl.v_load rfl (Go.Sl.Var.atN Ty.ag30 (.there .here) Go.Sl.GetN.all (by first | rfl | assumption))) ?_
  (refine Go.Sl.ow_alloc rfl rfl Ty.ze30 ?_; intro b13)
  refine Go.Sl.ow_storeN rfl rfl rfl Ty.ag30 (by first | rfl | assumption) (by first | assumption | simp) .here ((SetN.all hfc)) ?_
  refine Go.Sl.ow_nil ?_
  refine Go.Sl.xw_then ?_
  refine Go.Sl.cw_seq ?_
  refine Go.Sl.cw_region ?_
  (refine Go.Sl.ow_buildL (es := []) rfl rfl Try.underlying23 Ty.em23 (vbTy) rfl rfl (by first | (simp [*]; done) | (repeat (first | exact List.forall_mem_nil _ | refine List.forall_mem_cons.2 ⟨?_, ?_⟩ | assumption | (show _ ∧ _; omega)))) (by simp only [List.length_cons, List.length_nil]; decide) ?_; intro ao66 c66 hL66)
  refine Go.Sl.ow_val rfl rfl (Go.Sl.v_fieldAddr0 Ty.fd30_5 rfl) ?_
  refine Go.Sl.ow_val rfl rfl (Go.Sl.v_load rfl (Go.Sl.Var.at1 Ty.sc23 (.there (.there (.there .here))) (Go.Sl.GetN.lit rfl))) ?_
  (refine Go.Sl.ow_appendL rfl rfl Try.underlying23 Try.underlying23 Ty.em23 (vbTy) rfl rfl (by assumption) (by repeat (first | exact Go.Sl.Sel.here | apply Go.Sl.Sel.there)) (((hF _).d.cov (by first | exact Go.Sl.Cov.refl _ | (intro p; simp only [List.flatten_cons, List.flatten_nil, List.flatten_append, List.append_nil, List.nil_append, Go.Sl.cnt_append, Go.Sl.cnt_cons, Go.Sl.cnt_nil, List.set_cons_zero, List.set_cons_succ, List.length_nil, List.length_cons, Nat.zero_add, List.append]; omega)))) (by first | omega | (simp only [List.length_append, List.length_take, List.length_drop, List.length_nil, List.length_cons]; omega)) (by first | omega | (simp only [List.length_append, List.length_take, List.length_drop, List.length_nil, List.length_cons]; omega)) ?_; intro ao69 cap69 c69 hL69)
  refine Go.Sl.ow_val rfl rfl (Go.Sl.v_fieldAddr0 Ty.fd30_5 rfl) ?_
  refine Go.Sl.ow_store1 rfl rfl rfl rfl Ty.sc23 (.there .here) (Go.Sl.SetN.one (by first | decide | exact Nat.le_of_ble_eq_true rfl)) ?_
  refine Go.Sl.ow_nil ?_
  refine Go.Sl.xw_then ?_
  rw [List.nil_append] at hL69
  have hLd := hL69
  refine cw_cov (c69 :: [(b13, .cells (f.cells { p with da := ao69, dc := cap69 }).toArray 30 (0, 0))] :: [(b5, .cells (g.cells q).toArray 30 (0, 0))] :: [(b4, .cells (f.cells p).toArray 30 (0, 0))] :: [(b3, .cells [Value.int .u8 k].toArray 5 (0, 0))] :: F) (show Cov _ (c69 :: [(b13, .cells (f.cells { p with da := ao69, dc := cap69 }).toArray 30 (0, 0))] :: [(b5, _)] :: [(b4, _)] :: [(b3, _)] :: F) from (by first | exact Go.Sl.Cov.refl _ | (intro p; simp only [List.flatten_cons, List.flatten_nil, List.flatten_append, List.append_nil, List.nil_append, Go.Sl.cnt_append, Go.Sl.cnt_cons, Go.Sl.cnt_nil, List.set_cons_zero, List.set_cons_succ, List.length_nil, List.length_cons, Nat.zero_add, List.append]; omega))) ?_
  have hcc : (f.cells { p with da := ao69, dc := cap69 }).length = 39 := FrM.cells_len hf
  have hco : ∀ u ∈ f.cells { p with da := ao69, dc := cap69 }, u.oneCell' = true := FrM.cells_one
  refine Go.Sl.cw_seq ?_
  refine Go.Sl.cw_region ?_
  refine Go.Sl.ow_val rfl rfl (Go.Sl.v_load rfl (Go.Sl.Var.atN Ty.ag30 (.there .here) Go.Sl.GetN.all (by first | rfl | assumption))) ?_
  (refine Go.Sl.ow_alloc rfl rfl Ty.ze30 ?_; intro b14)
  refine Go.Sl.ow_storeN rfl rfl rfl Ty.ag30 (by first | rfl | assumption) (by first | assumption | simp) .here ((SetN.all hcc)) ?_
  refine Go.Sl.ow_nil ?_
  refine Go.Sl.xw_then ?_
  refine Go.Sl.cw_seq ?_
  refine Go.Sl.cw_region ?_
  refine Go.Sl.ow_val rfl rfl (Go.Sl.v_fieldAddr0 Ty.fd30_4 rfl) ?_
  refine Go.Sl.ow_val rfl rfl (Go.Sl.v_load rfl (Go.Sl.Var.at1 Ty.sc22 .here (Go.Sl.GetN.lit rfl))) ?_
  refine Go.Sl.ow_val rfl rfl (Go.Sl.v_add rfl rfl rfl) ?_
  refine Go.Sl.ow_val rfl rfl (Go.Sl.v_fieldAddr0 Ty.fd30_4 rfl) ?_
  refine Go.Sl.ow_store1 rfl rfl rfl rfl Ty.sc22 .here (Go.Sl.SetN.one (by first | decide | exact Nat.le_of_ble_eq_true rfl)) ?_
  refine Go.Sl.ow_nil ?_
  refine Go.Sl.xw_then ?_
  have hcd : ∃ c', c' = IntKind.u64.wrap (f.cod + 1) := ⟨_, rfl⟩
  obtain ⟨c', hc'⟩ := hcd
  refine cw_cov (c69 :: [(b14, .cells (({ f with cod := IntKind.u64.wrap (f.cod + 1) } : FrM).cells { p with da := ao69, dc := cap69 }).toArray 30 (0, 0))] :: [(b13, .cells (f.cells { p with da := ao69, dc := cap69 }).toArray 30 (0, 0))] :: [(b5, .cells (g.cells q).toArray 30 (0, 0))] :: [(b4, .cells (f.cells p).toArray 30 (0, 0))] :: [(b3, .cells [Value.int .u8 k].toArray 5 (0, 0))] :: F) (show Cov _ ([(b14, .cells (({ f with cod := IntKind.u64.wrap (f.cod + 1) } : FrM).cells { p with da := ao69, dc := cap69 }).toArray 30 (0, 0))] :: c69 :: [(b13, _)] :: [(b5, _)] :: [(b4, _)] :: [(b3, _)] :: F) from (by first | exact Go.Sl.Cov.refl _ | (intro p; simp only [List.flatten_cons, List.flatten_nil, List.flatten_append, List.append_nil, List.nil_append, Go.Sl.cnt_append, Go.Sl.cnt_cons, Go.Sl.cnt_nil, List.set_cons_zero, List.set_cons_succ, List.length_nil, List.length_cons, Nat.zero_add, List.append]; omega))) ?_
  refine cw_sub [(3, .pointer (some ⟨b3, 0, none⟩)), (4, .pointer (some ⟨b4, 0, none⟩)), (5, .pointer (some ⟨b5, 0, none⟩)), (6, .bool false), (10, .int .i64 4), (12, .int .i64 5), (13, .pointer (some ⟨b13, 0, none⟩)), (14, .pointer (some ⟨b14, 0, none⟩))] (by repeat (first | exact True.intro | refine And.intro rfl ?_)) ?_
  refine Go.Sl.cw_cut2 (ι := (((Option Addr × Nat × Hp) × (Option Addr × Nat × Hp) × Nat × Nat))) [(3, _), (4, _), (5, _), (6, _), (10, _), (12, _), (13, _), (14, _)] ⟨rfl, rfl, rfl, rfl, rfl, rfl, rfl, rfl, trivial⟩ ((fun x => [(15, .pointer (some ⟨x.2.2.1, 0, none⟩)), (16, .pointer (some ⟨x.2.2.2, 0, none⟩))])) ((fun x => Ls enR 114 (.slice x.1.1 f.rg.length x.1.2.1) x.1.2.2 f.rg ∧ Ls enR 114 (.slice x.2.1.1 g.rg.length x.2.1.2.1) x.2.1.2.2 g.rg)) ((fun x => [(x.2.2.1, .cells (f.rcells { p with ra := x.1.1, rc := x.1.2.1 }).toArray 53 (0, 0))] :: [(x.2.2.2, .cells (g.rcells { q with ra := x.2.1.1, rc := x.2.1.2.1 }).toArray 53 (0, 0))] :: x.1.2.2 :: x.2.1.2.2 :: c69 :: [(b14, .cells (({ f with cod := IntKind.u64.wrap (f.cod + 1) } : FrM).cells { p with da := ao69, dc := cap69 }).toArray 30 (0, 0))] :: [(b13, .cells (f.cells { p with da := ao69, dc := cap69 }).toArray 30 (0, 0))] :: [(b5, .cells (g.cells q).toArray 30 (0, 0))] :: [(b4, .cells (f.cells p).toArray 30 (0, 0))] :: [(b3, .cells [Value.int .u8 k].toArray 5 (0, 0))] :: F)) ?_ ?_
  · refine Go.Sl.cw_any Ty.mixed ?_
    refine Go.Sl.aw_self (fun A hA => ?_)
    have s012345 : ∀ (x : Option Addr × Nat × Hp) (_ : Ls enR 114 (.slice x.1 f.rg.length x.2.1) x.2.2 f.rg) (y : Option Addr × Nat × Hp) (_ : Ls enR 114 (.slice y.1 g.rg.length y.2.1) y.2.2 g.rg) (b15 : Nat) (b16 : Nat), A [(76, .agg (f.cells p).toArray), (77, .agg (f.rcells { p with ra := x.1, rc := x.2.1 }).toArray), (78, .agg (g.cells q).toArray), (79, .agg (g.rcells { q with ra := y.1, rc := y.2.1 }).toArray), (15, .pointer (some ⟨b15, 0, none⟩)), (16, .pointer (some ⟨b16, 0, none⟩))] [x.2.2, y.2.2, [(b15, .cells ((FrM.zero 0).rcells FrP.nil).toArray 53 (0, 0))], [(b16, .cells ((FrM.zero 0).rcells FrP.nil).toArray 53 (0, 0))]] 2 (((((((Array.replicate 8 false).setIfInBounds 0 true).setIfInBounds 1 true).setIfInBounds 2 true).setIfInBounds 3 true).setIfInBounds 4 true).setIfInBounds 5 true) := by
      intro x hx y hy b15 b16
      refine (hA _ _ _ _).2 ?_
      have h1 : (f.rcells { p with ra := x.1, rc := x.2.1 }).length = 39 := FrM.rcells_len hf
      have h2 : ∀ u ∈ f.rcells { p with ra := x.1, rc := x.2.1 }, u.oneCell' = true := FrM.rcells_one
      have h3 : (g.rcells { q with ra := y.1, rc := y.2.1 }).length = 39 := FrM.rcells_len hg
      have h4 : ∀ u ∈ g.rcells { q with ra := y.1, rc := y.2.1 }, u.oneCell' = true := FrM.rcells_one
      refine Go.Sl.aw_step1 6 (by decide +kernel) rfl ?_
      refine Go.Sl.ow_storeN rfl rfl rfl Ty.ag53 (by first | rfl | assumption) (by first | assumption | simp) (.there (.there .here)) (Go.Sl.SetN.all (by first | rfl | assumption | simp_all)) ?_
      refine Go.Sl.ow_nil ?_
      refine Go.Sl.xw_nx ?_
      refine Go.Sl.aw_step1 7 (by decide +kernel) rfl ?_
      refine Go.Sl.ow_storeN rfl rfl rfl Ty.ag53 (by first | rfl | assumption) (by first | assumption | simp) (.there (.there (.there .here))) (Go.Sl.SetN.all (by first | rfl | assumption | simp_all)) ?_
      refine Go.Sl.ow_nil ?_
      refine Go.Sl.xw_nx ?_
      refine Go.Sl.aw_end (by decide +kernel) ?_
      refine Go.Sl.xw_np ?_
      exact xw_joint ((x, y, b15, b16) : (Option Addr × Nat × Hp) × (Option Addr × Nat × Hp) × Nat × Nat) ⟨hx, hy⟩ (by first | exact Go.Sl.Cov.refl _ | (intro p; simp only [List.flatten_cons, List.flatten_nil, List.flatten_append, List.append_nil, List.nil_append, Go.Sl.cnt_append, Go.Sl.cnt_cons, Go.Sl.cnt_nil, List.set_cons_zero, List.set_cons_succ, List.length_nil, List.length_cons, Nat.zero_add, List.append]; omega)) (by repeat (first | exact True.intro | refine And.intro rfl ?_))
    have s01245 : ∀ (x : Option Addr × Nat × Hp) (_ : Ls enR 114 (.slice x.1 f.rg.length x.2.1) x.2.2 f.rg) (b15 : Nat) (b16 : Nat), A [(76, .agg (f.cells p).toArray), (77, .agg (f.rcells { p with ra := x.1, rc := x.2.1 }).toArray), (78, .agg (g.cells q).toArray), (15, .pointer (some ⟨b15, 0, none⟩)), (16, .pointer (some ⟨b16, 0, none⟩))] [x.2.2, [(b15, .cells ((FrM.zero 0).rcells FrP.nil).toArray 53 (0, 0))], [(b16, .cells ((FrM.zero 0).rcells FrP.nil).toArray 53 (0, 0))]] 3 ((((((Array.replicate 8 false).setIfInBounds 0 true).setIfInBounds 1 true).setIfInBounds 2 true).setIfInBounds 4 true).setIfInBounds 5 true) := by
      intro x hx b15 b16
      refine (hA _ _ _ _).2 ?_
      refine Go.Sl.aw_step1 3 (by decide +kernel) rfl ?_
      (refine Go.Sl.ow_call rfl rfl rfl rfl (frRef_c hg ((hG _).r.cov (by first | exact Go.Sl.Cov.refl _ | (intro p; simp only [List.flatten_cons, List.flatten_nil, List.flatten_append, List.append_nil, List.nil_append, Go.Sl.cnt_append, Go.Sl.cnt_cons, Go.Sl.cnt_nil, List.set_cons_zero, List.set_cons_succ, List.length_nil, List.length_cons, Nat.zero_add, List.append]; omega))) (by omega)) ?_; rintro _ _ ⟨x79, rfl, hq79, rfl⟩)
      refine Go.Sl.ow_nil ?_
      refine Go.Sl.xw_nx ?_
      · exact aw_use hA (s012345 x hx x79 hq79 b15 b16) (by decide +kernel) (by repeat (first | exact True.intro | refine And.intro rfl ?_)) (by first | exact Go.Sl.Cov.refl _ | (intro p; simp only [List.flatten_cons, List.flatten_nil, List.flatten_append, List.append_nil, List.nil_append, Go.Sl.cnt_append, Go.Sl.cnt_cons, Go.Sl.cnt_nil, List.set_cons_zero, List.set_cons_succ, List.length_nil, List.length_cons, Nat.zero_add, List.append]; omega))
    have s01235 : ∀ (x : Option Addr × Nat × Hp) (_ : Ls enR 114 (.slice x.1 f.rg.length x.2.1) x.2.2 f.rg) (y : Option Addr × Nat × Hp) (_ : Ls enR 114 (.slice y.1 g.rg.length y.2.1) y.2.2 g.rg) (b16 : Nat), A [(76, .agg (f.cells p).toArray), (77, .agg (f.rcells { p with ra := x.1, rc := x.2.1 }).toArray), (78, .agg (g.cells q).toArray), (79, .agg (g.rcells { q with ra := y.1, rc := y.2.1 }).toArray), (16, .pointer (some ⟨b16, 0, none⟩))] [x.2.2, y.2.2, [(b16, .cells ((FrM.zero 0).rcells FrP.nil).toArray 53 (0, 0))]] 3 ((((((Array.replicate 8 false).setIfInBounds 0 true).setIfInBounds 1 true).setIfInBounds 2 true).setIfInBounds 3 true).setIfInBounds 5 true) := by
      intro x hx y hy b16
      refine (hA _ _ _ _).2 ?_
      refine Go.Sl.aw_step1 4 (by decide +kernel) rfl ?_
      (refine Go.Sl.ow_alloc rfl rfl Ty.ze53 ?_; intro b15)
      refine Go.Sl.ow_nil ?_
      refine Go.Sl.xw_nx ?_
      · exact aw_use hA (s012345 x hx y hy b15 b16) (by decide +kernel) (by repeat (first | exact True.intro | refine And.intro rfl ?_)) (show Cov _ ([(b15, .cells ((FrM.zero 0).rcells FrP.nil).toArray 53 (0, 0))] :: _) from (by first | exact Go.Sl.Cov.refl _ | (intro p; simp only [List.flatten_cons, List.flatten_nil, List.flatten_append, List.append_nil, List.nil_append, Go.Sl.cnt_append, Go.Sl.cnt_cons, Go.Sl.cnt_nil, List.set_cons_zero, List.set_cons_succ, List.length_nil, List.length_cons, Nat.zero_add, List.append]; omega)))
    have s01234 : ∀ (x : Option Addr × Nat × Hp) (_ : Ls enR 114 (.slice x.1 f.rg.length x.2.1) x.2.2 f.rg) (y : Option Addr × Nat × Hp) (_ : Ls enR 114 (.slice y.1 g.rg.length y.2.1) y.2.2 g.rg) (b15 : Nat), A [(76, .agg (f.cells p).toArray), (77, .agg (f.rcells { p with ra := x.1, rc := x.2.1 }).toArray), (78, .agg (g.cells q).toArray), (79, .agg (g.rcells { q with ra := y.1, rc := y.2.1 }).toArray), (15, .pointer (some ⟨b15, 0, none⟩))] [x.2.2, y.2.2, [(b15, .cells ((FrM.zero 0).rcells FrP.nil).toArray 53 (0, 0))]] 3 ((((((Array.replicate 8 false).setIfInBounds 0 true).setIfInBounds 1 true).setIfInBounds 2 true).setIfInBounds 3 true).setIfInBounds 4 true) := by
      intro x hx y hy b15
      refine (hA _ _ _ _).2 ?_
      refine Go.Sl.aw_step1 5 (by decide +kernel) rfl ?_
      (refine Go.Sl.ow_alloc rfl rfl Ty.ze53 ?_; intro b16)
      refine Go.Sl.ow_nil ?_
      refine Go.Sl.xw_nx ?_
      · exact aw_use hA (s012345 x hx y hy b15 b16) (by decide +kernel) (by repeat (first | exact True.intro | refine And.intro rfl ?_)) (show Cov _ ([(b16, .cells ((FrM.zero 0).rcells FrP.nil).toArray 53 (0, 0))] :: _) from (by first | exact Go.Sl.Cov.refl _ | (intro p; simp only [List.flatten_cons, List.flatten_nil, List.flatten_append, List.append_nil, List.nil_append, Go.Sl.cnt_append, Go.Sl.cnt_cons, Go.Sl.cnt_nil, List.set_cons_zero, List.set_cons_succ, List.length_nil, List.length_cons, Nat.zero_add, List.append]; omega)))
    have s0245 : ∀ (b15 : Nat) (b16 : Nat), A [(76, .agg (f.cells p).toArray), (78, .agg (g.cells q).toArray), (15, .pointer (some ⟨b15, 0, none⟩)), (16, .pointer (some ⟨b16, 0, none⟩))] [[(b15, .cells ((FrM.zero 0).rcells FrP.nil).toArray 53 (0, 0))], [(b16, .cells ((FrM.zero 0).rcells FrP.nil).toArray 53 (0, 0))]] 4 (((((Array.replicate 8 false).setIfInBounds 0 true).setIfInBounds 2 true).setIfInBounds 4 true).setIfInBounds 5 true) := by
      intro b15 b16
      refine (hA _ _ _ _).2 ?_
      refine Go.Sl.aw_step1 1 (by decide +kernel) rfl ?_
      (refine Go.Sl.ow_call rfl rfl rfl rfl (frRef_c hf ((hF _).r.cov (by first | exact Go.Sl.Cov.refl _ | (intro p; simp only [List.flatten_cons, List.flatten_nil, List.flatten_append, List.append_nil, List.nil_append, Go.Sl.cnt_append, Go.Sl.cnt_cons, Go.Sl.cnt_nil, List.set_cons_zero, List.set_cons_succ, List.length_nil, List.length_cons, Nat.zero_add, List.append]; omega))) (by omega)) ?_; rintro _ _ ⟨x77, rfl, hq77, rfl⟩)
      refine Go.Sl.ow_nil ?_
      refine Go.Sl.xw_nx ?_
      · exact aw_use hA (s01245 x77 hq77 b15 b16) (by decide +kernel) (by repeat (first | exact True.intro | refine And.intro rfl ?_)) (by first | exact Go.Sl.Cov.refl _ | (intro p; simp only [List.flatten_cons, List.flatten_nil, List.flatten_append, List.append_nil, List.nil_append, Go.Sl.cnt_append, Go.Sl.cnt_cons, Go.Sl.cnt_nil, List.set_cons_zero, List.set_cons_succ, List.length_nil, List.length_cons, Nat.zero_add, List.append]; omega))
    have s0145 : ∀ (x : Option Addr × Nat × Hp) (_ : Ls enR 114 (.slice x.1 f.rg.length x.2.1) x.2.2 f.rg) (b15 : Nat) (b16 : Nat), A [(76, .agg (f.cells p).toArray), (77, .agg (f.rcells { p with ra := x.1, rc := x.2.1 }).toArray), (15, .pointer (some ⟨b15, 0, none⟩)), (16, .pointer (some ⟨b16, 0, none⟩))] [x.2.2, [(b15, .cells ((FrM.zero 0).rcells FrP.nil).toArray 53 (0, 0))], [(b16, .cells ((FrM.zero 0).rcells FrP.nil).toArray 53 (0, 0))]] 4 (((((Array.replicate 8 false).setIfInBounds 0 true).setIfInBounds 1 true).setIfInBounds 4 true).setIfInBounds 5 true) := by
      intro x hx b15 b16
      refine (hA _ _ _ _).2 ?_
      refine Go.Sl.aw_step1 2 (by decide +kernel) rfl ?_
      refine Go.Sl.ow_val rfl rfl (Go.Sl.v_load rfl (Go.Sl.Var.atN Ty.ag30 (.there (.there (.there (.there (.there (.there .here)))))) Go.Sl.GetN.all (by first | rfl | assumption))) ?_
      refine Go.Sl.ow_nil ?_
      refine Go.Sl.xw_nx ?_
      · exact aw_use hA (s01245 x hx b15 b16) (by decide +kernel) (by repeat (first | exact True.intro | refine And.intro rfl ?_)) (by first | exact Go.Sl.Cov.refl _ | (intro p; simp only [List.flatten_cons, List.flatten_nil, List.flatten_append, List.append_nil, List.nil_append, Go.Sl.cnt_append, Go.Sl.cnt_cons, Go.Sl.cnt_nil, List.set_cons_zero, List.set_cons_succ, List.length_nil, List.length_cons, Nat.zero_add, List.append]; omega))
    have s0125 : ∀ (x : Option Addr × Nat × Hp) (_ : Ls enR 114 (.slice x.1 f.rg.length x.2.1) x.2.2 f.rg) (b16 : Nat), A [(76, .agg (f.cells p).toArray), (77, .agg (f.rcells { p with ra := x.1, rc := x.2.1 }).toArray), (78, .agg (g.cells q).toArray), (16, .pointer (some ⟨b16, 0, none⟩))] [x.2.2, [(b16, .cells ((FrM.zero 0).rcells FrP.nil).toArray 53 (0, 0))]] 4 (((((Array.replicate 8 false).setIfInBounds 0 true).setIfInBounds 1 true).setIfInBounds 2 true).setIfInBounds 5 true) := by
      intro x hx b16
      refine (hA _ _ _ _).2 ?_
      refine Go.Sl.aw_step2 3 4 (by decide +kernel) rfl rfl ?_ ?_
      (refine Go.Sl.ow_call rfl rfl rfl rfl (frRef_c hg ((hG _).r.cov (by first | exact Go.Sl.Cov.refl _ | (intro p; simp only [List.flatten_cons, List.flatten_nil, List.flatten_append, List.append_nil, List.nil_append, Go.Sl.cnt_append, Go.Sl.cnt_cons, Go.Sl.cnt_nil, List.set_cons_zero, List.set_cons_succ, List.length_nil, List.length_cons, Nat.zero_add, List.append]; omega))) (by omega)) ?_; rintro _ _ ⟨x79, rfl, hq79, rfl⟩)
      refine Go.Sl.ow_nil ?_
      refine Go.Sl.xw_nx ?_
      rotate_left
      (refine Go.Sl.ow_alloc rfl rfl Ty.ze53 ?_; intro b15)
      refine Go.Sl.ow_nil ?_
      refine Go.Sl.xw_nx ?_
      rotate_left
      · exact aw_use hA (s01235 x hx x79 hq79 b16) (by decide +kernel) (by repeat (first | exact True.intro | refine And.intro rfl ?_)) (by first | exact Go.Sl.Cov.refl _ | (intro p; simp only [List.flatten_cons, List.flatten_nil, List.flatten_append, List.append_nil, List.nil_append, Go.Sl.cnt_append, Go.Sl.cnt_cons, Go.Sl.cnt_nil, List.set_cons_zero, List.set_cons_succ, List.length_nil, List.length_cons, Nat.zero_add, List.append]; omega))
      · exact aw_use hA (s01245 x hx b15 b16) (by decide +kernel) (by repeat (first | exact True.intro | refine And.intro rfl ?_)) (show Cov _ ([(b15, .cells ((FrM.zero 0).rcells FrP.nil).toArray 53 (0, 0))] :: _) from (by first | exact Go.Sl.Cov.refl _ | (intro p; simp only [List.flatten_cons, List.flatten_nil, List.flatten_append, List.append_nil, List.nil_append, Go.Sl.cnt_append, Go.Sl.cnt_cons, Go.Sl.cnt_nil, List.set_cons_zero, List.set_cons_succ, List.length_nil, List.length_cons, Nat.zero_add, List.append]; omega)))
    have s0124 : ∀ (x : Option Addr × Nat × Hp) (_ : Ls enR 114 (.slice x.1 f.rg.length x.2.1) x.2.2 f.rg) (b15 : Nat), A [(76, .agg (f.cells p).toArray), (77, .agg (f.rcells { p with ra := x.1, rc := x.2.1 }).toArray), (78, .agg (g.cells q).toArray), (15, .pointer (some ⟨b15, 0, none⟩))] [x.2.2, [(b15, .cells ((FrM.zero 0).rcells FrP.nil).toArray 53 (0, 0))]] 4 (((((Array.replicate 8 false).setIfInBounds 0 true).setIfInBounds 1 true).setIfInBounds 2 true).setIfInBounds 4 true) := by
      intro x hx b15
      refine (hA _ _ _ _).2 ?_
      refine Go.Sl.aw_step2 3 5 (by decide +kernel) rfl rfl ?_ ?_
      (refine Go.Sl.ow_call rfl rfl rfl rfl (frRef_c hg ((hG _).r.cov (by first | exact Go.Sl.Cov.refl _ | (intro p; simp only [List.flatten_cons, List.flatten_nil, List.flatten_append, List.append_nil, List.nil_append, Go.Sl.cnt_append, Go.Sl.cnt_cons, Go.Sl.cnt_nil, List.set_cons_zero, List.set_cons_succ, List.length_nil, List.length_cons, Nat.zero_add, List.append]; omega))) (by omega)) ?_; rintro _ _ ⟨x79, rfl, hq79, rfl⟩)
      refine Go.Sl.ow_nil ?_
      refine Go.Sl.xw_nx ?_
      rotate_left
      (refine Go.Sl.ow_alloc rfl rfl Ty.ze53 ?_; intro b16)
      refine Go.Sl.ow_nil ?_
      refine Go.Sl.xw_nx ?_
      rotate_left
      · exact aw_use hA (s01234 x hx x79 hq79 b15) (by decide +kernel) (by repeat (first | exact True.intro | refine And.intro rfl ?_)) (by first | exact Go.Sl.Cov.refl _ | (intro p; simp only [List.flatten_cons, List.flatten_nil, List.flatten_append, List.append_nil, List.nil_append, Go.Sl.cnt_append, Go.Sl.cnt_cons, Go.Sl.cnt_nil, List.set_cons_zero, List.set_cons_succ, List.length_nil, List.length_cons, Nat.zero_add, List.append]; omega))
      · exact aw_use hA (s01245 x hx b15 b16) (by decide +kernel) (by repeat (first | exact True.intro | refine And.intro rfl ?_)) (show Cov _ ([(b16, .cells ((FrM.zero 0).rcells FrP.nil).toArray 53 (0, 0))] :: _) from (by first | exact Go.Sl.Cov.refl _ | (intro p; simp only [List.flatten_cons, List.flatten_nil, List.flatten_append, List.append_nil, List.nil_append, Go.Sl.cnt_append, Go.Sl.cnt_cons, Go.Sl.cnt_nil, List.set_cons_zero, List.set_cons_succ, List.length_nil, List.length_cons, Nat.zero_add, List.append]; omega)))
    have s0123 : ∀ (x : Option Addr × Nat × Hp) (_ : Ls enR 114 (.slice x.1 f.rg.length x.2.1) x.2.2 f.rg) (y : Option Addr × Nat × Hp) (_ : Ls enR 114 (.slice y.1 g.rg.length y.2.1) y.2.2 g.rg), A [(76, .agg (f.cells p).toArray), (77, .agg (f.rcells { p with ra := x.1, rc := x.2.1 }).toArray), (78, .agg (g.cells q).toArray), (79, .agg (g.rcells { q with ra := y.1, rc := y.2.1 }).toArray)] [x.2.2, y.2.2] 4 (((((Array.replicate 8 false).setIfInBounds 0 true).setIfInBounds 1 true).setIfInBounds 2 true).setIfInBounds 3 true) := by
      intro x hx y hy
      refine (hA _ _ _ _).2 ?_
      refine Go.Sl.aw_step2 4 5 (by decide +kernel) rfl rfl ?_ ?_
      (refine Go.Sl.ow_alloc rfl rfl Ty.ze53 ?_; intro b15)
      refine Go.Sl.ow_nil ?_
      refine Go.Sl.xw_nx ?_
      rotate_left
      (refine Go.Sl.ow_alloc rfl rfl Ty.ze53 ?_; intro b16)
      refine Go.Sl.ow_nil ?_
      refine Go.Sl.xw_nx ?_
      rotate_left
      · exact aw_use hA (s01234 x hx y hy b15) (by decide +kernel) (by repeat (first | exact True.intro | refine And.intro rfl ?_)) (show Cov _ ([(b15, .cells ((FrM.zero 0).rcells FrP.nil).toArray 53 (0, 0))] :: _) from (by first | exact Go.Sl.Cov.refl _ | (intro p; simp only [List.flatten_cons, List.flatten_nil, List.flatten_append, List.append_nil, List.nil_append, Go.Sl.cnt_append, Go.Sl.cnt_cons, Go.Sl.cnt_nil, List.set_cons_zero, List.set_cons_succ, List.length_nil, List.length_cons, Nat.zero_add, List.append]; omega)))
      · exact aw_use hA (s01235 x hx y hy b16) (by decide +kernel) (by repeat (first | exact True.intro | refine And.intro rfl ?_)) (show Cov _ ([(b16, .cells ((FrM.zero 0).rcells FrP.nil).toArray 53 (0, 0))] :: _) from (by first | exact Go.Sl.Cov.refl _ | (intro p; simp only [List.flatten_cons, List.flatten_nil, List.flatten_append, List.append_nil, List.nil_append, Go.Sl.cnt_append, Go.Sl.cnt_cons, Go.Sl.cnt_nil, List.set_cons_zero, List.set_cons_succ, List.length_nil, List.length_cons, Nat.zero_add, List.append]; omega)))
    have s245 : ∀ (b15 : Nat) (b16 : Nat), A [(78, .agg (g.cells q).toArray), (15, .pointer (some ⟨b15, 0, none⟩)), (16, .pointer (some ⟨b16, 0, none⟩))] [[(b15, .cells ((FrM.zero 0).rcells FrP.nil).toArray 53 (0, 0))], [(b16, .cells ((FrM.zero 0).rcells FrP.nil).toArray 53 (0, 0))]] 5 ((((Array.replicate 8 false).setIfInBounds 2 true).setIfInBounds 4 true).setIfInBounds 5 true) := by
      intro b15 b16
      refine (hA _ _ _ _).2 ?_
      refine Go.Sl.aw_step1 0 (by decide +kernel) rfl ?_
      refine Go.Sl.ow_val rfl rfl (Go.Sl.v_load rfl (Go.Sl.Var.atN Ty.ag30 (.there (.there (.there (.there (.there (.there .here)))))) Go.Sl.GetN.all (by first | rfl | assumption))) ?_
      refine Go.Sl.ow_nil ?_
      refine Go.Sl.xw_nx ?_
      · exact aw_use hA (s0245 b15 b16) (by decide +kernel) (by repeat (first | exact True.intro | refine And.intro rfl ?_)) (by first | exact Go.Sl.Cov.refl _ | (intro p; simp only [List.flatten_cons, List.flatten_nil, List.flatten_append, List.append_nil, List.nil_append, Go.Sl.cnt_append, Go.Sl.cnt_cons, Go.Sl.cnt_nil, List.set_cons_zero, List.set_cons_succ, List.length_nil, List.length_cons, Nat.zero_add, List.append]; omega))
    have s045 : ∀ (b15 : Nat) (b16 : Nat), A [(76, .agg (f.cells p).toArray), (15, .pointer (some ⟨b15, 0, none⟩)), (16, .pointer (some ⟨b16, 0, none⟩))] [[(b15, .cells ((FrM.zero 0).rcells FrP.nil).toArray 53 (0, 0))], [(b16, .cells ((FrM.zero 0).rcells FrP.nil).toArray 53 (0, 0))]] 5 ((((Array.replicate 8 false).setIfInBounds 0 true).setIfInBounds 4 true).setIfInBounds 5 true) := by
      intro b15 b16
      refine (hA _ _ _ _).2 ?_
      refine Go.Sl.aw_step2 1 2 (by decide +kernel) rfl rfl ?_ ?_
      (refine Go.Sl.ow_call rfl rfl rfl rfl (frRef_c hf ((hF _).r.cov (by first | exact Go.Sl.Cov.refl _ | (intro p; simp only [List.flatten_cons, List.flatten_nil, List.flatten_append, List.append_nil, List.nil_append, Go.Sl.cnt_append, Go.Sl.cnt_cons, Go.Sl.cnt_nil, List.set_cons_zero, List.set_cons_succ, List.length_nil, List.length_cons, Nat.zero_add, List.append]; omega))) (by omega)) ?_; rintro _ _ ⟨x77, rfl, hq77, rfl⟩)
      refine Go.Sl.ow_nil ?_
      refine Go.Sl.xw_nx ?_
      rotate_left
      refine Go.Sl.ow_val rfl rfl (Go.Sl.v_load rfl (Go.Sl.Var.atN Ty.ag30 (.there (.there (.there (.there (.there .here))))) Go.Sl.GetN.all (by first | rfl | assumption))) ?_
      refine Go.Sl.ow_nil ?_
      refine Go.Sl.xw_nx ?_
      rotate_left
      · exact aw_use hA (s0145 x77 hq77 b15 b16) (by decide +kernel) (by repeat (first | exact True.intro | refine And.intro rfl ?_)) (by first | exact Go.Sl.Cov.refl _ | (intro p; simp only [List.flatten_cons, List.flatten_nil, List.flatten_append, List.append_nil, List.nil_append, Go.Sl.cnt_append, Go.Sl.cnt_cons, Go.Sl.cnt_nil, List.set_cons_zero, List.set_cons_succ, List.length_nil, List.length_cons, Nat.zero_add, List.append]; omega))
      · exact aw_use hA (s0245 b15 b16) (by decide +kernel) (by repeat (first | exact True.intro | refine And.intro rfl ?_)) (by first | exact Go.Sl.Cov.refl _ | (intro p; simp only [List.flatten_cons, List.flatten_nil, List.flatten_append, List.append_nil, List.nil_append, Go.Sl.cnt_append, Go.Sl.cnt_cons, Go.Sl.cnt_nil, List.set_cons_zero, List.set_cons_succ, List.length_nil, List.length_cons, Nat.zero_add, List.append]; omega))
    have s025 : ∀ (b16 : Nat), A [(76, .agg (f.cells p).toArray), (78, .agg (g.cells q).toArray), (16, .pointer (some ⟨b16, 0, none⟩))] [[(b16, .cells ((FrM.zero 0).rcells FrP.nil).toArray 53 (0, 0))]] 5 ((((Array.replicate 8 false).setIfInBounds 0 true).setIfInBounds 2 true).setIfInBounds 5 true) := by
      intro b16
      refine (hA _ _ _ _).2 ?_
      refine Go.Sl.aw_step2 1 4 (by decide +kernel) rfl rfl ?_ ?_
      (refine Go.Sl.ow_call rfl rfl rfl rfl (frRef_c hf ((hF _).r.cov (by first | exact Go.Sl.Cov.refl _ | (intro p; simp only [List.flatten_cons, List.flatten_nil, List.flatten_append, List.append_nil, List.nil_append, Go.Sl.cnt_append, Go.Sl.cnt_cons, Go.Sl.cnt_nil, List.set_cons_zero, List.set_cons_succ, List.length_nil, List.length_cons, Nat.zero_add, List.append]; omega))) (by omega)) ?_; rintro _ _ ⟨x77, rfl, hq77, rfl⟩)
      refine Go.Sl.ow_nil ?_
      refine Go.Sl.xw_nx ?_
      rotate_left
      (refine Go.Sl.ow_alloc rfl rfl Ty.ze53 ?_; intro b15)
      refine Go.Sl.ow_nil ?_
      refine Go.Sl.xw_nx ?_
      rotate_left
      · exact aw_use hA (s0125 x77 hq77 b16) (by decide +kernel) (by repeat (first | exact True.intro | refine And.intro rfl ?_)) (by first | exact Go.Sl.Cov.refl _ | (intro p; simp only [List.flatten_cons, List.flatten_nil, List.flatten_append, List.append_nil, List.nil_append, Go.Sl.cnt_append, Go.Sl.cnt_cons, Go.Sl.cnt_nil, List.set_cons_zero, List.set_cons_succ, List.length_nil, List.length_cons, Nat.zero_add, List.append]; omega))
      · exact aw_use hA (s0245 b15 b16) (by decide +kernel) (by repeat (first | exact True.intro | refine And.intro rfl ?_)) (show Cov _ ([(b15, .cells ((FrM.zero 0).rcells FrP.nil).toArray 53 (0, 0))] :: _) from (by first | exact Go.Sl.Cov.refl _ | (intro p; simp only [List.flatten_cons, List.flatten_nil, List.flatten_append, List.append_nil, List.nil_append, Go.Sl.cnt_append, Go.Sl.cnt_cons, Go.Sl.cnt_nil, List.set_cons_zero, List.set_cons_succ, List.length_nil, List.length_cons, Nat.zero_add, List.append]; omega)))
    have s024 : ∀ (b15 : Nat), A [(76, .agg (f.cells p).toArray), (78, .agg (g.cells q).toArray), (15, .pointer (some ⟨b15, 0, none⟩))] [[(b15, .cells ((FrM.zero 0).rcells FrP.nil).toArray 53 (0, 0))]] 5 ((((Array.replicate 8 false).setIfInBounds 0 true).setIfInBounds 2 true).setIfInBounds 4 true) := by
      intro b15
      refine (hA _ _ _ _).2 ?_
      refine Go.Sl.aw_step2 1 5 (by decide +kernel) rfl rfl ?_ ?_
      (refine Go.Sl.ow_call rfl rfl rfl rfl (frRef_c hf ((hF _).r.cov (by first | exact Go.Sl.Cov.refl _ | (intro p; simp only [List.flatten_cons, List.flatten_nil, List.flatten_append, List.append_nil, List.nil_append, Go.Sl.cnt_append, Go.Sl.cnt_cons, Go.Sl.cnt_nil, List.set_cons_zero, List.set_cons_succ, List.length_nil, List.length_cons, Nat.zero_add, List.append]; omega))) (by omega)) ?_; rintro _ _ ⟨x77, rfl, hq77, rfl⟩)
      refine Go.Sl.ow_nil ?_
      refine Go.Sl.xw_nx ?_
      rotate_left
      (refine Go.Sl.ow_alloc rfl rfl Ty.ze53 ?_; intro b16)
      refine Go.Sl.ow_nil ?_
      refine Go.Sl.xw_nx ?_
      rotate_left
      · exact aw_use hA (s0124 x77 hq77 b15) (by decide +kernel) (by repeat (first | exact True.intro | refine And.intro rfl ?_)) (by first | exact Go.Sl.Cov.refl _ | (intro p; simp only [List.flatten_cons, List.flatten_nil, List.flatten_append, List.append_nil, List.nil_append, Go.Sl.cnt_append, Go.Sl.cnt_cons, Go.Sl.cnt_nil, List.set_cons_zero, List.set_cons_succ, List.length_nil, List.length_cons, Nat.zero_add, List.append]; omega))
      · exact aw_use hA (s0245 b15 b16) (by decide +kernel) (by repeat (first | exact True.intro | refine And.intro rfl ?_)) (show Cov _ ([(b16, .cells ((FrM.zero 0).rcells FrP.nil).toArray 53 (0, 0))] :: _) from (by first | exact Go.Sl.Cov.refl _ | (intro p; simp only [List.flatten_cons, List.flatten_nil, List.flatten_append, List.append_nil, List.nil_append, Go.Sl.cnt_append, Go.Sl.cnt_cons, Go.Sl.cnt_nil, List.set_cons_zero, List.set_cons_succ, List.length_nil, List.length_cons, Nat.zero_add, List.append]; omega)))
    have s015 : ∀ (x : Option Addr × Nat × Hp) (_ : Ls enR 114 (.slice x.1 f.rg.length x.2.1) x.2.2 f.rg) (b16 : Nat), A [(76, .agg (f.cells p).toArray), (77, .agg (f.rcells { p with ra := x.1, rc := x.2.1 }).toArray), (16, .pointer (some ⟨b16, 0, none⟩))] [x.2.2, [(b16, .cells ((FrM.zero 0).rcells FrP.nil).toArray 53 (0, 0))]] 5 ((((Array.replicate 8 false).setIfInBounds 0 true).setIfInBounds 1 true).setIfInBounds 5 true) := by
      intro x hx b16
      refine (hA _ _ _ _).2 ?_
      refine Go.Sl.aw_step2 2 4 (by decide +kernel) rfl rfl ?_ ?_
      refine Go.Sl.ow_val rfl rfl (Go.Sl.v_load rfl (Go.Sl.Var.atN Ty.ag30 (.there (.there (.there (.there (.there .here))))) Go.Sl.GetN.all (by first | rfl | assumption))) ?_
      refine Go.Sl.ow_nil ?_
      refine Go.Sl.xw_nx ?_
      rotate_left
      (refine Go.Sl.ow_alloc rfl rfl Ty.ze53 ?_; intro b15)
      refine Go.Sl.ow_nil ?_
      refine Go.Sl.xw_nx ?_
      rotate_left
      · exact aw_use hA (s0125 x hx b16) (by decide +kernel) (by repeat (first | exact True.intro | refine And.intro rfl ?_)) (by first | exact Go.Sl.Cov.refl _ | (intro p; simp only [List.flatten_cons, List.flatten_nil, List.flatten_append, List.append_nil, List.nil_append, Go.Sl.cnt_append, Go.Sl.cnt_cons, Go.Sl.cnt_nil, List.set_cons_zero, List.set_cons_succ, List.length_nil, List.length_cons, Nat.zero_add, List.append]; omega))
      · exact aw_use hA (s0145 x hx b15 b16) (by decide +kernel) (by repeat (first | exact True.intro | refine And.intro rfl ?_)) (show Cov _ ([(b15, .cells ((FrM.zero 0).rcells FrP.nil).toArray 53 (0, 0))] :: _) from (by first | exact Go.Sl.Cov.refl _ | (intro p; simp only [List.flatten_cons, List.flatten_nil, List.flatten_append, List.append_nil, List.nil_append, Go.Sl.cnt_append, Go.Sl.cnt_cons, Go.Sl.cnt_nil, List.set_cons_zero, List.set_cons_succ, List.length_nil, List.length_cons, Nat.zero_add, List.append]; omega)))
    have s014 : ∀ (x : Option Addr × Nat × Hp) (_ : Ls enR 114 (.slice x.1 f.rg.length x.2.1) x.2.2 f.rg) (b15 : Nat), A [(76, .agg (f.cells p).toArray), (77, .agg (f.rcells { p with ra := x.1, rc := x.2.1 }).toArray), (15, .pointer (some ⟨b15, 0, none⟩))] [x.2.2, [(b15, .cells ((FrM.zero 0).rcells FrP.nil).toArray 53 (0, 0))]] 5 ((((Array.replicate 8 false).setIfInBounds 0 true).setIfInBounds 1 true).setIfInBounds 4 true) := by
      intro x hx b15
      refine (hA _ _ _ _).2 ?_
      refine Go.Sl.aw_step2 2 5 (by decide +kernel) rfl rfl ?_ ?_
      refine Go.Sl.ow_val rfl rfl (Go.Sl.v_load rfl (Go.Sl.Var.atN Ty.ag30 (.there (.there (.there (.there (.there .here))))) Go.Sl.GetN.all (by first | rfl | assumption))) ?_
      refine Go.Sl.ow_nil ?_
      refine Go.Sl.xw_nx ?_
      rotate_left
      (refine Go.Sl.ow_alloc rfl rfl Ty.ze53 ?_; intro b16)
      refine Go.Sl.ow_nil ?_
      refine Go.Sl.xw_nx ?_
      rotate_left
      · exact aw_use hA (s0124 x hx b15) (by decide +kernel) (by repeat (first | exact True.intro | refine And.intro rfl ?_)) (by first | exact Go.Sl.Cov.refl _ | (intro p; simp only [List.flatten_cons, List.flatten_nil, List.flatten_append, List.append_nil, List.nil_append, Go.Sl.cnt_append, Go.Sl.cnt_cons, Go.Sl.cnt_nil, List.set_cons_zero, List.set_cons_succ, List.length_nil, List.length_cons, Nat.zero_add, List.append]; omega))
      · exact aw_use hA (s0145 x hx b15 b16) (by decide +kernel) (by repeat (first | exact True.intro | refine And.intro rfl ?_)) (show Cov _ ([(b16, .cells ((FrM.zero 0).rcells FrP.nil).toArray 53 (0, 0))] :: _) from (by first | exact Go.Sl.Cov.refl _ | (intro p; simp only [List.flatten_cons, List.flatten_nil, List.flatten_append, List.append_nil, List.nil_append, Go.Sl.cnt_append, Go.Sl.cnt_cons, Go.Sl.cnt_nil, List.set_cons_zero, List.set_cons_succ, List.length_nil, List.length_cons, Nat.zero_add, List.append]; omega)))
    have s012 : ∀ (x : Option Addr × Nat × Hp) (_ : Ls enR 114 (.slice x.1 f.rg.length x.2.1) x.2.2 f.rg), A [(76, .agg (f.cells p).toArray), (77, .agg (f.rcells { p with ra := x.1, rc := x.2.1 }).toArray), (78, .agg (g.cells q).toArray)] [x.2.2] 5 ((((Array.replicate 8 false).setIfInBounds 0 true).setIfInBounds 1 true).setIfInBounds 2 true) := by
      intro x hx
      refine (hA _ _ _ _).2 ?_
      refine Go.Sl.aw_step3 3 4 5 (by decide +kernel) rfl rfl rfl ?_ ?_ ?_
      (refine Go.Sl.ow_call rfl rfl rfl rfl (frRef_c hg ((hG _).r.cov (by first | exact Go.Sl.Cov.refl _ | (intro p; simp only [List.flatten_cons, List.flatten_nil, List.flatten_append, List.append_nil, List.nil_append, Go.Sl.cnt_append, Go.Sl.cnt_cons, Go.Sl.cnt_nil, List.set_cons_zero, List.set_cons_succ, List.length_nil, List.length_cons, Nat.zero_add, List.append]; omega))) (by omega)) ?_; rintro _ _ ⟨x79, rfl, hq79, rfl⟩)
      refine Go.Sl.ow_nil ?_
      refine Go.Sl.xw_nx ?_
      rotate_left
      (refine Go.Sl.ow_alloc rfl rfl Ty.ze53 ?_; intro b15)
      refine Go.Sl.ow_nil ?_
      refine Go.Sl.xw_nx ?_
      rotate_left
      (refine Go.Sl.ow_alloc rfl rfl Ty.ze53 ?_; intro b16)
      refine Go.Sl.ow_nil ?_
      refine Go.Sl.xw_nx ?_
      rotate_left
      · exact aw_use hA (s0123 x hx x79 hq79) (by decide +kernel) (by repeat (first | exact True.intro | refine And.intro rfl ?_)) (by first | exact Go.Sl.Cov.refl _ | (intro p; simp only [List.flatten_cons, List.flatten_nil, List.flatten_append, List.append_nil, List.nil_append, Go.Sl.cnt_append, Go.Sl.cnt_cons, Go.Sl.cnt_nil, List.set_cons_zero, List.set_cons_succ, List.length_nil, List.length_cons, Nat.zero_add, List.append]; omega))
      · exact aw_use hA (s0124 x hx b15) (by decide +kernel) (by repeat (first | exact True.intro | refine And.intro rfl ?_)) (show Cov _ ([(b15, .cells ((FrM.zero 0).rcells FrP.nil).toArray 53 (0, 0))] :: _) from (by first | exact Go.Sl.Cov.refl _ | (intro p; simp only [List.flatten_cons, List.flatten_nil, List.flatten_append, List.append_nil, List.nil_append, Go.Sl.cnt_append, Go.Sl.cnt_cons, Go.Sl.cnt_nil, List.set_cons_zero, List.set_cons_succ, List.length_nil, List.length_cons, Nat.zero_add, List.append]; omega)))
      · exact aw_use hA (s0125 x hx b16) (by decide +kernel) (by repeat (first | exact True.intro | refine And.intro rfl ?_)) (show Cov _ ([(b16, .cells ((FrM.zero 0).rcells FrP.nil).toArray 53 (0, 0))] :: _) from (by first | exact Go.Sl.Cov.refl _ | (intro p; simp only [List.flatten_cons, List.flatten_nil, List.flatten_append, List.append_nil, List.nil_append, Go.Sl.cnt_append, Go.Sl.cnt_cons, Go.Sl.cnt_nil, List.set_cons_zero, List.set_cons_succ, List.length_nil, List.length_cons, Nat.zero_add, List.append]; omega)))
    have s45 : ∀ (b15 : Nat) (b16 : Nat), A [(15, .pointer (some ⟨b15, 0, none⟩)), (16, .pointer (some ⟨b16, 0, none⟩))] [[(b15, .cells ((FrM.zero 0).rcells FrP.nil).toArray 53 (0, 0))], [(b16, .cells ((FrM.zero 0).rcells FrP.nil).toArray 53 (0, 0))]] 6 (((Array.replicate 8 false).setIfInBounds 4 true).setIfInBounds 5 true) := by
      intro b15 b16
      refine (hA _ _ _ _).2 ?_
      refine Go.Sl.aw_step2 0 2 (by decide +kernel) rfl rfl ?_ ?_
      refine Go.Sl.ow_val rfl rfl (Go.Sl.v_load rfl (Go.Sl.Var.atN Ty.ag30 (.there (.there (.there (.there (.there (.there .here)))))) Go.Sl.GetN.all (by first | rfl | assumption))) ?_
      refine Go.Sl.ow_nil ?_
      refine Go.Sl.xw_nx ?_
      rotate_left
      refine Go.Sl.ow_val rfl rfl (Go.Sl.v_load rfl (Go.Sl.Var.atN Ty.ag30 (.there (.there (.there (.there (.there .here))))) Go.Sl.GetN.all (by first | rfl | assumption))) ?_
      refine Go.Sl.ow_nil ?_
      refine Go.Sl.xw_nx ?_
      rotate_left
      · exact aw_use hA (s045 b15 b16) (by decide +kernel) (by repeat (first | exact True.intro | refine And.intro rfl ?_)) (by first | exact Go.Sl.Cov.refl _ | (intro p; simp only [List.flatten_cons, List.flatten_nil, List.flatten_append, List.append_nil, List.nil_append, Go.Sl.cnt_append, Go.Sl.cnt_cons, Go.Sl.cnt_nil, List.set_cons_zero, List.set_cons_succ, List.length_nil, List.length_cons, Nat.zero_add, List.append]; omega))
      · exact aw_use hA (s245 b15 b16) (by decide +kernel) (by repeat (first | exact True.intro | refine And.intro rfl ?_)) (by first | exact Go.Sl.Cov.refl _ | (intro p; simp only [List.flatten_cons, List.flatten_nil, List.flatten_append, List.append_nil, List.nil_append, Go.Sl.cnt_append, Go.Sl.cnt_cons, Go.Sl.cnt_nil, List.set_cons_zero, List.set_cons_succ, List.length_nil, List.length_cons, Nat.zero_add, List.append]; omega))
    have s25 : ∀ (b16 : Nat), A [(78, .agg (g.cells q).toArray), (16, .pointer (some ⟨b16, 0, none⟩))] [[(b16, .cells ((FrM.zero 0).rcells FrP.nil).toArray 53 (0, 0))]] 6 (((Array.replicate 8 false).setIfInBounds 2 true).setIfInBounds 5 true) := by
      intro b16
      refine (hA _ _ _ _).2 ?_
      refine Go.Sl.aw_step2 0 4 (by decide +kernel) rfl rfl ?_ ?_
      refine Go.Sl.ow_val rfl rfl (Go.Sl.v_load rfl (Go.Sl.Var.atN Ty.ag30 (.there (.there (.there (.there (.there .here))))) Go.Sl.GetN.all (by first | rfl | assumption))) ?_
      refine Go.Sl.ow_nil ?_
      refine Go.Sl.xw_nx ?_
      rotate_left
      (refine Go.Sl.ow_alloc rfl rfl Ty.ze53 ?_; intro b15)
      refine Go.Sl.ow_nil ?_
      refine Go.Sl.xw_nx ?_
      rotate_left
      · exact aw_use hA (s025 b16) (by decide +kernel) (by repeat (first | exact True.intro | refine And.intro rfl ?_)) (by first | exact Go.Sl.Cov.refl _ | (intro p; simp only [List.flatten_cons, List.flatten_nil, List.flatten_append, List.append_nil, List.nil_append, Go.Sl.cnt_append, Go.Sl.cnt_cons, Go.Sl.cnt_nil, List.set_cons_zero, List.set_cons_succ, List.length_nil, List.length_cons, Nat.zero_add, List.append]; omega))
      · exact aw_use hA (s245 b15 b16) (by decide +kernel) (by repeat (first | exact True.intro | refine And.intro rfl ?_)) (show Cov _ ([(b15, .cells ((FrM.zero 0).rcells FrP.nil).toArray 53 (0, 0))] :: _) from (by first | exact Go.Sl.Cov.refl _ | (intro p; simp only [List.flatten_cons, List.flatten_nil, List.flatten_append, List.append_nil, List.nil_append, Go.Sl.cnt_append, Go.Sl.cnt_cons, Go.Sl.cnt_nil, List.set_cons_zero, List.set_cons_succ, List.length_nil, List.length_cons, Nat.zero_add, List.append]; omega)))
    have s24 : ∀ (b15 : Nat), A [(78, .agg (g.cells q).toArray), (15, .pointer (some ⟨b15, 0, none⟩))] [[(b15, .cells ((FrM.zero 0).rcells FrP.nil).toArray 53 (0, 0))]] 6 (((Array.replicate 8 false).setIfInBounds 2 true).setIfInBounds 4 true) := by
      intro b15
      refine (hA _ _ _ _).2 ?_
      refine Go.Sl.aw_step2 0 5 (by decide +kernel) rfl rfl ?_ ?_
      refine Go.Sl.ow_val rfl rfl (Go.Sl.v_load rfl (Go.Sl.Var.atN Ty.ag30 (.there (.there (.there (.there (.there .here))))) Go.Sl.GetN.all (by first | rfl | assumption))) ?_
      refine Go.Sl.ow_nil ?_
      refine Go.Sl.xw_nx ?_
      rotate_left
      (refine Go.Sl.ow_alloc rfl rfl Ty.ze53 ?_; intro b16)
      refine Go.Sl.ow_nil ?_
      refine Go.Sl.xw_nx ?_
      rotate_left
      · exact aw_use hA (s024 b15) (by decide +kernel) (by repeat (first | exact True.intro | refine And.intro rfl ?_)) (by first | exact Go.Sl.Cov.refl _ | (intro p; simp only [List.flatten_cons, List.flatten_nil, List.flatten_append, List.append_nil, List.nil_append, Go.Sl.cnt_append, Go.Sl.cnt_cons, Go.Sl.cnt_nil, List.set_cons_zero, List.set_cons_succ, List.length_nil, List.length_cons, Nat.zero_add, List.append]; omega))
      · exact aw_use hA (s245 b15 b16) (by decide +kernel) (by repeat (first | exact True.intro | refine And.intro rfl ?_)) (show Cov _ ([(b16, .cells ((FrM.zero 0).rcells FrP.nil).toArray 53 (0, 0))] :: _) from (by first | exact Go.Sl.Cov.refl _ | (intro p; simp only [List.flatten_cons, List.flatten_nil, List.flatten_append, List.append_nil, List.nil_append, Go.Sl.cnt_append, Go.Sl.cnt_cons, Go.Sl.cnt_nil, List.set_cons_zero, List.set_cons_succ, List.length_nil, List.length_cons, Nat.zero_add, List.append]; omega)))
    have s05 : ∀ (b16 : Nat), A [(76, .agg (f.cells p).toArray), (16, .pointer (some ⟨b16, 0, none⟩))] [[(b16, .cells ((FrM.zero 0).rcells FrP.nil).toArray 53 (0, 0))]] 6 (((Array.replicate 8 false).setIfInBounds 0 true).setIfInBounds 5 true) := by
      intro b16
      refine (hA _ _ _ _).2 ?_
      refine Go.Sl.aw_step3 1 2 4 (by decide +kernel) rfl rfl rfl ?_ ?_ ?_
      (refine Go.Sl.ow_call rfl rfl rfl rfl (frRef_c hf ((hF _).r.cov (by first | exact Go.Sl.Cov.refl _ | (intro p; simp only [List.flatten_cons, List.flatten_nil, List.flatten_append, List.append_nil, List.nil_append, Go.Sl.cnt_append, Go.Sl.cnt_cons, Go.Sl.cnt_nil, List.set_cons_zero, List.set_cons_succ, List.length_nil, List.length_cons, Nat.zero_add, List.append]; omega))) (by omega)) ?_; rintro _ _ ⟨x77, rfl, hq77, rfl⟩)
      refine Go.Sl.ow_nil ?_
      refine Go.Sl.xw_nx ?_
      rotate_left
      refine Go.Sl.ow_val rfl rfl (Go.Sl.v_load rfl (Go.Sl.Var.atN Ty.ag30 (.there (.there (.there (.there .here)))) Go.Sl.GetN.all (by first | rfl | assumption))) ?_
      refine Go.Sl.ow_nil ?_
      refine Go.Sl.xw_nx ?_
      rotate_left
      (refine Go.Sl.ow_alloc rfl rfl Ty.ze53 ?_; intro b15)
      refine Go.Sl.ow_nil ?_
      refine Go.Sl.xw_nx ?_
      rotate_left
      · exact aw_use hA (s015 x77 hq77 b16) (by decide +kernel) (by repeat (first | exact True.intro | refine And.intro rfl ?_)) (by first | exact Go.Sl.Cov.refl _ | (intro p; simp only [List.flatten_cons, List.flatten_nil, List.flatten_append, List.append_nil, List.nil_append, Go.Sl.cnt_append, Go.Sl.cnt_cons, Go.Sl.cnt_nil, List.set_cons_zero, List.set_cons_succ, List.length_nil, List.length_cons, Nat.zero_add, List.append]; omega))
      · exact aw_use hA (s025 b16) (by decide +kernel) (by repeat (first | exact True.intro | refine And.intro rfl ?_)) (by first | exact Go.Sl.Cov.refl _ | (intro p; simp only [List.flatten_cons, List.flatten_nil, List.flatten_append, List.append_nil, List.nil_append, Go.Sl.cnt_append, Go.Sl.cnt_cons, Go.Sl.cnt_nil, List.set_cons_zero, List.set_cons_succ, List.length_nil, List.length_cons, Nat.zero_add, List.append]; omega))
      · exact aw_use hA (s045 b15 b16) (by decide +kernel) (by repeat (first | exact True.intro | refine And.intro rfl ?_)) (show Cov _ ([(b15, .cells ((FrM.zero 0).rcells FrP.nil).toArray 53 (0, 0))] :: _) from (by first | exact Go.Sl.Cov.refl _ | (intro p; simp only [List.flatten_cons, List.flatten_nil, List.flatten_append, List.append_nil, List.nil_append, Go.Sl.cnt_append, Go.Sl.cnt_cons, Go.Sl.cnt_nil, List.set_cons_zero, List.set_cons_succ, List.length_nil, List.length_cons, Nat.zero_add, List.append]; omega)))
    have s04 : ∀ (b15 : Nat), A [(76, .agg (f.cells p).toArray), (15, .pointer (some ⟨b15, 0, none⟩))] [[(b15, .cells ((FrM.zero 0).rcells FrP.nil).toArray 53 (0, 0))]] 6 (((Array.replicate 8 false).setIfInBounds 0 true).setIfInBounds 4 true) := by
      intro b15
      refine (hA _ _ _ _).2 ?_
      refine Go.Sl.aw_step3 1 2 5 (by decide +kernel) rfl rfl rfl ?_ ?_ ?_
      (refine Go.Sl.ow_call rfl rfl rfl rfl (frRef_c hf ((hF _).r.cov (by first | exact Go.Sl.Cov.refl _ | (intro p; simp only [List.flatten_cons, List.flatten_nil, List.flatten_append, List.append_nil, List.nil_append, Go.Sl.cnt_append, Go.Sl.cnt_cons, Go.Sl.cnt_nil, List.set_cons_zero, List.set_cons_succ, List.length_nil, List.length_cons, Nat.zero_add, List.append]; omega))) (by omega)) ?_; rintro _ _ ⟨x77, rfl, hq77, rfl⟩)
      refine Go.Sl.ow_nil ?_
      refine Go.Sl.xw_nx ?_
      rotate_left
      refine Go.Sl.ow_val rfl rfl (Go.Sl.v_load rfl (Go.Sl.Var.atN Ty.ag30 (.there (.there (.there (.there .here)))) Go.Sl.GetN.all (by first | rfl | assumption))) ?_
      refine Go.Sl.ow_nil ?_
      refine Go.Sl.xw_nx ?_
      rotate_left
      (refine Go.Sl.ow_alloc rfl rfl Ty.ze53 ?_; intro b16)
      refine Go.Sl.ow_nil ?_
      refine Go.Sl.xw_nx ?_
      rotate_left
      · exact aw_use hA (s014 x77 hq77 b15) (by decide +kernel) (by repeat (first | exact True.intro | refine And.intro rfl ?_)) (by first | exact Go.Sl.Cov.refl _ | (intro p; simp only [List.flatten_cons, List.flatten_nil, List.flatten_append, List.append_nil, List.nil_append, Go.Sl.cnt_append, Go.Sl.cnt_cons, Go.Sl.cnt_nil, List.set_cons_zero, List.set_cons_succ, List.length_nil, List.length_cons, Nat.zero_add, List.append]; omega))
      · exact aw_use hA (s024 b15) (by decide +kernel) (by repeat (first | exact True.intro | refine And.intro rfl ?_)) (by first | exact Go.Sl.Cov.refl _ | (intro p; simp only [List.flatten_cons, List.flatten_nil, List.flatten_append, List.append_nil, List.nil_append, Go.Sl.cnt_append, Go.Sl.cnt_cons, Go.Sl.cnt_nil, List.set_cons_zero, List.set_cons_succ, List.length_nil, List.length_cons, Nat.zero_add, List.append]; omega))
      · exact aw_use hA (s045 b15 b16) (by decide +kernel) (by repeat (first | exact True.intro | refine And.intro rfl ?_)) (show Cov _ ([(b16, .cells ((FrM.zero 0).rcells FrP.nil).toArray 53 (0, 0))] :: _) from (by first | exact Go.Sl.Cov.refl _ | (intro p; simp only [List.flatten_cons, List.flatten_nil, List.flatten_append, List.append_nil, List.nil_append, Go.Sl.cnt_append, Go.Sl.cnt_cons, Go.Sl.cnt_nil, List.set_cons_zero, List.set_cons_succ, List.length_nil, List.length_cons, Nat.zero_add, List.append]; omega)))
    have s02 : A [(76, .agg (f.cells p).toArray), (78, .agg (g.cells q).toArray)] [] 6 (((Array.replicate 8 false).setIfInBounds 0 true).setIfInBounds 2 true) := by
      refine (hA _ _ _ _).2 ?_
      refine Go.Sl.aw_step3 1 4 5 (by decide +kernel) rfl rfl rfl ?_ ?_ ?_
      (refine Go.Sl.ow_call rfl rfl rfl rfl (frRef_c hf ((hF _).r.cov (by first | exact Go.Sl.Cov.refl _ | (intro p; simp only [List.flatten_cons, List.flatten_nil, List.flatten_append, List.append_nil, List.nil_append, Go.Sl.cnt_append, Go.Sl.cnt_cons, Go.Sl.cnt_nil, List.set_cons_zero, List.set_cons_succ, List.length_nil, List.length_cons, Nat.zero_add, List.append]; omega))) (by omega)) ?_; rintro _ _ ⟨x77, rfl, hq77, rfl⟩)
      refine Go.Sl.ow_nil ?_
      refine Go.Sl.xw_nx ?_
      rotate_left
      (refine Go.Sl.ow_alloc rfl rfl Ty.ze53 ?_; intro b15)
      refine Go.Sl.ow_nil ?_
      refine Go.Sl.xw_nx ?_
      rotate_left
      (refine Go.Sl.ow_alloc rfl rfl Ty.ze53 ?_; intro b16)
      refine Go.Sl.ow_nil ?_
      refine Go.Sl.xw_nx ?_
      rotate_left
      · exact aw_use hA (s012 x77 hq77) (by decide +kernel) (by repeat (first | exact True.intro | refine And.intro rfl ?_)) (by first | exact Go.Sl.Cov.refl _ | (intro p; simp only [List.flatten_cons, List.flatten_nil, List.flatten_append, List.append_nil, List.nil_append, Go.Sl.cnt_append, Go.Sl.cnt_cons, Go.Sl.cnt_nil, List.set_cons_zero, List.set_cons_succ, List.length_nil, List.length_cons, Nat.zero_add, List.append]; omega))
      · exact aw_use hA (s024 b15) (by decide +kernel) (by repeat (first | exact True.intro | refine And.intro rfl ?_)) (show Cov _ ([(b15, .cells ((FrM.zero 0).rcells FrP.nil).toArray 53 (0, 0))] :: _) from (by first | exact Go.Sl.Cov.refl _ | (intro p; simp only [List.flatten_cons, List.flatten_nil, List.flatten_append, List.append_nil, List.nil_append, Go.Sl.cnt_append, Go.Sl.cnt_cons, Go.Sl.cnt_nil, List.set_cons_zero, List.set_cons_succ, List.length_nil, List.length_cons, Nat.zero_add, List.append]; omega)))
      · exact aw_use hA (s025 b16) (by decide +kernel) (by repeat (first | exact True.intro | refine And.intro rfl ?_)) (show Cov _ ([(b16, .cells ((FrM.zero 0).rcells FrP.nil).toArray 53 (0, 0))] :: _) from (by first | exact Go.Sl.Cov.refl _ | (intro p; simp only [List.flatten_cons, List.flatten_nil, List.flatten_append, List.append_nil, List.nil_append, Go.Sl.cnt_append, Go.Sl.cnt_cons, Go.Sl.cnt_nil, List.set_cons_zero, List.set_cons_succ, List.length_nil, List.length_cons, Nat.zero_add, List.append]; omega)))
    have s01 : ∀ (x : Option Addr × Nat × Hp) (_ : Ls enR 114 (.slice x.1 f.rg.length x.2.1) x.2.2 f.rg), A [(76, .agg (f.cells p).toArray), (77, .agg (f.rcells { p with ra := x.1, rc := x.2.1 }).toArray)] [x.2.2] 6 (((Array.replicate 8 false).setIfInBounds 0 true).setIfInBounds 1 true) := by
      intro x hx
      refine (hA _ _ _ _).2 ?_
      refine Go.Sl.aw_step3 2 4 5 (by decide +kernel) rfl rfl rfl ?_ ?_ ?_
      refine Go.Sl.ow_val rfl rfl (Go.Sl.v_load rfl (Go.Sl.Var.atN Ty.ag30 (.there (.there (.there (.there .here)))) Go.Sl.GetN.all (by first | rfl | assumption))) ?_
      refine Go.Sl.ow_nil ?_
      refine Go.Sl.xw_nx ?_
      rotate_left
      (refine Go.Sl.ow_alloc rfl rfl Ty.ze53 ?_; intro b15)
      refine Go.Sl.ow_nil ?_
      refine Go.Sl.xw_nx ?_
      rotate_left
      (refine Go.Sl.ow_alloc rfl rfl Ty.ze53 ?_; intro b16)
      refine Go.Sl.ow_nil ?_
      refine Go.Sl.xw_nx ?_
      rotate_left
      · exact aw_use hA (s012 x hx) (by decide +kernel) (by repeat (first | exact True.intro | refine And.intro rfl ?_)) (by first | exact Go.Sl.Cov.refl _ | (intro p; simp only [List.flatten_cons, List.flatten_nil, List.flatten_append, List.append_nil, List.nil_append, Go.Sl.cnt_append, Go.Sl.cnt_cons, Go.Sl.cnt_nil, List.set_cons_zero, List.set_cons_succ, List.length_nil, List.length_cons, Nat.zero_add, List.append]; omega))
      · exact aw_use hA (s014 x hx b15) (by decide +kernel) (by repeat (first | exact True.intro | refine And.intro rfl ?_)) (show Cov _ ([(b15, .cells ((FrM.zero 0).rcells FrP.nil).toArray 53 (0, 0))] :: _) from (by first | exact Go.Sl.Cov.refl _ | (intro p; simp only [List.flatten_cons, List.flatten_nil, List.flatten_append, List.append_nil, List.nil_append, Go.Sl.cnt_append, Go.Sl.cnt_cons, Go.Sl.cnt_nil, List.set_cons_zero, List.set_cons_succ, List.length_nil, List.length_cons, Nat.zero_add, List.append]; omega)))
      · exact aw_use hA (s015 x hx b16) (by decide +kernel) (by repeat (first | exact True.intro | refine And.intro rfl ?_)) (show Cov _ ([(b16, .cells ((FrM.zero 0).rcells FrP.nil).toArray 53 (0, 0))] :: _) from (by first | exact Go.Sl.Cov.refl _ | (intro p; simp only [List.flatten_cons, List.flatten_nil, List.flatten_append, List.append_nil, List.nil_append, Go.Sl.cnt_append, Go.Sl.cnt_cons, Go.Sl.cnt_nil, List.set_cons_zero, List.set_cons_succ, List.length_nil, List.length_cons, Nat.zero_add, List.append]; omega)))
    have s5 : ∀ (b16 : Nat), A [(16, .pointer (some ⟨b16, 0, none⟩))] [[(b16, .cells ((FrM.zero 0).rcells FrP.nil).toArray 53 (0, 0))]] 7 ((Array.replicate 8 false).setIfInBounds 5 true) := by
      intro b16
      refine (hA _ _ _ _).2 ?_
      refine Go.Sl.aw_step3 0 2 4 (by decide +kernel) rfl rfl rfl ?_ ?_ ?_
      refine Go.Sl.ow_val rfl rfl (Go.Sl.v_load rfl (Go.Sl.Var.atN Ty.ag30 (.there (.there (.there (.there (.there .here))))) Go.Sl.GetN.all (by first | rfl | assumption))) ?_
      refine Go.Sl.ow_nil ?_
      refine Go.Sl.xw_nx ?_
      rotate_left
      refine Go.Sl.ow_val rfl rfl (Go.Sl.v_load rfl (Go.Sl.Var.atN Ty.ag30 (.there (.there (.there (.there .here)))) Go.Sl.GetN.all (by first | rfl | assumption))) ?_
      refine Go.Sl.ow_nil ?_
      refine Go.Sl.xw_nx ?_
      rotate_left
      (refine Go.Sl.ow_alloc rfl rfl Ty.ze53 ?_; intro b15)
      refine Go.Sl.ow_nil ?_
      refine Go.Sl.xw_nx ?_
      rotate_left
      · exact aw_use hA (s05 b16) (by decide +kernel) (by repeat (first | exact True.intro | refine And.intro rfl ?_)) (by first | exact Go.Sl.Cov.refl _ | (intro p; simp only [List.flatten_cons, List.flatten_nil, List.flatten_append, List.append_nil, List.nil_append, Go.Sl.cnt_append, Go.Sl.cnt_cons, Go.Sl.cnt_nil, List.set_cons_zero, List.set_cons_succ, List.length_nil, List.length_cons, Nat.zero_add, List.append]; omega))
      · exact aw_use hA (s25 b16) (by decide +kernel) (by repeat (first | exact True.intro | refine And.intro rfl ?_)) (by first | exact Go.Sl.Cov.refl _ | (intro p; simp only [List.flatten_cons, List.flatten_nil, List.flatten_append, List.append_nil, List.nil_append, Go.Sl.cnt_append, Go.Sl.cnt_cons, Go.Sl.cnt_nil, List.set_cons_zero, List.set_cons_succ, List.length_nil, List.length_cons, Nat.zero_add, List.append]; omega))
      · exact aw_use hA (s45 b15 b16) (by decide +kernel) (by repeat (first | exact True.intro | refine And.intro rfl ?_)) (show Cov _ ([(b15, .cells ((FrM.zero 0).rcells FrP.nil).toArray 53 (0, 0))] :: _) from (by first | exact Go.Sl.Cov.refl _ | (intro p; simp only [List.flatten_cons, List.flatten_nil, List.flatten_append, List.append_nil, List.nil_append, Go.Sl.cnt_append, Go.Sl.cnt_cons, Go.Sl.cnt_nil, List.set_cons_zero, List.set_cons_succ, List.length_nil, List.length_cons, Nat.zero_add, List.append]; omega)))
    have s4 : ∀ (b15 : Nat), A [(15, .pointer (some ⟨b15, 0, none⟩))] [[(b15, .cells ((FrM.zero 0).rcells FrP.nil).toArray 53 (0, 0))]] 7 ((Array.replicate 8 false).setIfInBounds 4 true) := by
      intro b15
      refine (hA _ _ _ _).2 ?_
      refine Go.Sl.aw_step3 0 2 5 (by decide +kernel) rfl rfl rfl ?_ ?_ ?_
      refine Go.Sl.ow_val rfl rfl (Go.Sl.v_load rfl (Go.Sl.Var.atN Ty.ag30 (.there (.there (.there (.there (.there .here))))) Go.Sl.GetN.all (by first | rfl | assumption))) ?_
      refine Go.Sl.ow_nil ?_
      refine Go.Sl.xw_nx ?_
      rotate_left
      refine Go.Sl.ow_val rfl rfl (Go.Sl.v_load rfl (Go.Sl.Var.atN Ty.ag30 (.there (.there (.there (.there .here)))) Go.Sl.GetN.all (by first | rfl | assumption))) ?_
      refine Go.Sl.ow_nil ?_
      refine Go.Sl.xw_nx ?_
      rotate_left
      (refine Go.Sl.ow_alloc rfl rfl Ty.ze53 ?_; intro b16)
      refine Go.Sl.ow_nil ?_
      refine Go.Sl.xw_nx ?_
      rotate_left
      · exact aw_use hA (s04 b15) (by decide +kernel) (by repeat (first | exact True.intro | refine And.intro rfl ?_)) (by first | exact Go.Sl.Cov.refl _ | (intro p; simp only [List.flatten_cons, List.flatten_nil, List.flatten_append, List.append_nil, List.nil_append, Go.Sl.cnt_append, Go.Sl.cnt_cons, Go.Sl.cnt_nil, List.set_cons_zero, List.set_cons_succ, List.length_nil, List.length_cons, Nat.zero_add, List.append]; omega))
      · exact aw_use hA (s24 b15) (by decide +kernel) (by repeat (first | exact True.intro | refine And.intro rfl ?_)) (by first | exact Go.Sl.Cov.refl _ | (intro p; simp only [List.flatten_cons, List.flatten_nil, List.flatten_append, List.append_nil, List.nil_append, Go.Sl.cnt_append, Go.Sl.cnt_cons, Go.Sl.cnt_nil, List.set_cons_zero, List.set_cons_succ, List.length_nil, List.length_cons, Nat.zero_add, List.append]; omega))
      · exact aw_use hA (s45 b15 b16) (by decide +kernel) (by repeat (first | exact True.intro | refine And.intro rfl ?_)) (show Cov _ ([(b16, .cells ((FrM.zero 0).rcells FrP.nil).toArray 53 (0, 0))] :: _) from (by first | exact Go.Sl.Cov.refl _ | (intro p; simp only [List.flatten_cons, List.flatten_nil, List.flatten_append, List.append_nil, List.nil_append, Go.Sl.cnt_append, Go.Sl.cnt_cons, Go.Sl.cnt_nil, List.set_cons_zero, List.set_cons_succ, List.length_nil, List.length_cons, Nat.zero_add, List.append]; omega)))
    have s2 : A [(78, .agg (g.cells q).toArray)] [] 7 ((Array.replicate 8 false).setIfInBounds 2 true) := by
      refine (hA _ _ _ _).2 ?_
      refine Go.Sl.aw_step3 0 4 5 (by decide +kernel) rfl rfl rfl ?_ ?_ ?_
      refine Go.Sl.ow_val rfl rfl (Go.Sl.v_load rfl (Go.Sl.Var.atN Ty.ag30 (.there (.there (.there (.there .here)))) Go.Sl.GetN.all (by first | rfl | assumption))) ?_
      refine Go.Sl.ow_nil ?_
      refine Go.Sl.xw_nx ?_
      rotate_left
      (refine Go.Sl.ow_alloc rfl rfl Ty.ze53 ?_; intro b15)
      refine Go.Sl.ow_nil ?_
      refine Go.Sl.xw_nx ?_
      rotate_left
      (refine Go.Sl.ow_alloc rfl rfl Ty.ze53 ?_; intro b16)
      refine Go.Sl.ow_nil ?_
      refine Go.Sl.xw_nx ?_
      rotate_left
      · exact aw_use hA (s02) (by decide +kernel) (by repeat (first | exact True.intro | refine And.intro rfl ?_)) (by first | exact Go.Sl.Cov.refl _ | (intro p; simp only [List.flatten_cons, List.flatten_nil, List.flatten_append, List.append_nil, List.nil_append, Go.Sl.cnt_append, Go.Sl.cnt_cons, Go.Sl.cnt_nil, List.set_cons_zero, List.set_cons_succ, List.length_nil, List.length_cons, Nat.zero_add, List.append]; omega))
      · exact aw_use hA (s24 b15) (by decide +kernel) (by repeat (first | exact True.intro | refine And.intro rfl ?_)) (show Cov _ ([(b15, .cells ((FrM.zero 0).rcells FrP.nil).toArray 53 (0, 0))] :: _) from (by first | exact Go.Sl.Cov.refl _ | (intro p; simp only [List.flatten_cons, List.flatten_nil, List.flatten_append, List.append_nil, List.nil_append, Go.Sl.cnt_append, Go.Sl.cnt_cons, Go.Sl.cnt_nil, List.set_cons_zero, List.set_cons_succ, List.length_nil, List.length_cons, Nat.zero_add, List.append]; omega)))
      · exact aw_use hA (s25 b16) (by decide +kernel) (by repeat (first | exact True.intro | refine And.intro rfl ?_)) (show Cov _ ([(b16, .cells ((FrM.zero 0).rcells FrP.nil).toArray 53 (0, 0))] :: _) from (by first | exact Go.Sl.Cov.refl _ | (intro p; simp only [List.flatten_cons, List.flatten_nil, List.flatten_append, List.append_nil, List.nil_append, Go.Sl.cnt_append, Go.Sl.cnt_cons, Go.Sl.cnt_nil, List.set_cons_zero, List.set_cons_succ, List.length_nil, List.length_cons, Nat.zero_add, List.append]; omega)))
    have s0 : A [(76, .agg (f.cells p).toArray)] [] 7 ((Array.replicate 8 false).setIfInBounds 0 true) := by
      refine (hA _ _ _ _).2 ?_
      refine Go.Sl.aw_step4 1 2 4 5 (by decide +kernel) rfl rfl rfl rfl ?_ ?_ ?_ ?_
      (refine Go.Sl.ow_call rfl rfl rfl rfl (frRef_c hf ((hF _).r.cov (by first | exact Go.Sl.Cov.refl _ | (intro p; simp only [List.flatten_cons, List.flatten_nil, List.flatten_append, List.append_nil, List.nil_append, Go.Sl.cnt_append, Go.Sl.cnt_cons, Go.Sl.cnt_nil, List.set_cons_zero, List.set_cons_succ, List.length_nil, List.length_cons, Nat.zero_add, List.append]; omega))) (by omega)) ?_; rintro _ _ ⟨x77, rfl, hq77, rfl⟩)
      refine Go.Sl.ow_nil ?_
      refine Go.Sl.xw_nx ?_
      rotate_left
      refine Go.Sl.ow_val rfl rfl (Go.Sl.v_load rfl (Go.Sl.Var.atN Ty.ag30 (.there (.there (.there .here))) Go.Sl.GetN.all (by first | rfl | assumption))) ?_
      refine Go.Sl.ow_nil ?_
      refine Go.Sl.xw_nx ?_
      rotate_left
      (refine Go.Sl.ow_alloc rfl rfl Ty.ze53 ?_; intro b15)
      refine Go.Sl.ow_nil ?_
      refine Go.Sl.xw_nx ?_
      rotate_left
      (refine Go.Sl.ow_alloc rfl rfl Ty.ze53 ?_; intro b16)
      refine Go.Sl.ow_nil ?_
      refine Go.Sl.xw_nx ?_
      rotate_left
      · exact aw_use hA (s01 x77 hq77) (by decide +kernel) (by repeat (first | exact True.intro | refine And.intro rfl ?_)) (by first | exact Go.Sl.Cov.refl _ | (intro p; simp only [List.flatten_cons, List.flatten_nil, List.flatten_append, List.append_nil, List.nil_append, Go.Sl.cnt_append, Go.Sl.cnt_cons, Go.Sl.cnt_nil, List.set_cons_zero, List.set_cons_succ, List.length_nil, List.length_cons, Nat.zero_add, List.append]; omega))
      · exact aw_use hA (s02) (by decide +kernel) (by repeat (first | exact True.intro | refine And.intro rfl ?_)) (by first | exact Go.Sl.Cov.refl _ | (intro p; simp only [List.flatten_cons, List.flatten_nil, List.flatten_append, List.append_nil, List.nil_append, Go.Sl.cnt_append, Go.Sl.cnt_cons, Go.Sl.cnt_nil, List.set_cons_zero, List.set_cons_succ, List.length_nil, List.length_cons, Nat.zero_add, List.append]; omega))
      · exact aw_use hA (s04 b15) (by decide +kernel) (by repeat (first | exact True.intro | refine And.intro rfl ?_)) (show Cov _ ([(b15, .cells ((FrM.zero 0).rcells FrP.nil).toArray 53 (0, 0))] :: _) from (by first | exact Go.Sl.Cov.refl _ | (intro p; simp only [List.flatten_cons, List.flatten_nil, List.flatten_append, List.append_nil, List.nil_append, Go.Sl.cnt_append, Go.Sl.cnt_cons, Go.Sl.cnt_nil, List.set_cons_zero, List.set_cons_succ, List.length_nil, List.length_cons, Nat.zero_add, List.append]; omega)))
      · exact aw_use hA (s05 b16) (by decide +kernel) (by repeat (first | exact True.intro | refine And.intro rfl ?_)) (show Cov _ ([(b16, .cells ((FrM.zero 0).rcells FrP.nil).toArray 53 (0, 0))] :: _) from (by first | exact Go.Sl.Cov.refl _ | (intro p; simp only [List.flatten_cons, List.flatten_nil, List.flatten_append, List.append_nil, List.nil_append, Go.Sl.cnt_append, Go.Sl.cnt_cons, Go.Sl.cnt_nil, List.set_cons_zero, List.set_cons_succ, List.length_nil, List.length_cons, Nat.zero_add, List.append]; omega)))
    have s : A [] [] 8 (Array.replicate 8 false) := by
      refine (hA _ _ _ _).2 ?_
      refine Go.Sl.aw_step4 0 2 4 5 (by decide +kernel) rfl rfl rfl rfl ?_ ?_ ?_ ?_
      refine Go.Sl.ow_val rfl rfl (Go.Sl.v_load rfl (Go.Sl.Var.atN Ty.ag30 (.there (.there (.there (.there .here)))) Go.Sl.GetN.all (by first | rfl | assumption))) ?_
      refine Go.Sl.ow_nil ?_
      refine Go.Sl.xw_nx ?_
      rotate_left
      refine Go.Sl.ow_val rfl rfl (Go.Sl.v_load rfl (Go.Sl.Var.atN Ty.ag30 (.there (.there (.there .here))) Go.Sl.GetN.all (by first | rfl | assumption))) ?_
      refine Go.Sl.ow_nil ?_
      refine Go.Sl.xw_nx ?_
      rotate_left
      (refine Go.Sl.ow_alloc rfl rfl Ty.ze53 ?_; intro b15)
      refine Go.Sl.ow_nil ?_
      refine Go.Sl.xw_nx ?_
      rotate_left
      (refine Go.Sl.ow_alloc rfl rfl Ty.ze53 ?_; intro b16)
      refine Go.Sl.ow_nil ?_
      refine Go.Sl.xw_nx ?_
      rotate_left
      · exact aw_use hA (s0) (by decide +kernel) (by repeat (first | exact True.intro | refine And.intro rfl ?_)) (by first | exact Go.Sl.Cov.refl _ | (intro p; simp only [List.flatten_cons, List.flatten_nil, List.flatten_append, List.append_nil, List.nil_append, Go.Sl.cnt_append, Go.Sl.cnt_cons, Go.Sl.cnt_nil, List.set_cons_zero, List.set_cons_succ, List.length_nil, List.length_cons, Nat.zero_add, List.append]; omega))
      · exact aw_use hA (s2) (by decide +kernel) (by repeat (first | exact True.intro | refine And.intro rfl ?_)) (by first | exact Go.Sl.Cov.refl _ | (intro p; simp only [List.flatten_cons, List.flatten_nil, List.flatten_append, List.append_nil, List.nil_append, Go.Sl.cnt_append, Go.Sl.cnt_cons, Go.Sl.cnt_nil, List.set_cons_zero, List.set_cons_succ, List.length_nil, List.length_cons, Nat.zero_add, List.append]; omega))
      · exact aw_use hA (s4 b15) (by decide +kernel) (by repeat (first | exact True.intro | refine And.intro rfl ?_)) (show Cov _ ([(b15, .cells ((FrM.zero 0).rcells FrP.nil).toArray 53 (0, 0))] :: _) from (by first | exact Go.Sl.Cov.refl _ | (intro p; simp only [List.flatten_cons, List.flatten_nil, List.flatten_append, List.append_nil, List.nil_append, Go.Sl.cnt_append, Go.Sl.cnt_cons, Go.Sl.cnt_nil, List.set_cons_zero, List.set_cons_succ, List.length_nil, List.length_cons, Nat.zero_add, List.append]; omega)))
      · exact aw_use hA (s5 b16) (by decide +kernel) (by repeat (first | exact True.intro | refine And.intro rfl ?_)) (show Cov _ ([(b16, .cells ((FrM.zero 0).rcells FrP.nil).toArray 53 (0, 0))] :: _) from (by first | exact Go.Sl.Cov.refl _ | (intro p; simp only [List.flatten_cons, List.flatten_nil, List.flatten_append, List.append_nil, List.nil_append, Go.Sl.cnt_append, Go.Sl.cnt_cons, Go.Sl.cnt_nil, List.set_cons_zero, List.set_cons_succ, List.length_nil, List.length_cons, Nat.zero_add, List.append]; omega)))
    exact s
  rintro ⟨⟨ra, rc, rg⟩, ⟨sa, sc, sg⟩, b15, b16⟩ ⟨hLf, hLg⟩
  dsimp only at hLf hLg ⊢
  refine Go.Sl.cw_cut2 (ι := (Unit)) [(3, _), (4, _), (5, _), (6, _), (10, _), (12, _), (13, _), (14, _)] ⟨rfl, rfl, rfl, rfl, rfl, rfl, rfl, rfl, trivial⟩ ((fun _ => [(17, .bool (sameF f g))])) ((fun _ => True)) ((fun _ => [(b15, .cells (f.rcells { p with ra := ra, rc := rc }).toArray 53 (0, 0))] :: [(b16, .cells (g.rcells { q with ra := sa, rc := sc }).toArray 53 (0, 0))] :: rg :: sg :: c69 :: [(b14, .cells (({ f with cod := IntKind.u64.wrap (f.cod + 1) } : FrM).cells { p with da := ao69, dc := cap69 }).toArray 30 (0, 0))] :: [(b13, .cells (f.cells { p with da := ao69, dc := cap69 }).toArray 30 (0, 0))] :: [(b5, .cells (g.cells q).toArray 30 (0, 0))] :: [(b4, .cells (f.cells p).toArray 30 (0, 0))] :: [(b3, .cells [Value.int .u8 k].toArray 5 (0, 0))] :: F)) ?_ ?_
  · have t1 : (f.tok.map u8V).length = 16 := by rw [List.length_map]; exact hf.tok
    have t2 : (g.tok.map u8V).length = 16 := by rw [List.length_map]; exact hg.tok
    have t3 : (f.wd.map u8V).length = 8 := by rw [List.length_map]; exact hf.wd
    have t4 : (g.wd.map u8V).length = 8 := by rw [List.length_map]; exact hg.wd
    have hb1 : ∀ {a b : List UInt8}, ((⟨a.toArray⟩ : ByteArray) = ⟨b.toArray⟩) = (a = b) := fun {a b} => propext ba_eq
    refine Go.Sl.cw_region ?_
    dsimp only [List.append]
    refine Go.Sl.ow_val rfl rfl (Go.Sl.v_fieldAddr0 Ty.fd53_0 rfl) ?_
    refine Go.Sl.ow_val rfl rfl (Go.Sl.v_load rfl (Go.Sl.Var.at1 Ty.sc3 .here (Go.Sl.GetN.lit rfl))) ?_
    refine Go.Sl.ow_val rfl rfl (Go.Sl.v_fieldAddr0 Ty.fd53_0 rfl) ?_
    refine Go.Sl.ow_val rfl rfl (Go.Sl.v_load rfl (Go.Sl.Var.at1 Ty.sc3 (.there .here) (Go.Sl.GetN.lit rfl))) ?_
    refine Go.Sl.ow_val rfl rfl (Go.Sl.v_eql rfl rfl) ?_
    refine Go.Sl.ow_val rfl rfl (Go.Sl.v_move rfl) ?_
    refine Go.Sl.ow_dec 85 rfl (fun hc85 => ?_) (fun hc85 => ?_)
    refine Go.Sl.ow_val rfl rfl (Go.Sl.v_fieldAddr0 Ty.fd53_1 rfl) ?_
    refine Go.Sl.ow_val rfl rfl (Go.Sl.v_load rfl (Go.Sl.Var.at1 Ty.sc22 .here (Go.Sl.GetN.lit rfl))) ?_
    refine Go.Sl.ow_val rfl rfl (Go.Sl.v_fieldAddr0 Ty.fd53_1 rfl) ?_
    refine Go.Sl.ow_val rfl rfl (Go.Sl.v_load rfl (Go.Sl.Var.at1 Ty.sc22 (.there .here) (Go.Sl.GetN.lit rfl))) ?_
    refine Go.Sl.ow_val rfl rfl (Go.Sl.v_eql rfl rfl) ?_
    refine Go.Sl.ow_val rfl rfl (Go.Sl.v_pick_true rfl rfl) ?_
    refine Go.Sl.ow_val rfl rfl (Go.Sl.v_move rfl) ?_
    refine Go.Sl.ow_dec 92 rfl (fun hc92 => ?_) (fun hc92 => ?_)
    refine Go.Sl.ow_val rfl rfl (Go.Sl.v_fieldAddr0 Ty.fd53_2 rfl) ?_
    refine Go.Sl.ow_val rfl rfl (Go.Sl.v_load rfl (Go.Sl.Var.at1 Ty.sc22 .here (Go.Sl.GetN.lit rfl))) ?_
    refine Go.Sl.ow_val rfl rfl (Go.Sl.v_fieldAddr0 Ty.fd53_2 rfl) ?_
    refine Go.Sl.ow_val rfl rfl (Go.Sl.v_load rfl (Go.Sl.Var.at1 Ty.sc22 (.there .here) (Go.Sl.GetN.lit rfl))) ?_
    refine Go.Sl.ow_val rfl rfl (Go.Sl.v_eql rfl rfl) ?_
    refine Go.Sl.ow_val rfl rfl (Go.Sl.v_pick_true rfl rfl) ?_
    refine Go.Sl.ow_val rfl rfl (Go.Sl.v_move rfl) ?_
    refine Go.Sl.ow_dec 99 rfl (fun hc99 => ?_) (fun hc99 => ?_)
    refine Go.Sl.ow_val rfl rfl (Go.Sl.v_fieldAddr0 Ty.fd53_3 rfl) ?_
    refine Go.Sl.ow_val rfl rfl (Go.Sl.v_load rfl (Go.Sl.Var.at1 Ty.sc22 .here (Go.Sl.GetN.lit rfl))) ?_
    refine Go.Sl.ow_val rfl rfl (Go.Sl.v_fieldAddr0 Ty.fd53_3 rfl) ?_
    refine Go.Sl.ow_val rfl rfl (Go.Sl.v_load rfl (Go.Sl.Var.at1 Ty.sc22 (.there .here) (Go.Sl.GetN.lit rfl))) ?_
    refine Go.Sl.ow_val rfl rfl (Go.Sl.v_eql rfl rfl) ?_
    refine Go.Sl.ow_val rfl rfl (Go.Sl.v_pick_true rfl rfl) ?_
    refine Go.Sl.ow_val rfl rfl (Go.Sl.v_move rfl) ?_
    refine Go.Sl.ow_dec 106 rfl (fun hc106 => ?_) (fun hc106 => ?_)
    refine Go.Sl.ow_val rfl rfl (Go.Sl.v_fieldAddr0 Ty.fd53_4 rfl) ?_
    refine Go.Sl.ow_val rfl rfl (Go.Sl.v_load rfl (Go.Sl.Var.at1 Ty.sc22 .here (Go.Sl.GetN.lit rfl))) ?_
    refine Go.Sl.ow_val rfl rfl (Go.Sl.v_fieldAddr0 Ty.fd53_4 rfl) ?_
    refine Go.Sl.ow_val rfl rfl (Go.Sl.v_load rfl (Go.Sl.Var.at1 Ty.sc22 (.there .here) (Go.Sl.GetN.lit rfl))) ?_
    refine Go.Sl.ow_val rfl rfl (Go.Sl.v_eql rfl rfl) ?_
    refine Go.Sl.ow_val rfl rfl (Go.Sl.v_pick_true rfl rfl) ?_
    refine Go.Sl.ow_val rfl rfl (Go.Sl.v_move rfl) ?_
    refine Go.Sl.ow_dec 113 rfl (fun hc113 => ?_) (fun hc113 => ?_)
    refine Go.Sl.ow_val rfl rfl (Go.Sl.v_fieldAddr0 Ty.fd53_5 rfl) ?_
    refine Go.Sl.ow_val rfl rfl (Go.Sl.v_load rfl (Go.Sl.Var.at1 Ty.sc23 .here (Go.Sl.GetN.lit rfl))) ?_
    refine Go.Sl.ow_val rfl rfl (Go.Sl.v_str Try.underlying9 Try.underlying23 Try.underlying5 rfl (((hF _).d.cov (by first | exact Go.Sl.Cov.refl _ | (intro p; simp only [List.flatten_cons, List.flatten_nil, List.flatten_append, List.append_nil, List.nil_append, Go.Sl.cnt_append, Go.Sl.cnt_cons, Go.Sl.cnt_nil, List.set_cons_zero, List.set_cons_succ, List.length_nil, List.length_cons, Nat.zero_add, List.append]; omega))))) ?_
    refine Go.Sl.ow_val rfl rfl (Go.Sl.v_fieldAddr0 Ty.fd53_5 rfl) ?_
    refine Go.Sl.ow_val rfl rfl (Go.Sl.v_load rfl (Go.Sl.Var.at1 Ty.sc23 (.there .here) (Go.Sl.GetN.lit rfl))) ?_
    refine Go.Sl.ow_val rfl rfl (Go.Sl.v_str Try.underlying9 Try.underlying23 Try.underlying5 rfl (((hG _).d.cov (by first | exact Go.Sl.Cov.refl _ | (intro p; simp only [List.flatten_cons, List.flatten_nil, List.flatten_append, List.append_nil, List.nil_append, Go.Sl.cnt_append, Go.Sl.cnt_cons, Go.Sl.cnt_nil, List.set_cons_zero, List.set_cons_succ, List.length_nil, List.length_cons, Nat.zero_add, List.append]; omega))))) ?_
    refine Go.Sl.ow_val rfl rfl (Go.Sl.v_eqlS rfl rfl) ?_
    refine Go.Sl.ow_val rfl rfl (Go.Sl.v_pick_true rfl rfl) ?_
    refine Go.Sl.ow_val rfl rfl (Go.Sl.v_move rfl) ?_
    refine Go.Sl.ow_dec 122 rfl (fun hc122 => ?_) (fun hc122 => ?_)
    refine Go.Sl.ow_val rfl rfl (Go.Sl.v_fieldAddr0 Ty.fd53_6 rfl) ?_
    refine Go.Sl.ow_val rfl rfl (Go.Sl.v_load rfl (Go.Sl.Var.at1 Ty.sc4 .here (Go.Sl.GetN.lit rfl))) ?_
    refine Go.Sl.ow_val rfl rfl (Go.Sl.v_fieldAddr0 Ty.fd53_6 rfl) ?_
    refine Go.Sl.ow_val rfl rfl (Go.Sl.v_load rfl (Go.Sl.Var.at1 Ty.sc4 (.there .here) (Go.Sl.GetN.lit rfl))) ?_
    refine Go.Sl.ow_val rfl rfl (Go.Sl.v_eqlB Try.underlying4 rfl rfl) ?_
    refine Go.Sl.ow_val rfl rfl (Go.Sl.v_pick_true rfl rfl) ?_
    refine Go.Sl.ow_val rfl rfl (Go.Sl.v_move rfl) ?_
    refine Go.Sl.ow_dec 129 rfl (fun hc129 => ?_) (fun hc129 => ?_)
    refine Go.Sl.ow_val rfl rfl (Go.Sl.v_fieldAddr0 Ty.fd53_8 rfl) ?_
    refine Go.Sl.ow_val rfl rfl (Go.Sl.v_load rfl (Go.Sl.Var.at1 Ty.sc22 .here (Go.Sl.GetN.lit rfl))) ?_
    refine Go.Sl.ow_val rfl rfl (Go.Sl.v_fieldAddr0 Ty.fd53_8 rfl) ?_
    refine Go.Sl.ow_val rfl rfl (Go.Sl.v_load rfl (Go.Sl.Var.at1 Ty.sc22 (.there .here) (Go.Sl.GetN.lit rfl))) ?_
    refine Go.Sl.ow_val rfl rfl (Go.Sl.v_eql rfl rfl) ?_
    refine Go.Sl.ow_val rfl rfl (Go.Sl.v_pick_true rfl rfl) ?_
    refine Go.Sl.ow_val rfl rfl (Go.Sl.v_move rfl) ?_
    refine Go.Sl.ow_dec 136 rfl (fun hc136 => ?_) (fun hc136 => ?_)
    refine Go.Sl.ow_val rfl rfl (Go.Sl.v_fieldAddr0 Ty.fd53_9 rfl) ?_
    refine Go.Sl.ow_val rfl rfl (Go.Sl.v_load rfl (Go.Sl.Var.atN Ty.ag28 .here (get_recn) (by first | rfl | assumption))) ?_
    refine Go.Sl.ow_val rfl rfl (Go.Sl.v_fieldAddr0 Ty.fd53_9 rfl) ?_
    refine Go.Sl.ow_val rfl rfl (Go.Sl.v_load rfl (Go.Sl.Var.atN Ty.ag28 (.there .here) (get_recn) (by first | rfl | assumption))) ?_
    refine Go.Sl.ow_val rfl rfl (Go.Sl.v_eqlA rfl rfl Ty.gt28 (ecn_eq)) ?_
    refine Go.Sl.ow_val rfl rfl (Go.Sl.v_pick_true rfl rfl) ?_
    refine Go.Sl.ow_val rfl rfl (Go.Sl.v_move rfl) ?_
    refine Go.Sl.ow_dec 143 rfl (fun hc143 => ?_) (fun hc143 => ?_)
    refine Go.Sl.ow_val rfl rfl (Go.Sl.v_fieldAddr0 Ty.fd53_10 rfl) ?_
    refine Go.Sl.ow_val rfl rfl (Go.Sl.v_load rfl (Go.Sl.Var.at1 Ty.sc22 .here (Go.Sl.GetN.lit rfl))) ?_
    refine Go.Sl.ow_val rfl rfl (Go.Sl.v_fieldAddr0 Ty.fd53_10 rfl) ?_
    refine Go.Sl.ow_val rfl rfl (Go.Sl.v_load rfl (Go.Sl.Var.at1 Ty.sc22 (.there .here) (Go.Sl.GetN.lit rfl))) ?_
    refine Go.Sl.ow_val rfl rfl (Go.Sl.v_eql rfl rfl) ?_
    refine Go.Sl.ow_val rfl rfl (Go.Sl.v_pick_true rfl rfl) ?_
    refine Go.Sl.ow_val rfl rfl (Go.Sl.v_move rfl) ?_
    refine Go.Sl.ow_dec 150 rfl (fun hc150 => ?_) (fun hc150 => ?_)
    refine Go.Sl.ow_val rfl rfl (Go.Sl.v_fieldAddr0 Ty.fd53_11 rfl) ?_
    refine Go.Sl.ow_val rfl rfl (Go.Sl.v_load rfl (Go.Sl.Var.at1 Ty.sc22 .here (Go.Sl.GetN.lit rfl))) ?_
    refine Go.Sl.ow_val rfl rfl (Go.Sl.v_fieldAddr0 Ty.fd53_11 rfl) ?_
    refine Go.Sl.ow_val rfl rfl (Go.Sl.v_load rfl (Go.Sl.Var.at1 Ty.sc22 (.there .here) (Go.Sl.GetN.lit rfl))) ?_
    refine Go.Sl.ow_val rfl rfl (Go.Sl.v_eql rfl rfl) ?_
    refine Go.Sl.ow_val rfl rfl (Go.Sl.v_pick_true rfl rfl) ?_
    refine Go.Sl.ow_val rfl rfl (Go.Sl.v_move rfl) ?_
    refine Go.Sl.ow_dec 157 rfl (fun hc157 => ?_) (fun hc157 => ?_)
    refine Go.Sl.ow_val rfl rfl (Go.Sl.v_fieldAddr0 Ty.fd53_12 rfl) ?_
    refine Go.Sl.ow_val rfl rfl (Go.Sl.v_load rfl (Go.Sl.Var.at1 Ty.sc23 .here (Go.Sl.GetN.lit rfl))) ?_
    refine Go.Sl.ow_val rfl rfl (Go.Sl.v_str Try.underlying9 Try.underlying23 Try.underlying5 rfl (((hF _).i.cov (by first | exact Go.Sl.Cov.refl _ | (intro p; simp only [List.flatten_cons, List.flatten_nil, List.flatten_append, List.append_nil, List.nil_append, Go.Sl.cnt_append, Go.Sl.cnt_cons, Go.Sl.cnt_nil, List.set_cons_zero, List.set_cons_succ, List.length_nil, List.length_cons, Nat.zero_add, List.append]; omega))))) ?_
    refine Go.Sl.ow_val rfl rfl (Go.Sl.v_fieldAddr0 Ty.fd53_12 rfl) ?_
    refine Go.Sl.ow_val rfl rfl (Go.Sl.v_load rfl (Go.Sl.Var.at1 Ty.sc23 (.there .here) (Go.Sl.GetN.lit rfl))) ?_
    refine Go.Sl.ow_val rfl rfl (Go.Sl.v_str Try.underlying9 Try.underlying23 Try.underlying5 rfl (((hG _).i.cov (by first | exact Go.Sl.Cov.refl _ | (intro p; simp only [List.flatten_cons, List.flatten_nil, List.flatten_append, List.append_nil, List.nil_append, Go.Sl.cnt_append, Go.Sl.cnt_cons, Go.Sl.cnt_nil, List.set_cons_zero, List.set_cons_succ, List.length_nil, List.length_cons, Nat.zero_add, List.append]; omega))))) ?_
    refine Go.Sl.ow_val rfl rfl (Go.Sl.v_eqlS rfl rfl) ?_
    refine Go.Sl.ow_val rfl rfl (Go.Sl.v_pick_true rfl rfl) ?_
    refine Go.Sl.ow_val rfl rfl (Go.Sl.v_move rfl) ?_
    refine Go.Sl.ow_dec 166 rfl (fun hc166 => ?_) (fun hc166 => ?_)
    refine Go.Sl.ow_val rfl rfl (Go.Sl.v_fieldAddr0 Ty.fd53_13 rfl) ?_
    refine Go.Sl.ow_val rfl rfl (Go.Sl.v_load rfl (Go.Sl.Var.atN Ty.ag25 .here (get_rtok) (by first | rfl | assumption))) ?_
    refine Go.Sl.ow_val rfl rfl (Go.Sl.v_fieldAddr0 Ty.fd53_13 rfl) ?_
    refine Go.Sl.ow_val rfl rfl (Go.Sl.v_load rfl (Go.Sl.Var.atN Ty.ag25 (.there .here) (get_rtok) (by first | rfl | assumption))) ?_
    refine Go.Sl.ow_val rfl rfl (Go.Sl.v_eqlA rfl rfl Ty.gt25 ((u8s_eq Try.underlying25 hf.tok hg.tok))) ?_
    refine Go.Sl.ow_val rfl rfl (Go.Sl.v_pick_true rfl rfl) ?_
    refine Go.Sl.ow_val rfl rfl (Go.Sl.v_move rfl) ?_
    refine Go.Sl.ow_dec 173 rfl (fun hc173 => ?_) (fun hc173 => ?_)
    refine Go.Sl.ow_val rfl rfl (Go.Sl.v_fieldAddr0 Ty.fd53_14 rfl) ?_
    refine Go.Sl.ow_val rfl rfl (Go.Sl.v_load rfl (Go.Sl.Var.atN Ty.ag24 .here ((get_rwd hf.tok)) (by first | rfl | assumption))) ?_
    refine Go.Sl.ow_val rfl rfl (Go.Sl.v_fieldAddr0 Ty.fd53_14 rfl) ?_
    refine Go.Sl.ow_val rfl rfl (Go.Sl.v_load rfl (Go.Sl.Var.atN Ty.ag24 (.there .here) ((get_rwd hg.tok)) (by first | rfl | assumption))) ?_
    refine Go.Sl.ow_val rfl rfl (Go.Sl.v_eqlA rfl rfl Ty.gt24 ((u8s_eq Try.underlying24 hf.wd hg.wd))) ?_
    refine Go.Sl.ow_val rfl rfl (Go.Sl.v_pick_true rfl rfl) ?_
    refine Go.Sl.ow_val rfl rfl (Go.Sl.v_move rfl) ?_
    refine Go.Sl.ow_dec 180 rfl (fun hc180 => ?_) (fun hc180 => ?_)
    refine Go.Sl.ow_val rfl rfl (Go.Sl.v_fieldAddr0 Ty.fd53_7 rfl) ?_
    refine Go.Sl.ow_val rfl rfl (Go.Sl.v_load rfl (Go.Sl.Var.at1 Ty.sc51 .here (Go.Sl.GetN.lit rfl))) ?_
    refine Go.Sl.ow_val rfl rfl (Go.Sl.v_fieldAddr0 Ty.fd53_7 rfl) ?_
    refine Go.Sl.ow_val rfl rfl (Go.Sl.v_load rfl (Go.Sl.Var.at1 Ty.sc51 (.there .here) (Go.Sl.GetN.lit rfl))) ?_
    refine Go.Sl.ow_val rfl rfl (Go.Sl.v_call rfl rfl (sameRs_c (Go.Sl.Ls.vw hLf (by repeat (first | exact Go.Sl.Sub.here | assumption | refine Go.Sl.Sub.there ?_))) (Go.Sl.Ls.vw hLg (by repeat (first | exact Go.Sl.Sub.here | assumption | refine Go.Sl.Sub.there ?_))) (by omega))) ?_
    refine Go.Sl.ow_val rfl rfl (Go.Sl.v_pick_true rfl rfl) ?_
    refine Go.Sl.ow_val rfl rfl (Go.Sl.v_assign rfl) ?_
    refine Go.Sl.ow_nil ?_
    rotate_left
    refine Go.Sl.ow_skip rfl rfl ?_
    refine Go.Sl.ow_skip rfl rfl ?_
    refine Go.Sl.ow_skip rfl rfl ?_
    refine Go.Sl.ow_skip rfl rfl ?_
    refine Go.Sl.ow_skip rfl rfl ?_
    refine Go.Sl.ow_val rfl rfl (Go.Sl.v_pick_false rfl rfl) ?_
    refine Go.Sl.ow_val rfl rfl (Go.Sl.v_assign rfl) ?_
    refine Go.Sl.ow_nil ?_
    rotate_left
    refine Go.Sl.ow_skip rfl rfl ?_
    refine Go.Sl.ow_skip rfl rfl ?_
    refine Go.Sl.ow_skip rfl rfl ?_
    refine Go.Sl.ow_skip rfl rfl ?_
    refine Go.Sl.ow_skip rfl rfl ?_
    refine Go.Sl.ow_val rfl rfl (Go.Sl.v_pick_false rfl rfl) ?_
    refine Go.Sl.ow_val rfl rfl (Go.Sl.v_move rfl) ?_
    refine Go.Sl.ow_skip rfl rfl ?_
    refine Go.Sl.ow_skip rfl rfl ?_
    refine Go.Sl.ow_skip rfl rfl ?_
    refine Go.Sl.ow_skip rfl rfl ?_
    refine Go.Sl.ow_skip rfl rfl ?_
    refine Go.Sl.ow_val rfl rfl (Go.Sl.v_pick_false rfl rfl) ?_
    refine Go.Sl.ow_val rfl rfl (Go.Sl.v_assign rfl) ?_
    refine Go.Sl.ow_nil ?_
    rotate_left
    refine Go.Sl.ow_skip rfl rfl ?_
    refine Go.Sl.ow_skip rfl rfl ?_
    refine Go.Sl.ow_skip rfl rfl ?_
    refine Go.Sl.ow_skip rfl rfl ?_
    refine Go.Sl.ow_skip rfl rfl ?_
    refine Go.Sl.ow_val rfl rfl (Go.Sl.v_pick_false rfl rfl) ?_
    refine Go.Sl.ow_val rfl rfl (Go.Sl.v_move rfl) ?_
    refine Go.Sl.ow_skip rfl rfl ?_
    refine Go.Sl.ow_skip rfl rfl ?_
    refine Go.Sl.ow_skip rfl rfl ?_
    refine Go.Sl.ow_skip rfl rfl ?_
    refine Go.Sl.ow_skip rfl rfl ?_
    refine Go.Sl.ow_val rfl rfl (Go.Sl.v_pick_false rfl rfl) ?_
    refine Go.Sl.ow_val rfl rfl (Go.Sl.v_move rfl) ?_
    refine Go.Sl.ow_skip rfl rfl ?_
    refine Go.Sl.ow_skip rfl rfl ?_
    refine Go.Sl.ow_skip rfl rfl ?_
    refine Go.Sl.ow_skip rfl rfl ?_
    refine Go.Sl.ow_skip rfl rfl ?_
    refine Go.Sl.ow_val rfl rfl (Go.Sl.v_pick_false rfl rfl) ?_
    refine Go.Sl.ow_val rfl rfl (Go.Sl.v_assign rfl) ?_
    refine Go.Sl.ow_nil ?_
    rotate_left
    refine Go.Sl.ow_skip rfl rfl ?_
    refine Go.Sl.ow_skip rfl rfl ?_
    refine Go.Sl.ow_skip rfl rfl ?_
    refine Go.Sl.ow_skip rfl rfl ?_
    refine Go.Sl.ow_skip rfl rfl ?_
    refine Go.Sl.ow_skip rfl rfl ?_
    refine Go.Sl.ow_skip rfl rfl ?_
    refine Go.Sl.ow_val rfl rfl (Go.Sl.v_pick_false rfl rfl) ?_
    refine Go.Sl.ow_val rfl rfl (Go.Sl.v_move rfl) ?_
    refine Go.Sl.ow_skip rfl rfl ?_
    refine Go.Sl.ow_skip rfl rfl ?_
    refine Go.Sl.ow_skip rfl rfl ?_
    refine Go.Sl.ow_skip rfl rfl ?_
    refine Go.Sl.ow_skip rfl rfl ?_
    refine Go.Sl.ow_val rfl rfl (Go.Sl.v_pick_false rfl rfl) ?_
    refine Go.Sl.ow_val rfl rfl (Go.Sl.v_move rfl) ?_
    refine Go.Sl.ow_skip rfl rfl ?_
    refine Go.Sl.ow_skip rfl rfl ?_
    refine Go.Sl.ow_skip rfl rfl ?_
    refine Go.Sl.ow_skip rfl rfl ?_
    refine Go.Sl.ow_skip rfl rfl ?_
    refine Go.Sl.ow_val rfl rfl (Go.Sl.v_pick_false rfl rfl) ?_
    refine Go.Sl.ow_val rfl rfl (Go.Sl.v_move rfl) ?_
    refine Go.Sl.ow_skip rfl rfl ?_
    refine Go.Sl.ow_skip rfl rfl ?_
    refine Go.Sl.ow_skip rfl rfl ?_
    refine Go.Sl.ow_skip rfl rfl ?_
    refine Go.Sl.ow_skip rfl rfl ?_
    refine Go.Sl.ow_val rfl rfl (Go.Sl.v_pick_false rfl rfl) ?_
    refine Go.Sl.ow_val rfl rfl (Go.Sl.v_assign rfl) ?_
    refine Go.Sl.ow_nil ?_
    rotate_left
    refine Go.Sl.ow_skip rfl rfl ?_
    refine Go.Sl.ow_skip rfl rfl ?_
    refine Go.Sl.ow_skip rfl rfl ?_
    refine Go.Sl.ow_skip rfl rfl ?_
    refine Go.Sl.ow_skip rfl rfl ?_
    refine Go.Sl.ow_val rfl rfl (Go.Sl.v_pick_false rfl rfl) ?_
    refine Go.Sl.ow_val rfl rfl (Go.Sl.v_move rfl) ?_
    refine Go.Sl.ow_skip rfl rfl ?_
    refine Go.Sl.ow_skip rfl rfl ?_
    refine Go.Sl.ow_skip rfl rfl ?_
    refine Go.Sl.ow_skip rfl rfl ?_
    refine Go.Sl.ow_skip rfl rfl ?_
    refine Go.Sl.ow_skip rfl rfl ?_
    refine Go.Sl.ow_skip rfl rfl ?_
    refine Go.Sl.ow_val rfl rfl (Go.Sl.v_pick_false rfl rfl) ?_
    refine Go.Sl.ow_val rfl rfl (Go.Sl.v_move rfl) ?_
    refine Go.Sl.ow_skip rfl rfl ?_
    refine Go.Sl.ow_skip rfl rfl ?_
    refine Go.Sl.ow_skip rfl rfl ?_
    refine Go.Sl.ow_skip rfl rfl ?_
    refine Go.Sl.ow_skip rfl rfl ?_
    refine Go.Sl.ow_val rfl rfl (Go.Sl.v_pick_false rfl rfl) ?_
    refine Go.Sl.ow_val rfl rfl (Go.Sl.v_move rfl) ?_
    refine Go.Sl.ow_skip rfl rfl ?_
    refine Go.Sl.ow_skip rfl rfl ?_
    refine Go.Sl.ow_skip rfl rfl ?_
    refine Go.Sl.ow_skip rfl rfl ?_
    refine Go.Sl.ow_skip rfl rfl ?_
    refine Go.Sl.ow_val rfl rfl (Go.Sl.v_pick_false rfl rfl) ?_
    refine Go.Sl.ow_val rfl rfl (Go.Sl.v_move rfl) ?_
    refine Go.Sl.ow_skip rfl rfl ?_
    refine Go.Sl.ow_skip rfl rfl ?_
    refine Go.Sl.ow_skip rfl rfl ?_
    refine Go.Sl.ow_skip rfl rfl ?_
    refine Go.Sl.ow_skip rfl rfl ?_
    refine Go.Sl.ow_val rfl rfl (Go.Sl.v_pick_false rfl rfl) ?_
    refine Go.Sl.ow_val rfl rfl (Go.Sl.v_assign rfl) ?_
    refine Go.Sl.ow_nil ?_
    rotate_left
    refine Go.Sl.ow_skip rfl rfl ?_
    refine Go.Sl.ow_skip rfl rfl ?_
    refine Go.Sl.ow_skip rfl rfl ?_
    refine Go.Sl.ow_skip rfl rfl ?_
    refine Go.Sl.ow_skip rfl rfl ?_
    refine Go.Sl.ow_val rfl rfl (Go.Sl.v_pick_false rfl rfl) ?_
    refine Go.Sl.ow_val rfl rfl (Go.Sl.v_move rfl) ?_
    refine Go.Sl.ow_skip rfl rfl ?_
    refine Go.Sl.ow_skip rfl rfl ?_
    refine Go.Sl.ow_skip rfl rfl ?_
    refine Go.Sl.ow_skip rfl rfl ?_
    refine Go.Sl.ow_skip rfl rfl ?_
    refine Go.Sl.ow_val rfl rfl (Go.Sl.v_pick_false rfl rfl) ?_
    refine Go.Sl.ow_val rfl rfl (Go.Sl.v_move rfl) ?_
    refine Go.Sl.ow_skip rfl rfl ?_
    refine Go.Sl.ow_skip rfl rfl ?_
    refine Go.Sl.ow_skip rfl rfl ?_
    refine Go.Sl.ow_skip rfl rfl ?_
    refine Go.Sl.ow_skip rfl rfl ?_
    refine Go.Sl.ow_skip rfl rfl ?_
    refine Go.Sl.ow_skip rfl rfl ?_
    refine Go.Sl.ow_val rfl rfl (Go.Sl.v_pick_false rfl rfl) ?_
    refine Go.Sl.ow_val rfl rfl (Go.Sl.v_move rfl) ?_
    refine Go.Sl.ow_skip rfl rfl ?_
    refine Go.Sl.ow_skip rfl rfl ?_
    refine Go.Sl.ow_skip rfl rfl ?_
    refine Go.Sl.ow_skip rfl rfl ?_
    refine Go.Sl.ow_skip rfl rfl ?_
    refine Go.Sl.ow_val rfl rfl (Go.Sl.v_pick_false rfl rfl) ?_
    refine Go.Sl.ow_val rfl rfl (Go.Sl.v_move rfl) ?_
    refine Go.Sl.ow_skip rfl rfl ?_
    refine Go.Sl.ow_skip rfl rfl ?_
    refine Go.Sl.ow_skip rfl rfl ?_
    refine Go.Sl.ow_skip rfl rfl ?_
    refine Go.Sl.ow_skip rfl rfl ?_
    refine Go.Sl.ow_val rfl rfl (Go.Sl.v_pick_false rfl rfl) ?_
    refine Go.Sl.ow_val rfl rfl (Go.Sl.v_move rfl) ?_
    refine Go.Sl.ow_skip rfl rfl ?_
    refine Go.Sl.ow_skip rfl rfl ?_
    refine Go.Sl.ow_skip rfl rfl ?_
    refine Go.Sl.ow_skip rfl rfl ?_
    refine Go.Sl.ow_skip rfl rfl ?_
    refine Go.Sl.ow_val rfl rfl (Go.Sl.v_pick_false rfl rfl) ?_
    refine Go.Sl.ow_val rfl rfl (Go.Sl.v_assign rfl) ?_
    refine Go.Sl.ow_nil ?_
    rotate_left
    refine Go.Sl.ow_skip rfl rfl ?_
    refine Go.Sl.ow_skip rfl rfl ?_
    refine Go.Sl.ow_skip rfl rfl ?_
    refine Go.Sl.ow_skip rfl rfl ?_
    refine Go.Sl.ow_skip rfl rfl ?_
    refine Go.Sl.ow_val rfl rfl (Go.Sl.v_pick_false rfl rfl) ?_
    refine Go.Sl.ow_val rfl rfl (Go.Sl.v_move rfl) ?_
    refine Go.Sl.ow_skip rfl rfl ?_
    refine Go.Sl.ow_skip rfl rfl ?_
    refine Go.Sl.ow_skip rfl rfl ?_
    refine Go.Sl.ow_skip rfl rfl ?_
    refine Go.Sl.ow_skip rfl rfl ?_
    refine Go.Sl.ow_val rfl rfl (Go.Sl.v_pick_false rfl rfl) ?_
    refine Go.Sl.ow_val rfl rfl (Go.Sl.v_move rfl) ?_
    refine Go.Sl.ow_skip rfl rfl ?_
    refine Go.Sl.ow_skip rfl rfl ?_
    refine Go.Sl.ow_skip rfl rfl ?_
    refine Go.Sl.ow_skip rfl rfl ?_
    refine Go.Sl.ow_skip rfl rfl ?_
    refine Go.Sl.ow_val rfl rfl (Go.Sl.v_pick_false rfl rfl) ?_
    refine Go.Sl.ow_val rfl rfl (Go.Sl.v_move rfl) ?_
    refine Go.Sl.ow_skip rfl rfl ?_
    refine Go.Sl.ow_skip rfl rfl ?_
    refine Go.Sl.ow_skip rfl rfl ?_
    refine Go.Sl.ow_skip rfl rfl ?_
    refine Go.Sl.ow_skip rfl rfl ?_
    refine Go.Sl.ow_skip rfl rfl ?_
    refine Go.Sl.ow_skip rfl rfl ?_
    refine Go.Sl.ow_val rfl rfl (Go.Sl.v_pick_false rfl rfl) ?_
    refine Go.Sl.ow_val rfl rfl (Go.Sl.v_move rfl) ?_
    refine Go.Sl.ow_skip rfl rfl ?_
    refine Go.Sl.ow_skip rfl rfl ?_
    refine Go.Sl.ow_skip rfl rfl ?_
    refine Go.Sl.ow_skip rfl rfl ?_
    refine Go.Sl.ow_skip rfl rfl ?_
    refine Go.Sl.ow_val rfl rfl (Go.Sl.v_pick_false rfl rfl) ?_
    refine Go.Sl.ow_val rfl rfl (Go.Sl.v_move rfl) ?_
    refine Go.Sl.ow_skip rfl rfl ?_
    refine Go.Sl.ow_skip rfl rfl ?_
    refine Go.Sl.ow_skip rfl rfl ?_
    refine Go.Sl.ow_skip rfl rfl ?_
    refine Go.Sl.ow_skip rfl rfl ?_
    refine Go.Sl.ow_val rfl rfl (Go.Sl.v_pick_false rfl rfl) ?_
    refine Go.Sl.ow_val rfl rfl (Go.Sl.v_move rfl) ?_
    refine Go.Sl.ow_skip rfl rfl ?_
    refine Go.Sl.ow_skip rfl rfl ?_
    refine Go.Sl.ow_skip rfl rfl ?_
    refine Go.Sl.ow_skip rfl rfl ?_
    refine Go.Sl.ow_skip rfl rfl ?_
    refine Go.Sl.ow_val rfl rfl (Go.Sl.v_pick_false rfl rfl) ?_
    refine Go.Sl.ow_val rfl rfl (Go.Sl.v_assign rfl) ?_
    refine Go.Sl.ow_nil ?_
    rotate_left
    refine Go.Sl.ow_skip rfl rfl ?_
    refine Go.Sl.ow_skip rfl rfl ?_
    refine Go.Sl.ow_skip rfl rfl ?_
    refine Go.Sl.ow_skip rfl rfl ?_
    refine Go.Sl.ow_skip rfl rfl ?_
    refine Go.Sl.ow_val rfl rfl (Go.Sl.v_pick_false rfl rfl) ?_
    refine Go.Sl.ow_val rfl rfl (Go.Sl.v_move rfl) ?_
    refine Go.Sl.ow_skip rfl rfl ?_
    refine Go.Sl.ow_skip rfl rfl ?_
    refine Go.Sl.ow_skip rfl rfl ?_
    refine Go.Sl.ow_skip rfl rfl ?_
    refine Go.Sl.ow_skip rfl rfl ?_
    refine Go.Sl.ow_val rfl rfl (Go.Sl.v_pick_false rfl rfl) ?_
    refine Go.Sl.ow_val rfl rfl (Go.Sl.v_move rfl) ?_
    refine Go.Sl.ow_skip rfl rfl ?_
    refine Go.Sl.ow_skip rfl rfl ?_
    refine Go.Sl.ow_skip rfl rfl ?_
    refine Go.Sl.ow_skip rfl rfl ?_
    refine Go.Sl.ow_skip rfl rfl ?_
    refine Go.Sl.ow_val rfl rfl (Go.Sl.v_pick_false rfl rfl) ?_
    refine Go.Sl.ow_val rfl rfl (Go.Sl.v_move rfl) ?_
    refine Go.Sl.ow_skip rfl rfl ?_
    refine Go.Sl.ow_skip rfl rfl ?_
    refine Go.Sl.ow_skip rfl rfl ?_
    refine Go.Sl.ow_skip rfl rfl ?_
    refine Go.Sl.ow_skip rfl rfl ?_
    refine Go.Sl.ow_val rfl rfl (Go.Sl.v_pick_false rfl rfl) ?_
    refine Go.Sl.ow_val rfl rfl (Go.Sl.v_move rfl) ?_
    refine Go.Sl.ow_skip rfl rfl ?_
    refine Go.Sl.ow_skip rfl rfl ?_
    refine Go.Sl.ow_skip rfl rfl ?_
    refine Go.Sl.ow_skip rfl rfl ?_
    refine Go.Sl.ow_skip rfl rfl ?_
    refine Go.Sl.ow_skip rfl rfl ?_
    refine Go.Sl.ow_skip rfl rfl ?_
    refine Go.Sl.ow_val rfl rfl (Go.Sl.v_pick_false rfl rfl) ?_
    refine Go.Sl.ow_val rfl rfl (Go.Sl.v_move rfl) ?_
    refine Go.Sl.ow_skip rfl rfl ?_
    refine Go.Sl.ow_skip rfl rfl ?_
    refine Go.Sl.ow_skip rfl rfl ?_
    refine Go.Sl.ow_skip rfl rfl ?_
    refine Go.Sl.ow_skip rfl rfl ?_
    refine Go.Sl.ow_val rfl rfl (Go.Sl.v_pick_false rfl rfl) ?_
    refine Go.Sl.ow_val rfl rfl (Go.Sl.v_move rfl) ?_
    refine Go.Sl.ow_skip rfl rfl ?_
    refine Go.Sl.ow_skip rfl rfl ?_
    refine Go.Sl.ow_skip rfl rfl ?_
    refine Go.Sl.ow_skip rfl rfl ?_
    refine Go.Sl.ow_skip rfl rfl ?_
    refine Go.Sl.ow_val rfl rfl (Go.Sl.v_pick_false rfl rfl) ?_
    refine Go.Sl.ow_val rfl rfl (Go.Sl.v_move rfl) ?_
    refine Go.Sl.ow_skip rfl rfl ?_
    refine Go.Sl.ow_skip rfl rfl ?_
    refine Go.Sl.ow_skip rfl rfl ?_
    refine Go.Sl.ow_skip rfl rfl ?_
    refine Go.Sl.ow_skip rfl rfl ?_
    refine Go.Sl.ow_val rfl rfl (Go.Sl.v_pick_false rfl rfl) ?_
    refine Go.Sl.ow_val rfl rfl (Go.Sl.v_assign rfl) ?_
    refine Go.Sl.ow_nil ?_
    rotate_left
    refine Go.Sl.ow_skip rfl rfl ?_
    refine Go.Sl.ow_skip rfl rfl ?_
    refine Go.Sl.ow_skip rfl rfl ?_
    refine Go.Sl.ow_skip rfl rfl ?_
    refine Go.Sl.ow_skip rfl rfl ?_
    refine Go.Sl.ow_val rfl rfl (Go.Sl.v_pick_false rfl rfl) ?_
    refine Go.Sl.ow_val rfl rfl (Go.Sl.v_move rfl) ?_
    refine Go.Sl.ow_skip rfl rfl ?_
    refine Go.Sl.ow_skip rfl rfl ?_
    refine Go.Sl.ow_skip rfl rfl ?_
    refine Go.Sl.ow_skip rfl rfl ?_
    refine Go.Sl.ow_skip rfl rfl ?_
    refine Go.Sl.ow_val rfl rfl (Go.Sl.v_pick_false rfl rfl) ?_
    refine Go.Sl.ow_val rfl rfl (Go.Sl.v_move rfl) ?_
    refine Go.Sl.ow_skip rfl rfl ?_
    refine Go.Sl.ow_skip rfl rfl ?_
    refine Go.Sl.ow_skip rfl rfl ?_
    refine Go.Sl.ow_skip rfl rfl ?_
    refine Go.Sl.ow_skip rfl rfl ?_
    refine Go.Sl.ow_val rfl rfl (Go.Sl.v_pick_false rfl rfl) ?_
    refine Go.Sl.ow_val rfl rfl (Go.Sl.v_move rfl) ?_
    refine Go.Sl.ow_skip rfl rfl ?_
    refine Go.Sl.ow_skip rfl rfl ?_
    refine Go.Sl.ow_skip rfl rfl ?_
    refine Go.Sl.ow_skip rfl rfl ?_
    refine Go.Sl.ow_skip rfl rfl ?_
    refine Go.Sl.ow_val rfl rfl (Go.Sl.v_pick_false rfl rfl) ?_
    refine Go.Sl.ow_val rfl rfl (Go.Sl.v_move rfl) ?_
    refine Go.Sl.ow_skip rfl rfl ?_
    refine Go.Sl.ow_skip rfl rfl ?_
    refine Go.Sl.ow_skip rfl rfl ?_
    refine Go.Sl.ow_skip rfl rfl ?_
    refine Go.Sl.ow_skip rfl rfl ?_
    refine Go.Sl.ow_val rfl rfl (Go.Sl.v_pick_false rfl rfl) ?_
    refine Go.Sl.ow_val rfl rfl (Go.Sl.v_move rfl) ?_
    refine Go.Sl.ow_skip rfl rfl ?_
    refine Go.Sl.ow_skip rfl rfl ?_
    refine Go.Sl.ow_skip rfl rfl ?_
    refine Go.Sl.ow_skip rfl rfl ?_
    refine Go.Sl.ow_skip rfl rfl ?_
    refine Go.Sl.ow_skip rfl rfl ?_
    refine Go.Sl.ow_skip rfl rfl ?_
    refine Go.Sl.ow_val rfl rfl (Go.Sl.v_pick_false rfl rfl) ?_
    refine Go.Sl.ow_val rfl rfl (Go.Sl.v_move rfl) ?_
    refine Go.Sl.ow_skip rfl rfl ?_
    refine Go.Sl.ow_skip rfl rfl ?_
    refine Go.Sl.ow_skip rfl rfl ?_
    refine Go.Sl.ow_skip rfl rfl ?_
    refine Go.Sl.ow_skip rfl rfl ?_
    refine Go.Sl.ow_val rfl rfl (Go.Sl.v_pick_false rfl rfl) ?_
    refine Go.Sl.ow_val rfl rfl (Go.Sl.v_move rfl) ?_
    refine Go.Sl.ow_skip rfl rfl ?_
    refine Go.Sl.ow_skip rfl rfl ?_
    refine Go.Sl.ow_skip rfl rfl ?_
    refine Go.Sl.ow_skip rfl rfl ?_
    refine Go.Sl.ow_skip rfl rfl ?_
    refine Go.Sl.ow_val rfl rfl (Go.Sl.v_pick_false rfl rfl) ?_
    refine Go.Sl.ow_val rfl rfl (Go.Sl.v_move rfl) ?_
    refine Go.Sl.ow_skip rfl rfl ?_
    refine Go.Sl.ow_skip rfl rfl ?_
    refine Go.Sl.ow_skip rfl rfl ?_
    refine Go.Sl.ow_skip rfl rfl ?_
    refine Go.Sl.ow_skip rfl rfl ?_
    refine Go.Sl.ow_val rfl rfl (Go.Sl.v_pick_false rfl rfl) ?_
    refine Go.Sl.ow_val rfl rfl (Go.Sl.v_assign rfl) ?_
    refine Go.Sl.ow_nil ?_
    rotate_left
    refine Go.Sl.ow_skip rfl rfl ?_
    refine Go.Sl.ow_skip rfl rfl ?_
    refine Go.Sl.ow_skip rfl rfl ?_
    refine Go.Sl.ow_skip rfl rfl ?_
    refine Go.Sl.ow_skip rfl rfl ?_
    refine Go.Sl.ow_skip rfl rfl ?_
    refine Go.Sl.ow_skip rfl rfl ?_
    refine Go.Sl.ow_val rfl rfl (Go.Sl.v_pick_false rfl rfl) ?_
    refine Go.Sl.ow_val rfl rfl (Go.Sl.v_move rfl) ?_
    refine Go.Sl.ow_skip rfl rfl ?_
    refine Go.Sl.ow_skip rfl rfl ?_
    refine Go.Sl.ow_skip rfl rfl ?_
    refine Go.Sl.ow_skip rfl rfl ?_
    refine Go.Sl.ow_skip rfl rfl ?_
    refine Go.Sl.ow_val rfl rfl (Go.Sl.v_pick_false rfl rfl) ?_
    refine Go.Sl.ow_val rfl rfl (Go.Sl.v_move rfl) ?_
    refine Go.Sl.ow_skip rfl rfl ?_
    refine Go.Sl.ow_skip rfl rfl ?_
    refine Go.Sl.ow_skip rfl rfl ?_
    refine Go.Sl.ow_skip rfl rfl ?_
    refine Go.Sl.ow_skip rfl rfl ?_
    refine Go.Sl.ow_val rfl rfl (Go.Sl.v_pick_false rfl rfl) ?_
    refine Go.Sl.ow_val rfl rfl (Go.Sl.v_move rfl) ?_
    refine Go.Sl.ow_skip rfl rfl ?_
    refine Go.Sl.ow_skip rfl rfl ?_
    refine Go.Sl.ow_skip rfl rfl ?_
    refine Go.Sl.ow_skip rfl rfl ?_
    refine Go.Sl.ow_skip rfl rfl ?_
    refine Go.Sl.ow_val rfl rfl (Go.Sl.v_pick_false rfl rfl) ?_
    refine Go.Sl.ow_val rfl rfl (Go.Sl.v_move rfl) ?_
    refine Go.Sl.ow_skip rfl rfl ?_
    refine Go.Sl.ow_skip rfl rfl ?_
    refine Go.Sl.ow_skip rfl rfl ?_
    refine Go.Sl.ow_skip rfl rfl ?_
    refine Go.Sl.ow_skip rfl rfl ?_
    refine Go.Sl.ow_val rfl rfl (Go.Sl.v_pick_false rfl rfl) ?_
    refine Go.Sl.ow_val rfl rfl (Go.Sl.v_move rfl) ?_
    refine Go.Sl.ow_skip rfl rfl ?_
    refine Go.Sl.ow_skip rfl rfl ?_
    refine Go.Sl.ow_skip rfl rfl ?_
    refine Go.Sl.ow_skip rfl rfl ?_
    refine Go.Sl.ow_skip rfl rfl ?_
    refine Go.Sl.ow_val rfl rfl (Go.Sl.v_pick_false rfl rfl) ?_
    refine Go.Sl.ow_val rfl rfl (Go.Sl.v_move rfl) ?_
    refine Go.Sl.ow_skip rfl rfl ?_
    refine Go.Sl.ow_skip rfl rfl ?_
    refine Go.Sl.ow_skip rfl rfl ?_
    refine Go.Sl.ow_skip rfl rfl ?_
    refine Go.Sl.ow_skip rfl rfl ?_
    refine Go.Sl.ow_skip rfl rfl ?_
    refine Go.Sl.ow_skip rfl rfl ?_
    refine Go.Sl.ow_val rfl rfl (Go.Sl.v_pick_false rfl rfl) ?_
    refine Go.Sl.ow_val rfl rfl (Go.Sl.v_move rfl) ?_
    refine Go.Sl.ow_skip rfl rfl ?_
    refine Go.Sl.ow_skip rfl rfl ?_
    refine Go.Sl.ow_skip rfl rfl ?_
    refine Go.Sl.ow_skip rfl rfl ?_
    refine Go.Sl.ow_skip rfl rfl ?_
    refine Go.Sl.ow_val rfl rfl (Go.Sl.v_pick_false rfl rfl) ?_
    refine Go.Sl.ow_val rfl rfl (Go.Sl.v_move rfl) ?_
    refine Go.Sl.ow_skip rfl rfl ?_
    refine Go.Sl.ow_skip rfl rfl ?_
    refine Go.Sl.ow_skip rfl rfl ?_
    refine Go.Sl.ow_skip rfl rfl ?_
    refine Go.Sl.ow_skip rfl rfl ?_
    refine Go.Sl.ow_val rfl rfl (Go.Sl.v_pick_false rfl rfl) ?_
    refine Go.Sl.ow_val rfl rfl (Go.Sl.v_move rfl) ?_
    refine Go.Sl.ow_skip rfl rfl ?_
    refine Go.Sl.ow_skip rfl rfl ?_
    refine Go.Sl.ow_skip rfl rfl ?_
    refine Go.Sl.ow_skip rfl rfl ?_
    refine Go.Sl.ow_skip rfl rfl ?_
    refine Go.Sl.ow_val rfl rfl (Go.Sl.v_pick_false rfl rfl) ?_
    refine Go.Sl.ow_val rfl rfl (Go.Sl.v_assign rfl) ?_
    refine Go.Sl.ow_nil ?_
    rotate_left
    refine Go.Sl.ow_skip rfl rfl ?_
    refine Go.Sl.ow_skip rfl rfl ?_
    refine Go.Sl.ow_skip rfl rfl ?_
    refine Go.Sl.ow_skip rfl rfl ?_
    refine Go.Sl.ow_skip rfl rfl ?_
    refine Go.Sl.ow_val rfl rfl (Go.Sl.v_pick_false rfl rfl) ?_
    refine Go.Sl.ow_val rfl rfl (Go.Sl.v_move rfl) ?_
    refine Go.Sl.ow_skip rfl rfl ?_
    refine Go.Sl.ow_skip rfl rfl ?_
    refine Go.Sl.ow_skip rfl rfl ?_
    refine Go.Sl.ow_skip rfl rfl ?_
    refine Go.Sl.ow_skip rfl rfl ?_
    refine Go.Sl.ow_skip rfl rfl ?_
    refine Go.Sl.ow_skip rfl rfl ?_
    refine Go.Sl.ow_val rfl rfl (Go.Sl.v_pick_false rfl rfl) ?_
    refine Go.Sl.ow_val rfl rfl (Go.Sl.v_move rfl) ?_
    refine Go.Sl.ow_skip rfl rfl ?_
    refine Go.Sl.ow_skip rfl rfl ?_
    refine Go.Sl.ow_skip rfl rfl ?_
    refine Go.Sl.ow_skip rfl rfl ?_
    refine Go.Sl.ow_skip rfl rfl ?_
    refine Go.Sl.ow_val rfl rfl (Go.Sl.v_pick_false rfl rfl) ?_
    refine Go.Sl.ow_val rfl rfl (Go.Sl.v_move rfl) ?_
    refine Go.Sl.ow_skip rfl rfl ?_
    refine Go.Sl.ow_skip rfl rfl ?_
    refine Go.Sl.ow_skip rfl rfl ?_
    refine Go.Sl.ow_skip rfl rfl ?_
    refine Go.Sl.ow_skip rfl rfl ?_
    refine Go.Sl.ow_val rfl rfl (Go.Sl.v_pick_false rfl rfl) ?_
    refine Go.Sl.ow_val rfl rfl (Go.Sl.v_move rfl) ?_
    refine Go.Sl.ow_skip rfl rfl ?_
    refine Go.Sl.ow_skip rfl rfl ?_
    refine Go.Sl.ow_skip rfl rfl ?_
    refine Go.Sl.ow_skip rfl rfl ?_
    refine Go.Sl.ow_skip rfl rfl ?_
    refine Go.Sl.ow_val rfl rfl (Go.Sl.v_pick_false rfl rfl) ?_
    refine Go.Sl.ow_val rfl rfl (Go.Sl.v_move rfl) ?_
    refine Go.Sl.ow_skip rfl rfl ?_
    refine Go.Sl.ow_skip rfl rfl ?_
    refine Go.Sl.ow_skip rfl rfl ?_
    refine Go.Sl.ow_skip rfl rfl ?_
    refine Go.Sl.ow_skip rfl rfl ?_
    refine Go.Sl.ow_val rfl rfl (Go.Sl.v_pick_false rfl rfl) ?_
    refine Go.Sl.ow_val rfl rfl (Go.Sl.v_move rfl) ?_
    refine Go.Sl.ow_skip rfl rfl ?_
    refine Go.Sl.ow_skip rfl rfl ?_
    refine Go.Sl.ow_skip rfl rfl ?_
    refine Go.Sl.ow_skip rfl rfl ?_
    refine Go.Sl.ow_skip rfl rfl ?_
    refine Go.Sl.ow_val rfl rfl (Go.Sl.v_pick_false rfl rfl) ?_
    refine Go.Sl.ow_val rfl rfl (Go.Sl.v_move rfl) ?_
    refine Go.Sl.ow_skip rfl rfl ?_
    refine Go.Sl.ow_skip rfl rfl ?_
    refine Go.Sl.ow_skip rfl rfl ?_
    refine Go.Sl.ow_skip rfl rfl ?_
    refine Go.Sl.ow_skip rfl rfl ?_
    refine Go.Sl.ow_skip rfl rfl ?_
    refine Go.Sl.ow_skip rfl rfl ?_
    refine Go.Sl.ow_val rfl rfl (Go.Sl.v_pick_false rfl rfl) ?_
    refine Go.Sl.ow_val rfl rfl (Go.Sl.v_move rfl) ?_
    refine Go.Sl.ow_skip rfl rfl ?_
    refine Go.Sl.ow_skip rfl rfl ?_
    refine Go.Sl.ow_skip rfl rfl ?_
    refine Go.Sl.ow_skip rfl rfl ?_
    refine Go.Sl.ow_skip rfl rfl ?_
    refine Go.Sl.ow_val rfl rfl (Go.Sl.v_pick_false rfl rfl) ?_
    refine Go.Sl.ow_val rfl rfl (Go.Sl.v_move rfl) ?_
    refine Go.Sl.ow_skip rfl rfl ?_
    refine Go.Sl.ow_skip rfl rfl ?_
    refine Go.Sl.ow_skip rfl rfl ?_
    refine Go.Sl.ow_skip rfl rfl ?_
    refine Go.Sl.ow_skip rfl rfl ?_
    refine Go.Sl.ow_val rfl rfl (Go.Sl.v_pick_false rfl rfl) ?_
    refine Go.Sl.ow_val rfl rfl (Go.Sl.v_move rfl) ?_
    refine Go.Sl.ow_skip rfl rfl ?_
    refine Go.Sl.ow_skip rfl rfl ?_
    refine Go.Sl.ow_skip rfl rfl ?_
    refine Go.Sl.ow_skip rfl rfl ?_
    refine Go.Sl.ow_skip rfl rfl ?_
    refine Go.Sl.ow_val rfl rfl (Go.Sl.v_pick_false rfl rfl) ?_
    refine Go.Sl.ow_val rfl rfl (Go.Sl.v_assign rfl) ?_
    refine Go.Sl.ow_nil ?_
    rotate_left
    refine Go.Sl.ow_skip rfl rfl ?_
    refine Go.Sl.ow_skip rfl rfl ?_
    refine Go.Sl.ow_skip rfl rfl ?_
    refine Go.Sl.ow_skip rfl rfl ?_
    refine Go.Sl.ow_skip rfl rfl ?_
    refine Go.Sl.ow_val rfl rfl (Go.Sl.v_pick_false rfl rfl) ?_
    refine Go.Sl.ow_val rfl rfl (Go.Sl.v_move rfl) ?_
    refine Go.Sl.ow_skip rfl rfl ?_
    refine Go.Sl.ow_skip rfl rfl ?_
    refine Go.Sl.ow_skip rfl rfl ?_
    refine Go.Sl.ow_skip rfl rfl ?_
    refine Go.Sl.ow_skip rfl rfl ?_
    refine Go.Sl.ow_val rfl rfl (Go.Sl.v_pick_false rfl rfl) ?_
    refine Go.Sl.ow_val rfl rfl (Go.Sl.v_move rfl) ?_
    refine Go.Sl.ow_skip rfl rfl ?_
    refine Go.Sl.ow_skip rfl rfl ?_
    refine Go.Sl.ow_skip rfl rfl ?_
    refine Go.Sl.ow_skip rfl rfl ?_
    refine Go.Sl.ow_skip rfl rfl ?_
    refine Go.Sl.ow_skip rfl rfl ?_
    refine Go.Sl.ow_skip rfl rfl ?_
    refine Go.Sl.ow_val rfl rfl (Go.Sl.v_pick_false rfl rfl) ?_
    refine Go.Sl.ow_val rfl rfl (Go.Sl.v_move rfl) ?_
    refine Go.Sl.ow_skip rfl rfl ?_
    refine Go.Sl.ow_skip rfl rfl ?_
    refine Go.Sl.ow_skip rfl rfl ?_
    refine Go.Sl.ow_skip rfl rfl ?_
    refine Go.Sl.ow_skip rfl rfl ?_
    refine Go.Sl.ow_val rfl rfl (Go.Sl.v_pick_false rfl rfl) ?_
    refine Go.Sl.ow_val rfl rfl (Go.Sl.v_move rfl) ?_
    refine Go.Sl.ow_skip rfl rfl ?_
    refine Go.Sl.ow_skip rfl rfl ?_
    refine Go.Sl.ow_skip rfl rfl ?_
    refine Go.Sl.ow_skip rfl rfl ?_
    refine Go.Sl.ow_skip rfl rfl ?_
    refine Go.Sl.ow_val rfl rfl (Go.Sl.v_pick_false rfl rfl) ?_
    refine Go.Sl.ow_val rfl rfl (Go.Sl.v_move rfl) ?_
    refine Go.Sl.ow_skip rfl rfl ?_
    refine Go.Sl.ow_skip rfl rfl ?_
    refine Go.Sl.ow_skip rfl rfl ?_
    refine Go.Sl.ow_skip rfl rfl ?_
    refine Go.Sl.ow_skip rfl rfl ?_
    refine Go.Sl.ow_val rfl rfl (Go.Sl.v_pick_false rfl rfl) ?_
    refine Go.Sl.ow_val rfl rfl (Go.Sl.v_move rfl) ?_
    refine Go.Sl.ow_skip rfl rfl ?_
    refine Go.Sl.ow_skip rfl rfl ?_
    refine Go.Sl.ow_skip rfl rfl ?_
    refine Go.Sl.ow_skip rfl rfl ?_
    refine Go.Sl.ow_skip rfl rfl ?_
    refine Go.Sl.ow_val rfl rfl (Go.Sl.v_pick_false rfl rfl) ?_
    refine Go.Sl.ow_val rfl rfl (Go.Sl.v_move rfl) ?_
    refine Go.Sl.ow_skip rfl rfl ?_
    refine Go.Sl.ow_skip rfl rfl ?_
    refine Go.Sl.ow_skip rfl rfl ?_
    refine Go.Sl.ow_skip rfl rfl ?_
    refine Go.Sl.ow_skip rfl rfl ?_
    refine Go.Sl.ow_val rfl rfl (Go.Sl.v_pick_false rfl rfl) ?_
    refine Go.Sl.ow_val rfl rfl (Go.Sl.v_move rfl) ?_
    refine Go.Sl.ow_skip rfl rfl ?_
    refine Go.Sl.ow_skip rfl rfl ?_
    refine Go.Sl.ow_skip rfl rfl ?_
    refine Go.Sl.ow_skip rfl rfl ?_
    refine Go.Sl.ow_skip rfl rfl ?_
    refine Go.Sl.ow_skip rfl rfl ?_
    refine Go.Sl.ow_skip rfl rfl ?_
    refine Go.Sl.ow_val rfl rfl (Go.Sl.v_pick_false rfl rfl) ?_
    refine Go.Sl.ow_val rfl rfl (Go.Sl.v_move rfl) ?_
    refine Go.Sl.ow_skip rfl rfl ?_
    refine Go.Sl.ow_skip rfl rfl ?_
    refine Go.Sl.ow_skip rfl rfl ?_
    refine Go.Sl.ow_skip rfl rfl ?_
    refine Go.Sl.ow_skip rfl rfl ?_
    refine Go.Sl.ow_val rfl rfl (Go.Sl.v_pick_false rfl rfl) ?_
    refine Go.Sl.ow_val rfl rfl (Go.Sl.v_move rfl) ?_
    refine Go.Sl.ow_skip rfl rfl ?_
    refine Go.Sl.ow_skip rfl rfl ?_
    refine Go.Sl.ow_skip rfl rfl ?_
    refine Go.Sl.ow_skip rfl rfl ?_
    refine Go.Sl.ow_skip rfl rfl ?_
    refine Go.Sl.ow_val rfl rfl (Go.Sl.v_pick_false rfl rfl) ?_
    refine Go.Sl.ow_val rfl rfl (Go.Sl.v_move rfl) ?_
    refine Go.Sl.ow_skip rfl rfl ?_
    refine Go.Sl.ow_skip rfl rfl ?_
    refine Go.Sl.ow_skip rfl rfl ?_
    refine Go.Sl.ow_skip rfl rfl ?_
    refine Go.Sl.ow_skip rfl rfl ?_
    refine Go.Sl.ow_val rfl rfl (Go.Sl.v_pick_false rfl rfl) ?_
    refine Go.Sl.ow_val rfl rfl (Go.Sl.v_assign rfl) ?_
    refine Go.Sl.ow_nil ?_
    rotate_left
    refine Go.Sl.ow_skip rfl rfl ?_
    refine Go.Sl.ow_skip rfl rfl ?_
    refine Go.Sl.ow_skip rfl rfl ?_
    refine Go.Sl.ow_skip rfl rfl ?_
    refine Go.Sl.ow_skip rfl rfl ?_
    refine Go.Sl.ow_val rfl rfl (Go.Sl.v_pick_false rfl rfl) ?_
    refine Go.Sl.ow_val rfl rfl (Go.Sl.v_move rfl) ?_
    refine Go.Sl.ow_skip rfl rfl ?_
    refine Go.Sl.ow_skip rfl rfl ?_
    refine Go.Sl.ow_skip rfl rfl ?_
    refine Go.Sl.ow_skip rfl rfl ?_
    refine Go.Sl.ow_skip rfl rfl ?_
    refine Go.Sl.ow_val rfl rfl (Go.Sl.v_pick_false rfl rfl) ?_
    refine Go.Sl.ow_val rfl rfl (Go.Sl.v_move rfl) ?_
    refine Go.Sl.ow_skip rfl rfl ?_
    refine Go.Sl.ow_skip rfl rfl ?_
    refine Go.Sl.ow_skip rfl rfl ?_
    refine Go.Sl.ow_skip rfl rfl ?_
    refine Go.Sl.ow_skip rfl rfl ?_
    refine Go.Sl.ow_val rfl rfl (Go.Sl.v_pick_false rfl rfl) ?_
    refine Go.Sl.ow_val rfl rfl (Go.Sl.v_move rfl) ?_
    refine Go.Sl.ow_skip rfl rfl ?_
    refine Go.Sl.ow_skip rfl rfl ?_
    refine Go.Sl.ow_skip rfl rfl ?_
    refine Go.Sl.ow_skip rfl rfl ?_
    refine Go.Sl.ow_skip rfl rfl ?_
    refine Go.Sl.ow_skip rfl rfl ?_
    refine Go.Sl.ow_skip rfl rfl ?_
    refine Go.Sl.ow_val rfl rfl (Go.Sl.v_pick_false rfl rfl) ?_
    refine Go.Sl.ow_val rfl rfl (Go.Sl.v_move rfl) ?_
    refine Go.Sl.ow_skip rfl rfl ?_
    refine Go.Sl.ow_skip rfl rfl ?_
    refine Go.Sl.ow_skip rfl rfl ?_
    refine Go.Sl.ow_skip rfl rfl ?_
    refine Go.Sl.ow_skip rfl rfl ?_
    refine Go.Sl.ow_val rfl rfl (Go.Sl.v_pick_false rfl rfl) ?_
    refine Go.Sl.ow_val rfl rfl (Go.Sl.v_move rfl) ?_
    refine Go.Sl.ow_skip rfl rfl ?_
    refine Go.Sl.ow_skip rfl rfl ?_
    refine Go.Sl.ow_skip rfl rfl ?_
    refine Go.Sl.ow_skip rfl rfl ?_
    refine Go.Sl.ow_skip rfl rfl ?_
    refine Go.Sl.ow_val rfl rfl (Go.Sl.v_pick_false rfl rfl) ?_
    refine Go.Sl.ow_val rfl rfl (Go.Sl.v_move rfl) ?_
    refine Go.Sl.ow_skip rfl rfl ?_
    refine Go.Sl.ow_skip rfl rfl ?_
    refine Go.Sl.ow_skip rfl rfl ?_
    refine Go.Sl.ow_skip rfl rfl ?_
    refine Go.Sl.ow_skip rfl rfl ?_
    refine Go.Sl.ow_val rfl rfl (Go.Sl.v_pick_false rfl rfl) ?_
    refine Go.Sl.ow_val rfl rfl (Go.Sl.v_move rfl) ?_
    refine Go.Sl.ow_skip rfl rfl ?_
    refine Go.Sl.ow_skip rfl rfl ?_
    refine Go.Sl.ow_skip rfl rfl ?_
    refine Go.Sl.ow_skip rfl rfl ?_
    refine Go.Sl.ow_skip rfl rfl ?_
    refine Go.Sl.ow_val rfl rfl (Go.Sl.v_pick_false rfl rfl) ?_
    refine Go.Sl.ow_val rfl rfl (Go.Sl.v_move rfl) ?_
    refine Go.Sl.ow_skip rfl rfl ?_
    refine Go.Sl.ow_skip rfl rfl ?_
    refine Go.Sl.ow_skip rfl rfl ?_
    refine Go.Sl.ow_skip rfl rfl ?_
    refine Go.Sl.ow_skip rfl rfl ?_
    refine Go.Sl.ow_val rfl rfl (Go.Sl.v_pick_false rfl rfl) ?_
    refine Go.Sl.ow_val rfl rfl (Go.Sl.v_move rfl) ?_
    refine Go.Sl.ow_skip rfl rfl ?_
    refine Go.Sl.ow_skip rfl rfl ?_
    refine Go.Sl.ow_skip rfl rfl ?_
    refine Go.Sl.ow_skip rfl rfl ?_
    refine Go.Sl.ow_skip rfl rfl ?_
    refine Go.Sl.ow_skip rfl rfl ?_
    refine Go.Sl.ow_skip rfl rfl ?_
    refine Go.Sl.ow_val rfl rfl (Go.Sl.v_pick_false rfl rfl) ?_
    refine Go.Sl.ow_val rfl rfl (Go.Sl.v_move rfl) ?_
    refine Go.Sl.ow_skip rfl rfl ?_
    refine Go.Sl.ow_skip rfl rfl ?_
    refine Go.Sl.ow_skip rfl rfl ?_
    refine Go.Sl.ow_skip rfl rfl ?_
    refine Go.Sl.ow_skip rfl rfl ?_
    refine Go.Sl.ow_val rfl rfl (Go.Sl.v_pick_false rfl rfl) ?_
    refine Go.Sl.ow_val rfl rfl (Go.Sl.v_move rfl) ?_
    refine Go.Sl.ow_skip rfl rfl ?_
    refine Go.Sl.ow_skip rfl rfl ?_
    refine Go.Sl.ow_skip rfl rfl ?_
    refine Go.Sl.ow_skip rfl rfl ?_
    refine Go.Sl.ow_skip rfl rfl ?_
    refine Go.Sl.ow_val rfl rfl (Go.Sl.v_pick_false rfl rfl) ?_
    refine Go.Sl.ow_val rfl rfl (Go.Sl.v_move rfl) ?_
    refine Go.Sl.ow_skip rfl rfl ?_
    refine Go.Sl.ow_skip rfl rfl ?_
    refine Go.Sl.ow_skip rfl rfl ?_
    refine Go.Sl.ow_skip rfl rfl ?_
    refine Go.Sl.ow_skip rfl rfl ?_
    refine Go.Sl.ow_val rfl rfl (Go.Sl.v_pick_false rfl rfl) ?_
    refine Go.Sl.ow_val rfl rfl (Go.Sl.v_assign rfl) ?_
    refine Go.Sl.ow_nil ?_
    rotate_left
    refine Go.Sl.ow_skip rfl rfl ?_
    refine Go.Sl.ow_skip rfl rfl ?_
    refine Go.Sl.ow_skip rfl rfl ?_
    refine Go.Sl.ow_skip rfl rfl ?_
    refine Go.Sl.ow_skip rfl rfl ?_
    refine Go.Sl.ow_val rfl rfl (Go.Sl.v_pick_false rfl rfl) ?_
    refine Go.Sl.ow_val rfl rfl (Go.Sl.v_move rfl) ?_
    refine Go.Sl.ow_skip rfl rfl ?_
    refine Go.Sl.ow_skip rfl rfl ?_
    refine Go.Sl.ow_skip rfl rfl ?_
    refine Go.Sl.ow_skip rfl rfl ?_
    refine Go.Sl.ow_skip rfl rfl ?_
    refine Go.Sl.ow_val rfl rfl (Go.Sl.v_pick_false rfl rfl) ?_
    refine Go.Sl.ow_val rfl rfl (Go.Sl.v_move rfl) ?_
    refine Go.Sl.ow_skip rfl rfl ?_
    refine Go.Sl.ow_skip rfl rfl ?_
    refine Go.Sl.ow_skip rfl rfl ?_
    refine Go.Sl.ow_skip rfl rfl ?_
    refine Go.Sl.ow_skip rfl rfl ?_
    refine Go.Sl.ow_val rfl rfl (Go.Sl.v_pick_false rfl rfl) ?_
    refine Go.Sl.ow_val rfl rfl (Go.Sl.v_move rfl) ?_
    refine Go.Sl.ow_skip rfl rfl ?_
    refine Go.Sl.ow_skip rfl rfl ?_
    refine Go.Sl.ow_skip rfl rfl ?_
    refine Go.Sl.ow_skip rfl rfl ?_
    refine Go.Sl.ow_skip rfl rfl ?_
    refine Go.Sl.ow_val rfl rfl (Go.Sl.v_pick_false rfl rfl) ?_
    refine Go.Sl.ow_val rfl rfl (Go.Sl.v_move rfl) ?_
    refine Go.Sl.ow_skip rfl rfl ?_
    refine Go.Sl.ow_skip rfl rfl ?_
    refine Go.Sl.ow_skip rfl rfl ?_
    refine Go.Sl.ow_skip rfl rfl ?_
    refine Go.Sl.ow_skip rfl rfl ?_
    refine Go.Sl.ow_skip rfl rfl ?_
    refine Go.Sl.ow_skip rfl rfl ?_
    refine Go.Sl.ow_val rfl rfl (Go.Sl.v_pick_false rfl rfl) ?_
    refine Go.Sl.ow_val rfl rfl (Go.Sl.v_move rfl) ?_
    refine Go.Sl.ow_skip rfl rfl ?_
    refine Go.Sl.ow_skip rfl rfl ?_
    refine Go.Sl.ow_skip rfl rfl ?_
    refine Go.Sl.ow_skip rfl rfl ?_
    refine Go.Sl.ow_skip rfl rfl ?_
    refine Go.Sl.ow_val rfl rfl (Go.Sl.v_pick_false rfl rfl) ?_
    refine Go.Sl.ow_val rfl rfl (Go.Sl.v_move rfl) ?_
    refine Go.Sl.ow_skip rfl rfl ?_
    refine Go.Sl.ow_skip rfl rfl ?_
    refine Go.Sl.ow_skip rfl rfl ?_
    refine Go.Sl.ow_skip rfl rfl ?_
    refine Go.Sl.ow_skip rfl rfl ?_
    refine Go.Sl.ow_val rfl rfl (Go.Sl.v_pick_false rfl rfl) ?_
    refine Go.Sl.ow_val rfl rfl (Go.Sl.v_move rfl) ?_
    refine Go.Sl.ow_skip rfl rfl ?_
    refine Go.Sl.ow_skip rfl rfl ?_
    refine Go.Sl.ow_skip rfl rfl ?_
    refine Go.Sl.ow_skip rfl rfl ?_
    refine Go.Sl.ow_skip rfl rfl ?_
    refine Go.Sl.ow_val rfl rfl (Go.Sl.v_pick_false rfl rfl) ?_
    refine Go.Sl.ow_val rfl rfl (Go.Sl.v_move rfl) ?_
    refine Go.Sl.ow_skip rfl rfl ?_
    refine Go.Sl.ow_skip rfl rfl ?_
    refine Go.Sl.ow_skip rfl rfl ?_
    refine Go.Sl.ow_skip rfl rfl ?_
    refine Go.Sl.ow_skip rfl rfl ?_
    refine Go.Sl.ow_val rfl rfl (Go.Sl.v_pick_false rfl rfl) ?_
    refine Go.Sl.ow_val rfl rfl (Go.Sl.v_move rfl) ?_
    refine Go.Sl.ow_skip rfl rfl ?_
    refine Go.Sl.ow_skip rfl rfl ?_
    refine Go.Sl.ow_skip rfl rfl ?_
    refine Go.Sl.ow_skip rfl rfl ?_
    refine Go.Sl.ow_skip rfl rfl ?_
    refine Go.Sl.ow_val rfl rfl (Go.Sl.v_pick_false rfl rfl) ?_
    refine Go.Sl.ow_val rfl rfl (Go.Sl.v_move rfl) ?_
    refine Go.Sl.ow_skip rfl rfl ?_
    refine Go.Sl.ow_skip rfl rfl ?_
    refine Go.Sl.ow_skip rfl rfl ?_
    refine Go.Sl.ow_skip rfl rfl ?_
    refine Go.Sl.ow_skip rfl rfl ?_
    refine Go.Sl.ow_skip rfl rfl ?_
    refine Go.Sl.ow_skip rfl rfl ?_
    refine Go.Sl.ow_val rfl rfl (Go.Sl.v_pick_false rfl rfl) ?_
    refine Go.Sl.ow_val rfl rfl (Go.Sl.v_move rfl) ?_
    refine Go.Sl.ow_skip rfl rfl ?_
    refine Go.Sl.ow_skip rfl rfl ?_
    refine Go.Sl.ow_skip rfl rfl ?_
    refine Go.Sl.ow_skip rfl rfl ?_
    refine Go.Sl.ow_skip rfl rfl ?_
    refine Go.Sl.ow_val rfl rfl (Go.Sl.v_pick_false rfl rfl) ?_
    refine Go.Sl.ow_val rfl rfl (Go.Sl.v_move rfl) ?_
    refine Go.Sl.ow_skip rfl rfl ?_
    refine Go.Sl.ow_skip rfl rfl ?_
    refine Go.Sl.ow_skip rfl rfl ?_
    refine Go.Sl.ow_skip rfl rfl ?_
    refine Go.Sl.ow_skip rfl rfl ?_
    refine Go.Sl.ow_val rfl rfl (Go.Sl.v_pick_false rfl rfl) ?_
    refine Go.Sl.ow_val rfl rfl (Go.Sl.v_move rfl) ?_
    refine Go.Sl.ow_skip rfl rfl ?_
    refine Go.Sl.ow_skip rfl rfl ?_
    refine Go.Sl.ow_skip rfl rfl ?_
    refine Go.Sl.ow_skip rfl rfl ?_
    refine Go.Sl.ow_skip rfl rfl ?_
    refine Go.Sl.ow_val rfl rfl (Go.Sl.v_pick_false rfl rfl) ?_
    refine Go.Sl.ow_val rfl rfl (Go.Sl.v_assign rfl) ?_
    refine Go.Sl.ow_nil ?_
    rotate_left
    all_goals
      simp only [hb1] at *
      refine xw_joint () trivial (by first | exact Go.Sl.Cov.refl _ | (intro p; simp only [List.flatten_cons, List.flatten_nil, List.flatten_append, List.append_nil, List.nil_append, Go.Sl.cnt_append, Go.Sl.cnt_cons, Go.Sl.cnt_nil, List.set_cons_zero, List.set_cons_succ, List.length_nil, List.length_cons, Nat.zero_add, List.append]; omega)) ?_
      have hv : sameF f g = sameF f g := rfl
      conv at hv => rhs; unfold sameF
      simp [*] at hv
      simp only [hv]
      exact (by repeat (first | exact True.intro | refine And.intro rfl ?_))
  rintro _ _
  have hdok : ({ f with cod := IntKind.u64.wrap (f.cod + 1) } : FrM).ok := ⟨hf.k, hf.st, hf.off, hf.lim, wrapU _, hf.rg, hf.dl, hf.e0, hf.e1, hf.e2, hf.sq, hf.pr, hf.tok, hf.wd⟩
  have hdc : (({ f with cod := IntKind.u64.wrap (f.cod + 1) } : FrM).cells { p with da := ao69, dc := cap69 }).length = 39 := FrM.cells_len hdok
  have hdo : ∀ u ∈ ({ f with cod := IntKind.u64.wrap (f.cod + 1) } : FrM).cells { p with da := ao69, dc := cap69 }, u.oneCell' = true := FrM.cells_one
  have hsff : sameF f f = true := sameF_iff.2 rfl
  have hsfd : sameF f ({ f with cod := IntKind.u64.wrap (f.cod + 1) } : FrM) = false := by
    cases hx : sameF f ({ f with cod := IntKind.u64.wrap (f.cod + 1) } : FrM) with
    | false => rfl
    | true =>
      have h1 := congrArg FrM.cod (sameF_iff.1 hx)
      exact absurd h1 (wrap_ne hf.cod)
  refine Go.Sl.cw_seq ?_
  refine Go.Sl.cw_region ?_
  refine Go.Sl.ow_val rfl rfl (Go.Sl.v_move rfl) ?_
  refine Go.Sl.ow_val rfl rfl (Go.Sl.v_eql rfl rfl) ?_
  refine Go.Sl.ow_val rfl rfl (Go.Sl.v_move rfl) ?_
  refine Go.Sl.ow_dec 189 rfl (fun hc189 => ?_) (fun hc189 => ?_)
  rotate_left; (exfalso; omega); rotate_right
  refine Go.Sl.ow_val rfl rfl (Go.Sl.v_move rfl) ?_
  refine Go.Sl.ow_val rfl rfl (Go.Sl.v_eql rfl rfl) ?_
  refine Go.Sl.ow_val rfl rfl (Go.Sl.v_move rfl) ?_
  refine Go.Sl.ow_skip rfl rfl ?_
  refine Go.Sl.ow_skip rfl rfl ?_
  refine Go.Sl.ow_skip rfl rfl ?_
  refine Go.Sl.ow_skip rfl rfl ?_
  refine Go.Sl.ow_val rfl rfl (Go.Sl.v_pick_true rfl rfl) ?_
  refine Go.Sl.ow_val rfl rfl (Go.Sl.v_pick_true rfl rfl) ?_
  refine Go.Sl.ow_val rfl rfl (Go.Sl.v_move rfl) ?_
  refine Go.Sl.ow_val rfl rfl (Go.Sl.v_load rfl (Go.Sl.Var.atN Ty.ag30 (.there (.there (.there (.there (.there (.there (.there (.there .here)))))))) Go.Sl.GetN.all (by first | rfl | assumption))) ?_
  refine Go.Sl.ow_val rfl rfl (Go.Sl.v_load rfl (Go.Sl.Var.atN Ty.ag30 (.there (.there (.there (.there (.there (.there .here)))))) Go.Sl.GetN.all (by first | rfl | assumption))) ?_
  refine Go.Sl.ow_val rfl rfl (Go.Sl.v_call rfl rfl (same_c hf hf (hF _) ⟨Go.Sl.Ls.vw hLd (by repeat (first | exact Go.Sl.Sub.here | assumption | refine Go.Sl.Sub.there ?_)), (hF _).r, (hF _).i⟩ (by omega))) ?_
  refine Go.Sl.ow_val rfl rfl (Go.Sl.v_pick_true rfl rfl) ?_
  refine Go.Sl.ow_val rfl rfl (Go.Sl.v_move rfl) ?_
  refine Go.Sl.ow_bool 204 rfl (fun hc204 => ?_) (fun hc204 => ?_)
  refine Go.Sl.ow_val rfl rfl (Go.Sl.v_load rfl (Go.Sl.Var.atN Ty.ag30 (.there (.there (.there (.there (.there (.there (.there (.there .here)))))))) Go.Sl.GetN.all (by first | rfl | assumption))) ?_
  refine Go.Sl.ow_val rfl rfl (Go.Sl.v_load rfl (Go.Sl.Var.atN Ty.ag30 (.there (.there (.there (.there (.there .here))))) Go.Sl.GetN.all (by first | rfl | assumption))) ?_
  refine Go.Sl.ow_val rfl rfl (Go.Sl.v_call rfl rfl (same_c hf hdok (hF _) ⟨Go.Sl.Ls.vw hLd (by repeat (first | exact Go.Sl.Sub.here | assumption | refine Go.Sl.Sub.there ?_)), (hF _).r, (hF _).i⟩ (by omega))) ?_
  refine Go.Sl.ow_val rfl rfl (Go.Sl.v_not_bool rfl) ?_
  refine Go.Sl.ow_val rfl rfl (Go.Sl.v_pick_true rfl rfl) ?_
  refine Go.Sl.ow_val rfl rfl (Go.Sl.v_move rfl) ?_
  refine Go.Sl.ow_bool 210 rfl (fun hc210 => ?_) (fun hc210 => ?_)
  refine Go.Sl.ow_val rfl rfl (Go.Sl.v_load rfl (Go.Sl.Var.atN Ty.ag30 (.there (.there (.there (.there (.there (.there (.there (.there .here)))))))) Go.Sl.GetN.all (by first | rfl | assumption))) ?_
  refine Go.Sl.ow_val rfl rfl (Go.Sl.v_load rfl (Go.Sl.Var.atN Ty.ag30 (.there (.there (.there (.there (.there (.there (.there .here))))))) Go.Sl.GetN.all (by first | rfl | assumption))) ?_
  refine Go.Sl.ow_val rfl rfl (Go.Sl.v_call rfl rfl (same_c hf hg (hF _) (hG _) (by omega))) ?_
  refine Go.Sl.ow_val rfl rfl (Go.Sl.v_move rfl) ?_
  refine Go.Sl.ow_val rfl rfl (Go.Sl.v_eqlB Try.underlying4 rfl rfl) ?_
  refine Go.Sl.ow_val rfl rfl (Go.Sl.v_pick_true rfl rfl) ?_
  refine Go.Sl.ow_val rfl rfl (Go.Sl.v_assign rfl) ?_
  refine Go.Sl.ow_nil ?_
  refine Go.Sl.xw_then ?_
  refine Go.Sl.cw_ret ?_
  refine Go.Sl.ret1 rfl (Go.Sl.res_tmp rfl) ?_
  rotate_left
  refine Go.Sl.ow_skip rfl rfl ?_
  refine Go.Sl.ow_skip rfl rfl ?_
  refine Go.Sl.ow_skip rfl rfl ?_
  refine Go.Sl.ow_skip rfl rfl ?_
  refine Go.Sl.ow_skip rfl rfl ?_
  refine Go.Sl.ow_val rfl rfl (Go.Sl.v_pick_false rfl rfl) ?_
  refine Go.Sl.ow_val rfl rfl (Go.Sl.v_assign rfl) ?_
  refine Go.Sl.ow_nil ?_
  refine Go.Sl.xw_then ?_
  refine Go.Sl.cw_ret ?_
  refine Go.Sl.ret1 rfl (Go.Sl.res_tmp rfl) ?_
  rotate_left
  refine Go.Sl.ow_skip rfl rfl ?_
  refine Go.Sl.ow_skip rfl rfl ?_
  refine Go.Sl.ow_skip rfl rfl ?_
  refine Go.Sl.ow_skip rfl rfl ?_
  refine Go.Sl.ow_val rfl rfl (Go.Sl.v_pick_false rfl rfl) ?_
  refine Go.Sl.ow_val rfl rfl (Go.Sl.v_move rfl) ?_
  refine Go.Sl.ow_skip rfl rfl ?_
  refine Go.Sl.ow_skip rfl rfl ?_
  refine Go.Sl.ow_skip rfl rfl ?_
  refine Go.Sl.ow_skip rfl rfl ?_
  refine Go.Sl.ow_skip rfl rfl ?_
  refine Go.Sl.ow_val rfl rfl (Go.Sl.v_pick_false rfl rfl) ?_
  refine Go.Sl.ow_val rfl rfl (Go.Sl.v_assign rfl) ?_
  refine Go.Sl.ow_nil ?_
  refine Go.Sl.xw_then ?_
  refine Go.Sl.cw_ret ?_
  refine Go.Sl.ret1 rfl (Go.Sl.res_tmp rfl) ?_
  rotate_left
  all_goals first
    | exact done0 (congrArg Value.bool (decide_eq_true rfl)) (by first | exact Go.Sl.Cov.refl _ | (intro p; simp only [List.flatten_cons, List.flatten_nil, List.flatten_append, List.append_nil, List.nil_append, Go.Sl.cnt_append, Go.Sl.cnt_cons, Go.Sl.cnt_nil, List.set_cons_zero, List.set_cons_succ, List.length_nil, List.length_cons, Nat.zero_add, List.append]; omega))
    | (exfalso; rw [hsfd] at hc210; exact Bool.noConfusion hc210)
    | (exfalso; rw [hsff] at hc204; exact Bool.noConfusion hc204)
    | exact absurd rfl hc189
    | exact absurd rfl hc191
    | (exfalso; simp_all)
theorem open_frame {H : Type} {enc : TypeId × Value → H} {W : World} {base : Nat} {v : Value} {d : DataW H} {p : List MemPlace} (hv : Value.okWide Try.prog W .any base 30 v) (h : DataW.Trod enc Try.prog W 0 (fun _ => true) true 30 v d p) :
    ∃ e : FrE, v = .agg (e.m.cells e.p).toArray ∧ e.m.ok ∧ ∀ G, FrIn (St W.heap.size W G) e.m e.p := by
  obtain ⟨cs, rfl, _⟩ := okWide_struct Try.underlying30 hv
  obtain ⟨fuel, hf⟩ := h
  obtain ⟨e, h1, h2, h3, _⟩ := form_frame hf
  refine ⟨e, ?_, h2, h3⟩
  congr 1
  apply Array.ext'
  simpa [Value.cells] using h1
theorem walk {H : Type} {enc : TypeId × Value → H} (W : World) (base : Nat) (args : Array Value) (ds : List (DataW H)) (p : List MemPlace)
    (hval : ∀ (j : Nat) t v, Try.f5.params[j]? = some t → args[j]? = some v → Value.okWide Try.prog W .any base t v)
    (hA : DataW.TrodAll enc Try.prog W 0 (fun _ => true) true Try.f5.params.toList args.toList ds p) :
    Calls Try.prog 5 args W fun e w' => e = .returned (.bool true) ∧ Below W.heap.size W w' := by
  rw [Try.params5] at hA hval
  obtain ⟨v0, vs0, d0, ds0, p0, q0, hargs, rfl, rfl, h0, r0⟩ := trodAll_cons hA
  obtain ⟨v1, vs1, d1, ds1, p1, q1, rfl, rfl, rfl, h1, r1⟩ := trodAll_cons r0
  obtain ⟨v2, vs2, d2, ds2, p2, q2, rfl, rfl, rfl, h2, r2⟩ := trodAll_cons r1
  obtain ⟨rfl, rfl, rfl⟩ := trodAll_nil r2
  obtain rfl : args = #[v0, v1, v2] := by cases args; simp_all
  obtain ⟨k, rfl, hk⟩ := open_u8 (hval 0 5 v0 rfl rfl) h0
  obtain ⟨e1, rfl, ok1, in1⟩ := open_frame (hval 1 30 v1 rfl rfl) h1
  obtain ⟨e2, rfl, ok2, in2⟩ := open_frame (hval 2 30 v2 rfl rfl) h2
  exact (law hk ok1 ok2 in1 in2 []).call

theorem own : ownKnob Try.prog.godebug = none := by kernel_rfl
theorem laidOut : laidOutB Try.prog = true := by kernel_rfl
theorem reads : ∀ t ∈ Try.f5.params.toList, Try.prog.readableRec t = true ∧ t < Try.prog.types.size := by
  rw [Try.params5]
  intro t ht
  simp only [List.mem_cons, List.not_mem_nil, or_false] at ht
  rcases ht with rfl | rfl | rfl
  · exact ⟨by kernel_rfl, of_decide_eq_true (by kernel_rfl)⟩
  · exact ⟨by kernel_rfl, of_decide_eq_true (by kernel_rfl)⟩
  · exact ⟨by kernel_rfl, of_decide_eq_true (by kernel_rfl)⟩

set_option maxRecDepth 100000 in
theorem lifted (os : Os) (started : os.Started) (H : Type) (enc : TypeId × Value → H) :
    ReturnsInHanded {} Try.checked os 5 .any (Rows.frameWordsSpec.pre6 enc Try.prog Try.f5 Rows.frameWordsRow.domain false) (Rows.frameWordsSpec.post enc Try.prog Try.f5 false true false false) := by
  refine returnsInHanded_of_change (C := Try.checked) own started (by kernel_rfl) Try.func5
    (ChangeSpec.witness6 (enc := enc) (C := Try.checked) false ⟨#[], #[.int .u8 0, .agg #[.int .u8 0, .int .u64 0, .int .u64 0, .int .u64 0, .int .u64 0, .slice none 0 0, .bool false, .slice none 0 0, .int .u64 0, .int .u64 0, .int .u64 0, .int .u64 0, .int .u64 0, .int .u64 0, .slice none 0 0, .int .u8 0, .int .u8 0, .int .u8 0, .int .u8 0, .int .u8 0, .int .u8 0, .int .u8 0, .int .u8 0, .int .u8 0, .int .u8 0, .int .u8 0, .int .u8 0, .int .u8 0, .int .u8 0, .int .u8 0, .int .u8 0, .int .u8 0, .int .u8 0, .int .u8 0, .int .u8 0, .int .u8 0, .int .u8 0, .int .u8 0, .int .u8 0], .agg #[.int .u8 0, .int .u64 0, .int .u64 0, .int .u64 0, .int .u64 0, .slice none 0 0, .bool false, .slice none 0 0, .int .u64 0, .int .u64 0, .int .u64 0, .int .u64 0, .int .u64 0, .int .u64 0, .slice none 0 0, .int .u8 0, .int .u8 0, .int .u8 0, .int .u8 0, .int .u8 0, .int .u8 0, .int .u8 0, .int .u8 0, .int .u8 0, .int .u8 0, .int .u8 0, .int .u8 0, .int .u8 0, .int .u8 0, .int .u8 0, .int .u8 0, .int .u8 0, .int .u8 0, .int .u8 0, .int .u8 0, .int .u8 0, .int .u8 0, .int .u8 0, .int .u8 0]], []⟩ 8 (by kernel_rfl) (by kernel_rfl) (by kernel_rfl) (by kernel_rfl)) ?_
  intro W base args ds gs before hval hW _ _
  have hW' := hW
  obtain ⟨p, q, hA0, hV, rfl, _, _⟩ := hW
  obtain ⟨rfl, rfl⟩ := trodVars_none hV
  have hA : DataW.TrodAll enc Try.prog W 0 (fun _ => true) true Try.f5.params.toList args.toList ds p := hA0
  have hlen := trodAll_len hA
  refine (walk W base args ds p hval hA).mono fun e W' ⟨he, bel⟩ => ?_
  subst he
  rw [Try.params5] at hlen
  match ds, hlen.2, hA, hW' with
  | [d0, d1, d2], _, hA, hW' => exact ⟨_, rfl, _, _, _, [], _, [], hW', trodAll_mk1 (shut_bool Try.underlying4 _), trodAll_stays laidOut bel reads hA, rfl, bel.frame _, fun h => by cases h⟩

theorem over : Rows.frameWordsRow.holds Try.pinned (OpenSpec.ofChange Rows.frameWordsSpec) :=
  OpenClaim.holds_of_wide 5 Try.f5 rfl rfl rfl rfl rfl rfl rfl ⟨rfl, rfl, rfl, rfl, rfl⟩ rfl rfl rfl rfl rfl (by kernel_rfl) Try.func5 (by kernel_rfl)
    (of_decide_eq_true (by kernel_rfl)) (by unfold Func.isWrapper; first | (rw [if_pos (by decide +kernel)]; kernel_rfl) | (rw [if_neg (by decide +kernel)]; exact ⟨rfl, rfl⟩))
    (fun os started H enc _ => lifted os started H enc)

theorem proved : Rows.FrameWordsSaid := over

end Go.Proofs.Ytckdhelnafjddaa.lawFrameWords
