/- A small frame's frame. Conditions: numbers fit their types. -/
import Derived.Test.YtckdhelnafjddaaFrL
namespace Go.Proofs.Ytckdhelnafjddaa
open Go Go.Sl Go.Proofs Go.RowKit Go.ChangeShapes Go.WideShapes Go.ChangeAt
set_option maxRecDepth 20000
set_option linter.unusedVariables false
set_option linter.unusedSimpArgs false

theorem b_small {k a b c : Int} {d i : Option Addr} {dn dc n ic : Nat} {fin : Bool} {t0 t1 t2 t3 t4 t5 t6 t7 t8 t9 t10 t11 t12 t13 t14 t15 w0 w1 w2 w3 w4 w5 w6 w7 : UInt8} : Build Try.prog 30 #[(0, .int .u8 k), (1, .int .u64 a), (2, .int .u64 c), (3, .int .u64 c), (4, .int .u64 b), (5, .slice d dn dc), (6, .bool fin), (8, .int .u64 b), (9, .agg [Value.int .u64 a, .int .u64 b, .int .u64 c].toArray), (10, .int .u64 c), (11, .int .u64 b), (12, .slice i n ic), (13, .agg [u8V t0, u8V t1, u8V t2, u8V t3, u8V t4, u8V t5, u8V t6, u8V t7, u8V t8, u8V t9, u8V t10, u8V t11, u8V t12, u8V t13, u8V t14, u8V t15].toArray), (14, .agg [u8V w0, u8V w1, u8V w2, u8V w3, u8V w4, u8V w5, u8V w6, u8V w7].toArray)]
  (.agg [Value.int .u8 k, .int .u64 a, .int .u64 c, .int .u64 c, .int .u64 b, .slice d dn dc, .bool fin, .slice none 0 0, .int .u64 b, .int .u64 a, .int .u64 b, .int .u64 c, .int .u64 c, .int .u64 b, .slice i n ic, u8V t0, u8V t1, u8V t2, u8V t3, u8V t4, u8V t5, u8V t6, u8V t7, u8V t8, u8V t9, u8V t10, u8V t11, u8V t12, u8V t13, u8V t14, u8V t15, u8V w0, u8V w1, u8V w2, u8V w3, u8V w4, u8V w5, u8V w6, u8V w7].toArray) := fun w => by kernel_rfl
theorem Ty.ze32 : Zero Try.prog 32 [.int .u8 0, .int .u64 0, .int .u64 0, .int .u64 0, .slice none 0 0, .bool false, .slice none 0 0, .int .u8 0, .int .u8 0, .int .u8 0, .int .u8 0, .int .u8 0, .int .u8 0, .int .u8 0, .int .u8 0, .int .u8 0, .int .u8 0, .int .u8 0, .int .u8 0, .int .u8 0, .int .u8 0, .int .u8 0, .int .u8 0, .int .u8 0, .int .u8 0, .int .u8 0, .int .u8 0, .int .u8 0, .int .u8 0, .int .u8 0, .int .u8 0, .int .u8 0, .int .u64 0, .int .u64 0, .int .u64 0, .int .u64 0, .slice none 0 0, .bool false, .slice none 0 0, .int .u64 0, .int .u64 0, .int .u64 0, .int .u64 0, .int .u64 0, .int .u64 0, .slice none 0 0, .int .u8 0, .int .u8 0, .int .u8 0, .int .u8 0, .int .u8 0, .int .u8 0, .int .u8 0, .int .u8 0, .int .u8 0, .int .u8 0, .int .u8 0, .int .u8 0, .int .u8 0, .int .u8 0, .int .u8 0, .int .u8 0, .int .u8 0, .int .u8 0, .int .u8 0, .int .u8 0, .int .u8 0, .int .u8 0, .int .u8 0, .int .u8 0, .bool false, .bool false] := Zero.of (z := .agg #[.int .u8 0, .int .u64 0, .int .u64 0, .int .u64 0, .slice none 0 0, .bool false, .slice none 0 0, .int .u8 0, .int .u8 0, .int .u8 0, .int .u8 0, .int .u8 0, .int .u8 0, .int .u8 0, .int .u8 0, .int .u8 0, .int .u8 0, .int .u8 0, .int .u8 0, .int .u8 0, .int .u8 0, .int .u8 0, .int .u8 0, .int .u8 0, .int .u8 0, .int .u8 0, .int .u8 0, .int .u8 0, .int .u8 0, .int .u8 0, .int .u8 0, .int .u8 0, .int .u64 0, .int .u64 0, .int .u64 0, .int .u64 0, .slice none 0 0, .bool false, .slice none 0 0, .int .u64 0, .int .u64 0, .int .u64 0, .int .u64 0, .int .u64 0, .int .u64 0, .slice none 0 0, .int .u8 0, .int .u8 0, .int .u8 0, .int .u8 0, .int .u8 0, .int .u8 0, .int .u8 0, .int .u8 0, .int .u8 0, .int .u8 0, .int .u8 0, .int .u8 0, .int .u8 0, .int .u8 0, .int .u8 0, .int .u8 0, .int .u8 0, .int .u8 0, .int .u8 0, .int .u8 0, .int .u8 0, .int .u8 0, .int .u8 0, .int .u8 0, .bool false, .bool false]) (by kernel_rfl) rfl
theorem get_raw {s : SmE} {T : TypeId} {fr : Nat × Nat} (h : s.ok) : GetN (.cells s.cells.toArray T fr) 70 [.bool s.raw] := by
  have e : s.cells = (.int .u8 s.k :: .int .u64 s.a :: .int .u64 s.b :: .int .u64 s.c :: .slice s.da s.data.length s.dc :: .bool s.fin :: .slice s.ga s.gaps.length s.gc :: (s.wd.map u8V ++ (s.tok.map u8V ++ s.any.m.cells s.any.p))) ++ ([.bool s.raw] ++ [.bool s.large]) := by simp [SmE.cells, SmE.tail]
  rw [e]
  have h1 := h.tok
  have h2 := h.wd
  have h3 := FrM.cells_len (p := s.any.p) h.any
  exact GetN.part (by simp [h1, h2, h3])
theorem get_large {s : SmE} {T : TypeId} {fr : Nat × Nat} (h : s.ok) : GetN (.cells s.cells.toArray T fr) 71 [.bool s.large] := by
  have e : s.cells = (.int .u8 s.k :: .int .u64 s.a :: .int .u64 s.b :: .int .u64 s.c :: .slice s.da s.data.length s.dc :: .bool s.fin :: .slice s.ga s.gaps.length s.gc :: (s.wd.map u8V ++ (s.tok.map u8V ++ (s.any.m.cells s.any.p ++ [.bool s.raw])))) ++ ([.bool s.large] ++ []) := by simp [SmE.cells, SmE.tail]
  rw [e]
  have h1 := h.tok
  have h2 := h.wd
  have h3 := FrM.cells_len (p := s.any.p) h.any
  exact GetN.part (by simp [h1, h2, h3])
theorem get_any {s : SmE} {T : TypeId} {fr : Nat × Nat} (h : s.ok) : GetN (.cells s.cells.toArray T fr) 31 (s.any.m.cells s.any.p) := by
  have e : s.cells = (.int .u8 s.k :: .int .u64 s.a :: .int .u64 s.b :: .int .u64 s.c :: .slice s.da s.data.length s.dc :: .bool s.fin :: .slice s.ga s.gaps.length s.gc :: (s.wd.map u8V ++ s.tok.map u8V)) ++ (s.any.m.cells s.any.p ++ [.bool s.raw, .bool s.large]) := by simp [SmE.cells, SmE.tail]
  rw [e]
  have h1 := h.tok
  have h2 := h.wd
  exact GetN.part (by simp [h1, h2])
theorem get_swd {s : SmE} {T : TypeId} {fr : Nat × Nat} : GetN (.cells s.cells.toArray T fr) 7 (s.wd.map u8V) := by
  have e : s.cells = [.int .u8 s.k, .int .u64 s.a, .int .u64 s.b, .int .u64 s.c, .slice s.da s.data.length s.dc, .bool s.fin, .slice s.ga s.gaps.length s.gc] ++ (s.wd.map u8V ++ (s.tok.map u8V ++ (s.any.m.cells s.any.p ++ [.bool s.raw, .bool s.large]))) := rfl
  rw [e]
  exact GetN.part rfl
theorem get_stok {s : SmE} {T : TypeId} {fr : Nat × Nat} (h : s.ok) : GetN (.cells s.cells.toArray T fr) 15 (s.tok.map u8V) := by
  have e : s.cells = ([.int .u8 s.k, .int .u64 s.a, .int .u64 s.b, .int .u64 s.c, .slice s.da s.data.length s.dc, .bool s.fin, .slice s.ga s.gaps.length s.gc] ++ s.wd.map u8V) ++ (s.tok.map u8V ++ (s.any.m.cells s.any.p ++ [.bool s.raw, .bool s.large])) := by simp [SmE.cells, SmE.tail]
  rw [e]
  have h2 := h.wd
  exact GetN.part (by simp [h2])
set_option maxHeartbeats 8000000 in
theorem smallFrame_c {B : Nat} {w0 : World} {G : List Hp} {s : SmE} (hok : s.ok) (hI : s.In (St B w0 G)) :
    Go.Sl.Fn Try.prog 11 #[.agg s.cells.toArray] B w0 G fun u G' => ∃ x : FrM × FrP × Hp, u = .agg (x.1.cells x.2.1).toArray ∧ (x.1.ok ∧ FrLen x.1 ∧ ∀ G', s.In (St B w0 G') → FrIn (St B w0 (x.2.2 :: G')) x.1 x.2.1) ∧ G' = [x.2.2] ++ G := by
  refine Fn.new (V := fun x : FrM × FrP × Hp => .agg (x.1.cells x.2.1).toArray) (Nw := fun x => [x.2.2]) ?_
  have hlen : (s.any.m.cells s.any.p).length = 39 := FrM.cells_len hok.any
  have hone : ∀ u ∈ s.any.m.cells s.any.p, u.oneCell' = true := FrM.cells_one
  have hwl : (s.wd.map u8V).length = 8 := by rw [List.length_map]; exact hok.wd
  have htl : (s.tok.map u8V).length = 16 := by rw [List.length_map]; exact hok.tok
  have hk := hok.k
  have hkm : 0 ≤ s.k.tmod 31 ∧ s.k.tmod 31 < 31 := ⟨Int.tmod_nonneg _ hk.1, Int.tmod_lt_of_pos _ (by decide)⟩
  have ha0 := hok.a
  have hb0 := hok.b
  have hc0 := hok.c
  unfold inU at ha0 hb0 hc0
  obtain ⟨t0, t1, t2, t3, t4, t5, t6, t7, t8, t9, t10, t11, t12, t13, t14, t15, ht⟩ := list16 hok.tok
  obtain ⟨v0, v1, v2, v3, v4, v5, v6, v7, hw⟩ := list8 hok.wd
  have gt : GetN (.cells s.cells.toArray 32 (0, 0)) 15 [u8V t0, u8V t1, u8V t2, u8V t3, u8V t4, u8V t5, u8V t6, u8V t7, u8V t8, u8V t9, u8V t10, u8V t11, u8V t12, u8V t13, u8V t14, u8V t15] := by
    have := get_stok (T := 32) (fr := (0, 0)) hok
    rw [ht] at this
    exact this
  have gw : GetN (.cells s.cells.toArray 32 (0, 0)) 7 [u8V v0, u8V v1, u8V v2, u8V v3, u8V v4, u8V v5, u8V v6, u8V v7] := by
    have := get_swd (s := s) (T := 32) (fr := (0, 0))
    rw [hw] at this
    exact this
  refine fn_enter Try.func11 rfl (by kernel_rfl) Try.ntmps11 (by simp) ?_
  refine Go.Sl.cw_seq ?_
  refine Go.Sl.cw_region ?_
  (refine Go.Sl.ow_box rfl rfl rfl rfl ?_; intro b1)
  (refine Go.Sl.ow_alloc rfl rfl Ty.ze30 ?_; intro b2)
  refine Go.Sl.ow_nil ?_
  refine Go.Sl.xw_then ?_
  refine Go.Sl.cw_seq ?_
  refine Go.Sl.cw_seq ?_
  refine Go.Sl.cw_region ?_
  refine Go.Sl.ow_val rfl rfl (Go.Sl.v_fieldAddr0 Ty.fd32_10 rfl) ?_
  refine Go.Sl.ow_val rfl rfl (Go.Sl.v_load rfl (Go.Sl.Var.at1 Ty.sc4 (.there .here) ((get_raw hok)))) ?_
  refine Go.Sl.ow_nil ?_
  refine Go.Sl.xw_then ?_
  refine Go.Sl.cw_bool rfl (fun hc13 => ?_) (fun hc13 => ?_)
  refine Go.Sl.cw_seq ?_
  refine Go.Sl.cw_region ?_
  refine Go.Sl.ow_val rfl rfl (Go.Sl.v_fieldAddr0 Ty.fd32_9 rfl) ?_
  refine Go.Sl.ow_val rfl rfl (Go.Sl.v_load rfl (Go.Sl.Var.atN Ty.ag30 (.there .here) ((get_any hok)) (by first | rfl | assumption))) ?_
  refine Go.Sl.ow_storeN rfl rfl rfl Ty.ag30 (by first | rfl | assumption) (by first | assumption | simp) .here ((SetN.all hlen)) ?_
  refine Go.Sl.ow_nil ?_
  refine Go.Sl.xw_then ?_
  refine Go.Sl.cw_ret ?_
  refine Go.Sl.xw_then_ret ?_
  refine Go.Sl.ret1 rfl (Go.Sl.res_cell rfl (Go.Sl.Var.atN Ty.ag30 .here Go.Sl.GetN.all (by first | rfl | assumption))) ?_
  rotate_left
  refine Go.Sl.cw_skip ?_
  refine Go.Sl.xw_then ?_
  rotate_left
  · exact ⟨(s.any.m, s.any.p, []), rfl, ⟨hok.any, hok.len, fun G' hI' => hI'.any.cov (by first | exact Go.Sl.Cov.refl _ | (intro p; simp only [List.flatten_cons, List.flatten_nil, List.flatten_append, List.append_nil, List.nil_append, Go.Sl.cnt_append, Go.Sl.cnt_cons, Go.Sl.cnt_nil, List.set_cons_zero, List.set_cons_succ, List.length_nil, List.length_cons, Nat.zero_add, List.append]; omega))⟩, (by first | exact Go.Sl.Cov.refl _ | (intro p; simp only [List.flatten_cons, List.flatten_nil, List.flatten_append, List.append_nil, List.nil_append, Go.Sl.cnt_append, Go.Sl.cnt_cons, Go.Sl.cnt_nil, List.set_cons_zero, List.set_cons_succ, List.length_nil, List.length_cons, Nat.zero_add, List.append]; omega))⟩
  show CW _ _ B w0 _ ([(b2, .cells ((FrM.zero 0).cells FrP.nil).toArray 30 (0, 0))] :: [(b1, .cells s.cells.toArray 32 (0, 0))] :: G) _ _
  refine Go.Sl.cw_seq ?_
  refine Go.Sl.cw_region ?_
  refine Go.Sl.ow_val rfl rfl (Go.Sl.v_fieldAddr0 Ty.fd32_0 rfl) ?_
  refine Go.Sl.ow_val rfl rfl (Go.Sl.v_load rfl (Go.Sl.Var.at1 Ty.sc5 (.there .here) (Go.Sl.GetN.lit rfl))) ?_
  refine Go.Sl.ow_val rfl rfl (Go.Sl.v_rem rfl rfl (by decide)) ?_
  refine Go.Sl.ow_val rfl rfl (Go.Sl.v_assign rfl) ?_
  refine Go.Sl.ow_nil ?_
  refine Go.Sl.xw_then ?_
  refine Go.Sl.cw_cut2 (ι := (Int)) [(0, _), (1, _), (2, _), (12, _), (13, _)] ⟨rfl, rfl, rfl, rfl, rfl, trivial⟩ ((fun x => [(3, .int .u8 x)])) ((fun x => 0 ≤ x ∧ x ≤ 30)) ((fun _ => [(b2, .cells ((FrM.zero 0).cells FrP.nil).toArray 30 (0, 0))] :: [(b1, .cells s.cells.toArray 32 (0, 0))] :: G)) ?_ ?_
  · refine Go.Sl.cw_seq ?_
    refine Go.Sl.cw_region ?_
    refine Go.Sl.ow_val rfl rfl (Go.Sl.v_move rfl) ?_
    refine Go.Sl.ow_val rfl rfl (Go.Sl.v_gtr rfl rfl) ?_
    refine Go.Sl.ow_val rfl rfl (Go.Sl.v_move rfl) ?_
    refine Go.Sl.ow_dec 21 rfl (fun hc21 => ?_) (fun hc21 => ?_)
    refine Go.Sl.ow_val rfl rfl (Go.Sl.v_move rfl) ?_
    refine Go.Sl.ow_val rfl rfl (Go.Sl.v_lss rfl rfl) ?_
    refine Go.Sl.ow_val rfl rfl (Go.Sl.v_pick_true rfl rfl) ?_
    refine Go.Sl.ow_nil ?_
    refine Go.Sl.xw_then ?_
    refine Go.Sl.cw_dec rfl (fun hc24 => ?_) (fun hc24 => ?_)
    refine Go.Sl.cw_region ?_
    refine Go.Sl.ow_val rfl rfl (Go.Sl.v_assign rfl) ?_
    refine Go.Sl.ow_nil ?_
    rotate_left
    refine Go.Sl.cw_skip ?_
    rotate_left
    refine Go.Sl.ow_skip rfl rfl ?_
    refine Go.Sl.ow_skip rfl rfl ?_
    refine Go.Sl.ow_val rfl rfl (Go.Sl.v_pick_false rfl rfl) ?_
    refine Go.Sl.ow_nil ?_
    refine Go.Sl.xw_then ?_
    refine Go.Sl.cw_false rfl ?_
    refine Go.Sl.cw_skip ?_
    rotate_left
    · exact xw_joint 8 (by decide) (by first | exact Go.Sl.Cov.refl _ | (intro p; simp only [List.flatten_cons, List.flatten_nil, List.flatten_append, List.append_nil, List.nil_append, Go.Sl.cnt_append, Go.Sl.cnt_cons, Go.Sl.cnt_nil, List.set_cons_zero, List.set_cons_succ, List.length_nil, List.length_cons, Nat.zero_add, List.append]; omega)) (by repeat (first | exact True.intro | refine And.intro rfl ?_))
    · exact xw_joint (s.k.tmod 31) (by omega) (by first | exact Go.Sl.Cov.refl _ | (intro p; simp only [List.flatten_cons, List.flatten_nil, List.flatten_append, List.append_nil, List.nil_append, Go.Sl.cnt_append, Go.Sl.cnt_cons, Go.Sl.cnt_nil, List.set_cons_zero, List.set_cons_succ, List.length_nil, List.length_cons, Nat.zero_add, List.append]; omega)) (by repeat (first | exact True.intro | refine And.intro rfl ?_))
    · exact xw_joint (s.k.tmod 31) (by omega) (by first | exact Go.Sl.Cov.refl _ | (intro p; simp only [List.flatten_cons, List.flatten_nil, List.flatten_append, List.append_nil, List.nil_append, Go.Sl.cnt_append, Go.Sl.cnt_cons, Go.Sl.cnt_nil, List.set_cons_zero, List.set_cons_succ, List.length_nil, List.length_cons, Nat.zero_add, List.append]; omega)) (by repeat (first | exact True.intro | refine And.intro rfl ?_))
  rintro kk hkk
  refine Go.Sl.cw_seq ?_
  refine Go.Sl.cw_quiet Ty.mixed (by decide +kernel) ?_
  refine Go.Sl.kw_val rfl rfl (Go.Sl.v_fieldAddr0 Ty.fd32_1 rfl) ?_
  refine Go.Sl.kw_val rfl rfl (Go.Sl.v_load rfl (Go.Sl.Var.at1 Ty.sc22 (.there .here) (Go.Sl.GetN.lit rfl))) ?_
  refine Go.Sl.kw_val rfl rfl (Go.Sl.v_fieldAddr0 Ty.fd32_2 rfl) ?_
  refine Go.Sl.kw_val rfl rfl (Go.Sl.v_load rfl (Go.Sl.Var.at1 Ty.sc22 (.there .here) (Go.Sl.GetN.lit rfl))) ?_
  refine Go.Sl.kw_val rfl rfl (Go.Sl.v_fieldAddr0 Ty.fd32_3 rfl) ?_
  refine Go.Sl.kw_val rfl rfl (Go.Sl.v_load rfl (Go.Sl.Var.at1 Ty.sc22 (.there .here) (Go.Sl.GetN.lit rfl))) ?_
  refine Go.Sl.kw_val rfl rfl (Go.Sl.v_assign rfl) ?_
  refine Go.Sl.kw_val rfl rfl (Go.Sl.v_assign rfl) ?_
  refine Go.Sl.kw_val rfl rfl (Go.Sl.v_assign rfl) ?_
  refine Go.Sl.kw_nil ?_
  refine Go.Sl.xw_then ?_
  refine Go.Sl.cw_cut2 (ι := ((Int × Int × Int))) [(0, _), (1, _), (2, _), (3, _), (12, _), (13, _)] ⟨rfl, rfl, rfl, rfl, rfl, rfl, trivial⟩ ((fun x => [(4, .int .u64 x.1), (5, .int .u64 x.2.1), (6, .int .u64 x.2.2)])) ((fun x => inU x.1 ∧ inU x.2.1 ∧ inU x.2.2)) ((fun _ => [(b2, .cells ((FrM.zero 0).cells FrP.nil).toArray 30 (0, 0))] :: [(b1, .cells s.cells.toArray 32 (0, 0))] :: G)) ?_ ?_
  · refine Go.Sl.cw_seq ?_
    refine Go.Sl.cw_region ?_
    refine Go.Sl.ow_val rfl rfl (Go.Sl.v_fieldAddr0 Ty.fd32_11 rfl) ?_
    refine Go.Sl.ow_val rfl rfl (Go.Sl.v_load rfl (Go.Sl.Var.at1 Ty.sc4 (.there .here) ((get_large hok)))) ?_
    refine Go.Sl.ow_val rfl rfl (Go.Sl.v_not_bool rfl) ?_
    refine Go.Sl.ow_nil ?_
    refine Go.Sl.xw_then ?_
    refine Go.Sl.cw_bool rfl (fun hc33 => ?_) (fun hc33 => ?_)
    refine Go.Sl.cw_region ?_
    refine Go.Sl.ow_val rfl rfl (Go.Sl.v_move rfl) ?_
    refine Go.Sl.ow_val rfl rfl (Go.Sl.v_rem rfl rfl (by decide)) ?_
    refine Go.Sl.ow_val rfl rfl (Go.Sl.v_move rfl) ?_
    refine Go.Sl.ow_val rfl rfl (Go.Sl.v_rem rfl rfl (by decide)) ?_
    refine Go.Sl.ow_val rfl rfl (Go.Sl.v_move rfl) ?_
    refine Go.Sl.ow_val rfl rfl (Go.Sl.v_rem rfl rfl (by decide)) ?_
    refine Go.Sl.ow_val rfl rfl (Go.Sl.v_assign rfl) ?_
    refine Go.Sl.ow_val rfl rfl (Go.Sl.v_assign rfl) ?_
    refine Go.Sl.ow_val rfl rfl (Go.Sl.v_assign rfl) ?_
    refine Go.Sl.ow_nil ?_
    rotate_left
    refine Go.Sl.cw_skip ?_
    rotate_left
    · have e1 : 0 ≤ s.a.tmod 20 ∧ s.a.tmod 20 < 20 := ⟨Int.tmod_nonneg _ ha0.1, Int.tmod_lt_of_pos _ (by decide)⟩
      have e2 : 0 ≤ s.b.tmod 100 ∧ s.b.tmod 100 < 100 := ⟨Int.tmod_nonneg _ hb0.1, Int.tmod_lt_of_pos _ (by decide)⟩
      have e3 : 0 ≤ s.c.tmod 5000 ∧ s.c.tmod 5000 < 5000 := ⟨Int.tmod_nonneg _ hc0.1, Int.tmod_lt_of_pos _ (by decide)⟩
      exact xw_joint ((s.a.tmod 20, s.b.tmod 100, s.c.tmod 5000) : Int × Int × Int) ⟨⟨by dsimp only; omega, by dsimp only; omega⟩, ⟨by dsimp only; omega, by dsimp only; omega⟩, ⟨by dsimp only; omega, by dsimp only; omega⟩⟩ (by first | exact Go.Sl.Cov.refl _ | (intro p; simp only [List.flatten_cons, List.flatten_nil, List.flatten_append, List.append_nil, List.nil_append, Go.Sl.cnt_append, Go.Sl.cnt_cons, Go.Sl.cnt_nil, List.set_cons_zero, List.set_cons_succ, List.length_nil, List.length_cons, Nat.zero_add, List.append]; omega)) (by repeat (first | exact True.intro | refine And.intro rfl ?_))
    · exact xw_joint ((s.a, s.b, s.c) : Int × Int × Int) ⟨ha0, hb0, hc0⟩ (by first | exact Go.Sl.Cov.refl _ | (intro p; simp only [List.flatten_cons, List.flatten_nil, List.flatten_append, List.append_nil, List.nil_append, Go.Sl.cnt_append, Go.Sl.cnt_cons, Go.Sl.cnt_nil, List.set_cons_zero, List.set_cons_succ, List.length_nil, List.length_cons, Nat.zero_add, List.append]; omega)) (by repeat (first | exact True.intro | refine And.intro rfl ?_))
  rintro ⟨a, b, c⟩ ⟨ha, hb, hc⟩
  dsimp only at ha hb hc ⊢
  unfold inU at ha hb hc
  have hdc : s.data.length ≤ s.dc := by
    obtain ⟨a', c', e', h'⟩ := hI.data.view
    injection e' with e1 e2 e3
    omega
  have hdl := hok.data
  have hone2 : ∀ u ∈ [Value.int .u8 kk, .int .u64 a, .int .u64 c, .int .u64 c, .int .u64 b, .slice s.da s.data.length s.dc, .bool s.fin, .slice none 0 0, .int .u64 b, .int .u64 a, .int .u64 b, .int .u64 c, .int .u64 c, .int .u64 b, .slice s.da (min (s.data.length : Int) 20).toNat s.dc, u8V t0, u8V t1, u8V t2, u8V t3, u8V t4, u8V t5, u8V t6, u8V t7, u8V t8, u8V t9, u8V t10, u8V t11, u8V t12, u8V t13, u8V t14, u8V t15, u8V v0, u8V v1, u8V v2, u8V v3, u8V v4, u8V v5, u8V v6, u8V v7], u.oneCell' = true := List.all_eq_true.1 (show [Value.int .u8 kk, .int .u64 a, .int .u64 c, .int .u64 c, .int .u64 b, .slice s.da s.data.length s.dc, .bool s.fin, .slice none 0 0, .int .u64 b, .int .u64 a, .int .u64 b, .int .u64 c, .int .u64 c, .int .u64 b, .slice s.da (min (s.data.length : Int) 20).toNat s.dc, u8V t0, u8V t1, u8V t2, u8V t3, u8V t4, u8V t5, u8V t6, u8V t7, u8V t8, u8V t9, u8V t10, u8V t11, u8V t12, u8V t13, u8V t14, u8V t15, u8V v0, u8V v1, u8V v2, u8V v3, u8V v4, u8V v5, u8V v6, u8V v7].all (fun u => u.oneCell') = true from rfl)
  refine Go.Sl.cw_seq ?_
  refine Go.Sl.cw_mix [28] [29] [0, 1, 2, 3, 4, 5, 6, 7, 8, 9, 10, 11, 12, 13, 14, 15, 16, 17, 18, 19, 20, 21, 22, 23, 24, 25, 26, 27] Ty.mixed rfl rfl rfl rfl (by decide +kernel) ?_
  refine Go.Sl.hw_pure rfl rfl (Go.Sl.v_move rfl) rfl ?_
  refine Go.Sl.hw_pure rfl rfl (Go.Sl.v_move rfl) rfl ?_
  refine Go.Sl.hw_pure rfl rfl (Go.Sl.v_move rfl) rfl ?_
  refine Go.Sl.hw_pure rfl rfl (Go.Sl.v_move rfl) rfl ?_
  refine Go.Sl.hw_pure rfl rfl (Go.Sl.v_move rfl) rfl ?_
  refine Go.Sl.hw_pure rfl rfl (Go.Sl.v_fieldAddr0 Ty.fd32_4 rfl) rfl ?_
  refine Go.Sl.hw_read rfl rfl rfl (Go.Sl.v_load rfl (Go.Sl.Var.at1 Ty.sc23 (.there .here) (Go.Sl.GetN.lit rfl))) ?_
  refine Go.Sl.hw_pure rfl rfl (Go.Sl.v_fieldAddr0 Ty.fd32_5 rfl) rfl ?_
  refine Go.Sl.hw_read rfl rfl rfl (Go.Sl.v_load rfl (Go.Sl.Var.at1 Ty.sc4 (.there .here) (Go.Sl.GetN.lit rfl))) ?_
  refine Go.Sl.hw_pure rfl rfl (Go.Sl.v_move rfl) rfl ?_
  refine Go.Sl.hw_pure rfl rfl (Go.Sl.v_move rfl) rfl ?_
  refine Go.Sl.hw_pure rfl rfl (Go.Sl.v_move rfl) rfl ?_
  refine Go.Sl.hw_pure rfl rfl (Go.Sl.v_move rfl) rfl ?_
  refine Go.Sl.hw_pure rfl rfl (Go.Sl.v_build rfl (b_ecn)) rfl ?_
  refine Go.Sl.hw_pure rfl rfl (Go.Sl.v_move rfl) rfl ?_
  refine Go.Sl.hw_pure rfl rfl (Go.Sl.v_move rfl) rfl ?_
  refine Go.Sl.hw_pure rfl rfl (Go.Sl.v_fieldAddr0 Ty.fd32_4 rfl) rfl ?_
  refine Go.Sl.hw_read rfl rfl rfl (Go.Sl.v_load rfl (Go.Sl.Var.at1 Ty.sc23 (.there .here) (Go.Sl.GetN.lit rfl))) ?_
  refine Go.Sl.hw_pure rfl rfl (Go.Sl.v_fieldAddr0 Ty.fd32_4 rfl) rfl ?_
  refine Go.Sl.hw_read rfl rfl rfl (Go.Sl.v_load rfl (Go.Sl.Var.at1 Ty.sc23 (.there .here) (Go.Sl.GetN.lit rfl))) ?_
  refine Go.Sl.hw_pure rfl rfl (Go.Sl.v_len rfl Try.underlying23 rfl) rfl ?_
  refine Go.Sl.hw_pure rfl rfl (Go.Sl.v_min rfl rfl) rfl ?_
  refine Go.Sl.hw_pure rfl rfl (Go.Sl.v_slice_nh Try.underlying23 Ty.el23 rfl rfl (Int.toNat_of_nonneg (by omega)).symm (by omega)) rfl ?_
  refine Go.Sl.hw_pure rfl rfl (Go.Sl.v_fieldAddr0 Ty.fd32_8 rfl) rfl ?_
  refine Go.Sl.hw_read rfl rfl rfl (Go.Sl.v_load rfl (Go.Sl.Var.atN Ty.ag25 (.there .here) (gt) (by first | rfl | assumption))) ?_
  refine Go.Sl.hw_pure rfl rfl (Go.Sl.v_fieldAddr0 Ty.fd32_7 rfl) rfl ?_
  refine Go.Sl.hw_read rfl rfl rfl (Go.Sl.v_load rfl (Go.Sl.Var.atN Ty.ag24 (.there .here) (gw) (by first | rfl | assumption))) ?_
  refine Go.Sl.hw_pure rfl rfl (Go.Sl.v_build rfl (b_small)) rfl ?_
  refine Go.Sl.hw_nil ?_
  (refine Go.Sl.sw_alloc rfl rfl Ty.ze30 ?_; intro b7)
  refine Go.Sl.sw_nil ?_
  refine Go.Sl.ow_storeN rfl rfl rfl Ty.ag30 (by first | rfl | assumption) (by first | assumption | simp) .here (Go.Sl.SetN.all (by first | rfl | assumption | simp_all)) ?_
  refine Go.Sl.ow_nil ?_
  refine Go.Sl.xw_np ?_
  refine Go.Sl.xw_then ?_
  refine Go.Sl.cw_seq ?_
  refine Go.Sl.cw_region ?_
  refine Go.Sl.ow_val rfl rfl (Go.Sl.v_move rfl) ?_
  refine Go.Sl.ow_val rfl rfl (Go.Sl.v_assign rfl) ?_
  refine Go.Sl.ow_nil ?_
  refine Go.Sl.xw_then ?_
  refine Go.Sl.cw_seq ?_
  refine Go.Sl.cw_seq ?_
  refine Go.Sl.cw_region ?_
  refine Go.Sl.ow_val rfl rfl (Go.Sl.v_fieldAddr0 Ty.fd32_6 rfl) ?_
  refine Go.Sl.ow_val rfl rfl (Go.Sl.v_load rfl (Go.Sl.Var.at1 Ty.sc23 (.there (.there .here)) (Go.Sl.GetN.lit rfl))) ?_
  refine Go.Sl.ow_val rfl rfl (Go.Sl.v_len rfl Try.underlying23 rfl) ?_
  refine Go.Sl.ow_val rfl rfl (Go.Sl.v_move rfl) ?_
  refine Go.Sl.ow_nil ?_
  refine Go.Sl.xw_then ?_
  refine Go.Sl.cw_block ?_
  have hgl := hok.gaps
  have hgv := hI.gaps
  refine cw_cov ([(b7, .cells [Value.int .u8 kk, .int .u64 a, .int .u64 c, .int .u64 c, .int .u64 b, .slice s.da s.data.length s.dc, .bool s.fin, .slice none 0 0, .int .u64 b, .int .u64 a, .int .u64 b, .int .u64 c, .int .u64 c, .int .u64 b, .slice s.da (min (s.data.length : Int) 20).toNat s.dc, u8V t0, u8V t1, u8V t2, u8V t3, u8V t4, u8V t5, u8V t6, u8V t7, u8V t8, u8V t9, u8V t10, u8V t11, u8V t12, u8V t13, u8V t14, u8V t15, u8V v0, u8V v1, u8V v2, u8V v3, u8V v4, u8V v5, u8V v6, u8V v7].toArray 30 (0, 0))] :: [] :: [(b2, .cells ((FrM.zero 0).cells FrP.nil).toArray 30 (0, 0))] :: [(b1, .cells s.cells.toArray 32 (0, 0))] :: G) (by first | exact Go.Sl.Cov.refl _ | (intro p; simp only [List.flatten_cons, List.flatten_nil, List.flatten_append, List.append_nil, List.nil_append, Go.Sl.cnt_append, Go.Sl.cnt_cons, Go.Sl.cnt_nil, List.set_cons_zero, List.set_cons_succ, List.length_nil, List.length_cons, Nat.zero_add, List.append]; omega)) ?_
  refine Go.Sl.cw_loop2 (ι := ((Nat × Int × List Rg × Option Addr × Nat × Hp))) [(0, _), (1, _), (2, _), (7, _), (70, _), (71, _)] ⟨rfl, rfl, rfl, rfl, rfl, rfl, trivial⟩ ((fun x => [(72, .int .i64 x.1), (8, .int .u64 x.2.1)])) ((fun x => x.1 ≤ s.gaps.length ∧ x.1 ≤ 8 ∧ inU x.2.1 ∧ x.2.2.1.length = x.1 ∧ Ls enR 102 (.slice x.2.2.2.1 x.2.2.1.length x.2.2.2.2.1) x.2.2.2.2.2 x.2.2.1)) ((fun x => s.gaps.length - x.1)) ((fun x => [(b7, .cells [Value.int .u8 kk, .int .u64 a, .int .u64 c, .int .u64 c, .int .u64 b, .slice s.da s.data.length s.dc, .bool s.fin, .slice x.2.2.2.1 x.2.2.1.length x.2.2.2.2.1, .int .u64 b, .int .u64 a, .int .u64 b, .int .u64 c, .int .u64 c, .int .u64 b, .slice s.da (min (s.data.length : Int) 20).toNat s.dc, u8V t0, u8V t1, u8V t2, u8V t3, u8V t4, u8V t5, u8V t6, u8V t7, u8V t8, u8V t9, u8V t10, u8V t11, u8V t12, u8V t13, u8V t14, u8V t15, u8V v0, u8V v1, u8V v2, u8V v3, u8V v4, u8V v5, u8V v6, u8V v7].toArray 30 (0, 0))] :: x.2.2.2.2.2 :: [(b2, .cells ((FrM.zero 0).cells FrP.nil).toArray 30 (0, 0))] :: [(b1, .cells s.cells.toArray 32 (0, 0))] :: G)) (((0, a, [], none, 0, []) : Nat × Int × List Rg × Option Addr × Nat × Hp)) (by repeat (first | exact True.intro | refine And.intro rfl ?_)) (by first | exact Go.Sl.Cov.refl _ | (intro p; simp only [List.flatten_cons, List.flatten_nil, List.flatten_append, List.append_nil, List.nil_append, Go.Sl.cnt_append, Go.Sl.cnt_cons, Go.Sl.cnt_nil, List.set_cons_zero, List.set_cons_succ, List.length_nil, List.length_cons, Nat.zero_add, List.append]; omega)) ?_ ?_
  · exact ⟨Nat.zero_le _, Nat.zero_le _, ha, rfl, Ls.nil⟩
  rintro ⟨i, at_, rg, ra, rc, cg⟩ ⟨hi, hi8, hat, hrl, hLr⟩
  dsimp only at hi hi8 hat hrl hLr ⊢
  have hone3 : ∀ u ∈ [Value.int .u8 kk, .int .u64 a, .int .u64 c, .int .u64 c, .int .u64 b, .slice s.da s.data.length s.dc, .bool s.fin, .slice ra rg.length rc, .int .u64 b, .int .u64 a, .int .u64 b, .int .u64 c, .int .u64 c, .int .u64 b, .slice s.da (min (s.data.length : Int) 20).toNat s.dc, u8V t0, u8V t1, u8V t2, u8V t3, u8V t4, u8V t5, u8V t6, u8V t7, u8V t8, u8V t9, u8V t10, u8V t11, u8V t12, u8V t13, u8V t14, u8V t15, u8V v0, u8V v1, u8V v2, u8V v3, u8V v4, u8V v5, u8V v6, u8V v7], u.oneCell' = true := List.all_eq_true.1 (show ([Value.int .u8 kk, .int .u64 a, .int .u64 c, .int .u64 c, .int .u64 b, .slice s.da s.data.length s.dc, .bool s.fin, .slice ra rg.length rc, .int .u64 b, .int .u64 a, .int .u64 b, .int .u64 c, .int .u64 c, .int .u64 b, .slice s.da (min (s.data.length : Int) 20).toNat s.dc, u8V t0, u8V t1, u8V t2, u8V t3, u8V t4, u8V t5, u8V t6, u8V t7, u8V t8, u8V t9, u8V t10, u8V t11, u8V t12, u8V t13, u8V t14, u8V t15, u8V v0, u8V v1, u8V v2, u8V v3, u8V v4, u8V v5, u8V v6, u8V v7]).all (fun u => u.oneCell') = true from rfl)
  unfold inU at hat
  have hm : (s.data.take (min (s.data.length : Int) 20).toNat).length = (min (s.data.length : Int) 20).toNat := by rw [List.length_take]; omega
  have hmle : (min (s.data.length : Int) 20).toNat ≤ s.data.length := by omega
  have hfin : ∃ x : FrM × FrP × Hp, Value.agg [Value.int .u8 kk, .int .u64 a, .int .u64 c, .int .u64 c, .int .u64 b, .slice s.da s.data.length s.dc, .bool s.fin, .slice ra rg.length rc, .int .u64 b, .int .u64 a, .int .u64 b, .int .u64 c, .int .u64 c, .int .u64 b, .slice s.da (min (s.data.length : Int) 20).toNat s.dc, u8V t0, u8V t1, u8V t2, u8V t3, u8V t4, u8V t5, u8V t6, u8V t7, u8V t8, u8V t9, u8V t10, u8V t11, u8V t12, u8V t13, u8V t14, u8V t15, u8V v0, u8V v1, u8V v2, u8V v3, u8V v4, u8V v5, u8V v6, u8V v7].toArray = .agg (x.1.cells x.2.1).toArray ∧ (x.1.ok ∧ FrLen x.1 ∧ ∀ G', s.In (St B w0 G') → FrIn (St B w0 (x.2.2 :: G')) x.1 x.2.1) ∧ x.2.2 = cg := by
    refine ⟨(⟨kk, a, c, c, b, s.data, s.fin, rg, b, a, b, c, c, b, s.data.take (min (s.data.length : Int) 20).toNat, [t0, t1, t2, t3, t4, t5, t6, t7, t8, t9, t10, t11, t12, t13, t14, t15], [v0, v1, v2, v3, v4, v5, v6, v7]⟩, ⟨s.da, s.dc, ra, rc, s.da, s.dc⟩, cg), ?_, ⟨⟨?_, ha, hc, hc, hb, hLr.ok, hb, ha, hb, hc, hc, hb, rfl, rfl⟩, ⟨?_, hdl, ?_⟩, fun G' hI' => ⟨hI'.data.cov (by first | exact Go.Sl.Cov.refl _ | (intro p; simp only [List.flatten_cons, List.flatten_nil, List.flatten_append, List.append_nil, List.nil_append, Go.Sl.cnt_append, Go.Sl.cnt_cons, Go.Sl.cnt_nil, List.set_cons_zero, List.set_cons_succ, List.length_nil, List.length_cons, Nat.zero_add, List.append]; omega)), hLr.vw (by repeat (first | exact Go.Sl.Sub.here | assumption | refine Go.Sl.Sub.there ?_)), ?_⟩⟩, rfl⟩
    · simp only [FrM.cells, FrM.tail, hm, List.map_cons, List.map_nil, List.cons_append, List.nil_append]
    · show 0 ≤ kk ∧ kk ≤ 255
      omega
    · show rg.length ≤ _
      omega
    · show (s.data.take _).length ≤ _
      omega
    · have h := (hI'.data.sub1 vbTy hmle).cov (G' := cg :: G') (by first | exact Go.Sl.Cov.refl _ | (intro p; simp only [List.flatten_cons, List.flatten_nil, List.flatten_append, List.append_nil, List.nil_append, Go.Sl.cnt_append, Go.Sl.cnt_cons, Go.Sl.cnt_nil, List.set_cons_zero, List.set_cons_succ, List.length_nil, List.length_cons, Nat.zero_add, List.append]; omega))
      show Vw enB _ (.slice s.da (s.data.take _).length s.dc) (s.data.take _)
      rw [hm]
      exact h
  refine Go.Sl.cw_seq ?_
  refine Go.Sl.cw_region ?_
  refine Go.Sl.ow_val rfl rfl (Go.Sl.v_lss rfl rfl) ?_
  refine Go.Sl.ow_nil ?_
  refine Go.Sl.xw_then ?_
  refine Go.Sl.cw_seq ?_
  refine Go.Sl.cw_dec rfl (fun hc73 => ?_) (fun hc73 => ?_)
  refine Go.Sl.cw_skip ?_
  refine Go.Sl.xw_then ?_
  rotate_left
  refine Go.Sl.cw_exit ?_
  refine Go.Sl.xw_then_exit ?_
  refine Go.Sl.xw_round_exit ?_
  refine Go.Sl.xw_block_exit ?_
  refine Go.Sl.xw_then ?_
  refine Go.Sl.cw_seq ?_
  refine Go.Sl.cw_region ?_
  refine Go.Sl.ow_val rfl rfl (Go.Sl.v_load rfl (Go.Sl.Var.atN Ty.ag30 .here Go.Sl.GetN.all (by first | rfl | assumption))) ?_
  refine Go.Sl.ow_storeN rfl rfl rfl Ty.ag30 (by first | rfl | assumption) (by first | assumption | simp) (.there (.there .here)) (Go.Sl.SetN.all (by first | rfl | assumption | simp_all)) ?_
  refine Go.Sl.ow_nil ?_
  refine Go.Sl.xw_then ?_
  refine Go.Sl.cw_ret ?_
  refine Go.Sl.ret1 rfl (Go.Sl.res_cell rfl (Go.Sl.Var.atN Ty.ag30 (.there (.there .here)) Go.Sl.GetN.all (by first | rfl | assumption))) ?_
  rotate_left
  · have hi2 : i < s.gaps.length := by omega
    refine Go.Sl.cw_seq ?_
    refine Go.Sl.cw_block ?_
    refine Go.Sl.cw_seq ?_
    refine Go.Sl.cw_region ?_
    refine Go.Sl.ow_val rfl rfl (Go.Sl.v_move rfl) ?_
    refine Go.Sl.ow_val rfl rfl (Go.Sl.v_indexAddr_vw Try.underlying23 (vbTy) rfl rfl (by assumption) rfl (by omega)) ?_
    refine Go.Sl.ow_val rfl rfl (Go.Sl.v_load rfl (Go.Sl.Vw.var (vbTy) (hgv.cov (by first | exact Go.Sl.Cov.refl _ | (intro p; simp only [List.flatten_cons, List.flatten_nil, List.flatten_append, List.append_nil, List.nil_append, Go.Sl.cnt_append, Go.Sl.cnt_cons, Go.Sl.cnt_nil, List.set_cons_zero, List.set_cons_succ, List.length_nil, List.length_cons, Nat.zero_add, List.append]; omega))) (by omega))) ?_
    refine Go.Sl.ow_val rfl rfl (Go.Sl.v_assign rfl) ?_
    refine Go.Sl.ow_val rfl rfl (Go.Sl.v_assign rfl) ?_
    refine Go.Sl.ow_nil ?_
    refine Go.Sl.xw_then ?_
    refine Go.Sl.cw_seq ?_
    refine Go.Sl.cw_seq ?_
    refine Go.Sl.cw_region ?_
    refine Go.Sl.ow_val rfl rfl (Go.Sl.v_move rfl) ?_
    refine Go.Sl.ow_val rfl rfl (Go.Sl.v_geq rfl rfl) ?_
    refine Go.Sl.ow_nil ?_
    refine Go.Sl.xw_then ?_
    refine Go.Sl.cw_dec rfl (fun hc78 => ?_) (fun hc78 => ?_)
    refine Go.Sl.cw_exit ?_
    refine Go.Sl.xw_then_exit ?_
    refine Go.Sl.xw_block_other rfl ?_
    refine Go.Sl.xw_then_exit ?_
    refine Go.Sl.xw_round_exit ?_
    refine Go.Sl.xw_block_exit ?_
    refine Go.Sl.xw_then ?_
    refine Go.Sl.cw_seq ?_
    refine Go.Sl.cw_region ?_
    refine Go.Sl.ow_val rfl rfl (Go.Sl.v_load rfl (Go.Sl.Var.atN Ty.ag30 .here Go.Sl.GetN.all (by first | rfl | assumption))) ?_
    refine Go.Sl.ow_storeN rfl rfl rfl Ty.ag30 (by first | rfl | assumption) (by first | assumption | simp) (.there (.there .here)) (Go.Sl.SetN.all (by first | rfl | assumption | simp_all)) ?_
    refine Go.Sl.ow_nil ?_
    refine Go.Sl.xw_then ?_
    refine Go.Sl.cw_ret ?_
    refine Go.Sl.ret1 rfl (Go.Sl.res_cell rfl (Go.Sl.Var.atN Ty.ag30 (.there (.there .here)) Go.Sl.GetN.all (by first | rfl | assumption))) ?_
    rotate_left
    refine Go.Sl.cw_skip ?_
    refine Go.Sl.xw_then ?_
    rotate_left
    · skip
      obtain ⟨x, h1, h2, h3⟩ := hfin
      exact ⟨x, h1, h2, by rw [h3]; exact (by first | exact Go.Sl.Cov.refl _ | (intro p; simp only [List.flatten_cons, List.flatten_nil, List.flatten_append, List.append_nil, List.nil_append, Go.Sl.cnt_append, Go.Sl.cnt_cons, Go.Sl.cnt_nil, List.set_cons_zero, List.set_cons_succ, List.length_nil, List.length_cons, Nat.zero_add, List.append]; omega))⟩
    · refine Go.Sl.cw_cut2 (ι := (Int)) [(0, _), (1, _), (2, _), (7, _), (8, _), (10, _), (70, _), (71, _), (72, _)] ⟨rfl, rfl, rfl, rfl, rfl, rfl, rfl, rfl, rfl, trivial⟩ ((fun x => [(11, .int .u64 x)])) ((fun x => inU x)) ((fun _ => [(b7, .cells [Value.int .u8 kk, .int .u64 a, .int .u64 c, .int .u64 c, .int .u64 b, .slice s.da s.data.length s.dc, .bool s.fin, .slice ra rg.length rc, .int .u64 b, .int .u64 a, .int .u64 b, .int .u64 c, .int .u64 c, .int .u64 b, .slice s.da (min (s.data.length : Int) 20).toNat s.dc, u8V t0, u8V t1, u8V t2, u8V t3, u8V t4, u8V t5, u8V t6, u8V t7, u8V t8, u8V t9, u8V t10, u8V t11, u8V t12, u8V t13, u8V t14, u8V t15, u8V v0, u8V v1, u8V v2, u8V v3, u8V v4, u8V v5, u8V v6, u8V v7].toArray 30 (0, 0))] :: cg :: [(b2, .cells ((FrM.zero 0).cells FrP.nil).toArray 30 (0, 0))] :: [(b1, .cells s.cells.toArray 32 (0, 0))] :: G)) ?_ ?_
      · refine Go.Sl.cw_region ?_
        refine Go.Sl.ow_val rfl rfl (Go.Sl.v_move rfl) ?_
        refine Go.Sl.ow_val rfl rfl (Go.Sl.v_add rfl rfl rfl) ?_
        refine Go.Sl.ow_val rfl rfl (Go.Sl.v_move rfl) ?_
        refine Go.Sl.ow_val rfl rfl (Go.Sl.v_rem rfl rfl (by decide)) ?_
        refine Go.Sl.ow_val rfl rfl (Go.Sl.v_convert Try.underlying5 Try.underlying22 rfl rfl) ?_
        refine Go.Sl.ow_val rfl rfl (Go.Sl.v_add rfl rfl rfl) ?_
        refine Go.Sl.ow_val rfl rfl (Go.Sl.v_assign rfl) ?_
        refine Go.Sl.ow_nil ?_
        exact xw_joint _ (inUwrap _) (by first | exact Go.Sl.Cov.refl _ | (intro p; simp only [List.flatten_cons, List.flatten_nil, List.flatten_append, List.append_nil, List.nil_append, Go.Sl.cnt_append, Go.Sl.cnt_cons, Go.Sl.cnt_nil, List.set_cons_zero, List.set_cons_succ, List.length_nil, List.length_cons, Nat.zero_add, List.append]; omega)) (by repeat (first | exact True.intro | refine And.intro rfl ?_))
      rintro to hto
      unfold inU at hto
      have hokr : enR.ok ⟨at_, to⟩ := ⟨hat, hto⟩
      refine Go.Sl.cw_seq ?_
      refine Go.Sl.cw_region ?_
      refine Go.Sl.ow_val rfl rfl (Go.Sl.v_fieldAddr0 Ty.fd30_7 rfl) ?_
      refine Go.Sl.ow_val rfl rfl (Go.Sl.v_load rfl (Go.Sl.Var.at1 Ty.sc27 .here (Go.Sl.GetN.lit rfl))) ?_
      refine Go.Sl.ow_val rfl rfl (Go.Sl.v_move rfl) ?_
      refine Go.Sl.ow_val rfl rfl (Go.Sl.v_move rfl) ?_
      refine Go.Sl.ow_val rfl rfl (Go.Sl.v_build rfl (b_rng)) ?_
      (refine Go.Sl.ow_buildL (es := [((⟨at_, to⟩ : Rg))]) rfl rfl Try.underlying27 Ty.em27 (rTy) rfl rfl (by first | (simp [*]; done) | (repeat (first | exact List.forall_mem_nil _ | refine List.forall_mem_cons.2 ⟨?_, ?_⟩ | assumption | (show _ ∧ _; omega)))) (by simp only [List.length_cons, List.length_nil]; decide) ?_; intro ao90 c90 hL90)
      (refine Go.Sl.ow_appendL rfl rfl Try.underlying27 Try.underlying27 Ty.em27 (rTy) rfl rfl (by assumption) (by repeat (first | exact Go.Sl.Sel.here | apply Go.Sl.Sel.there)) (Go.Sl.Ls.vw (by assumption) (by repeat (first | exact Go.Sl.Sub.here | assumption | refine Go.Sl.Sub.there ?_))) (by first | omega | (simp only [List.length_append, List.length_take, List.length_drop, List.length_nil, List.length_cons]; omega)) (by first | omega | (simp only [List.length_append, List.length_take, List.length_drop, List.length_nil, List.length_cons]; omega)) ?_; intro ao91 cap91 c91 hL91)
      refine Go.Sl.ow_val rfl rfl (Go.Sl.v_fieldAddr0 Ty.fd30_7 rfl) ?_
      refine Go.Sl.ow_store1 rfl rfl rfl rfl Ty.sc27 (.there .here) (Go.Sl.SetN.one (by first | decide | exact Nat.le_of_ble_eq_true rfl)) ?_
      refine Go.Sl.ow_nil ?_
      refine Go.Sl.xw_then ?_
      refine Go.Sl.cw_region ?_
      refine Go.Sl.ow_val rfl rfl (Go.Sl.v_move rfl) ?_
      refine Go.Sl.ow_val rfl rfl (Go.Sl.v_add rfl rfl rfl) ?_
      refine Go.Sl.ow_val rfl rfl (Go.Sl.v_move rfl) ?_
      refine Go.Sl.ow_val rfl rfl (Go.Sl.v_quo rfl rfl (by omega) rfl) ?_
      refine Go.Sl.ow_val rfl rfl (Go.Sl.v_convert Try.underlying5 Try.underlying22 rfl rfl) ?_
      refine Go.Sl.ow_val rfl rfl (Go.Sl.v_add rfl rfl rfl) ?_
      refine Go.Sl.ow_val rfl rfl (Go.Sl.v_assign rfl) ?_
      refine Go.Sl.ow_nil ?_
      refine Go.Sl.xw_block ?_
      refine Go.Sl.xw_then ?_
      refine Go.Sl.cw_region ?_
      refine Go.Sl.ow_val rfl rfl (Go.Sl.v_add rfl rfl (Go.Sl.nw_i64 (by omega) (by omega))) ?_
      refine Go.Sl.ow_val rfl rfl (Go.Sl.v_move rfl) ?_
      refine Go.Sl.ow_nil ?_
      exact xw_round ((i + 1, IntKind.wrap .u64 (IntKind.wrap .u64 (to + 1) + IntKind.wrap .u64 (IntKind.wrap .u8 (((s.gaps[i]).toNat : Int).tdiv 16))), rg ++ [(⟨at_, to⟩ : Rg)], ao91, cap91, c91) : Nat × Int × List Rg × Option Addr × Nat × Hp) ⟨by dsimp only; omega, by dsimp only; omega, inUwrap _, by dsimp only; rw [List.length_append, hrl]; rfl, hL91⟩ (by dsimp only; omega) (by first | exact Go.Sl.Cov.refl _ | (intro p; simp only [List.flatten_cons, List.flatten_nil, List.flatten_append, List.append_nil, List.nil_append, Go.Sl.cnt_append, Go.Sl.cnt_cons, Go.Sl.cnt_nil, List.set_cons_zero, List.set_cons_succ, List.length_nil, List.length_cons, Nat.zero_add, List.append]; omega)) (by repeat (first | exact True.intro | refine And.intro rfl ?_))
  skip
  obtain ⟨x, h1, h2, h3⟩ := hfin
  exact ⟨x, h1, h2, by rw [h3]; exact (by first | exact Go.Sl.Cov.refl _ | (intro p; simp only [List.flatten_cons, List.flatten_nil, List.flatten_append, List.append_nil, List.nil_append, Go.Sl.cnt_append, Go.Sl.cnt_cons, Go.Sl.cnt_nil, List.set_cons_zero, List.set_cons_succ, List.length_nil, List.length_cons, Nat.zero_add, List.append]; omega))⟩
end Go.Proofs.Ytckdhelnafjddaa
