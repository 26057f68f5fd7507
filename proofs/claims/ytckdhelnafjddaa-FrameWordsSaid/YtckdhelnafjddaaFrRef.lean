/- A frame as the document's answer has it. Conditions: numbers fit their types; few ranges. -/
import Derived.Test.YtckdhelnafjddaaFrWd
import Derived.Test.YtckdhelnafjddaaSpanRef
namespace Go.Proofs.Ytckdhelnafjddaa
open Go Go.Sl Go.Proofs Go.RowKit Go.ChangeShapes Go.WideShapes Go.ChangeAt
set_option maxRecDepth 20000
set_option linter.unusedVariables false
set_option linter.unusedSimpArgs false

def FrM.rcells (f : FrM) (p : FrP) : List Value :=
  .int .i64 f.k :: .int .u64 f.st :: .int .u64 f.off :: .int .u64 f.lim :: .int .u64 f.cod :: .slice p.da f.data.length p.dc :: .bool f.fin :: .slice p.ra f.rg.length p.rc :: .int .u64 f.dl ::
    .int .u64 f.e0 :: .int .u64 f.e1 :: .int .u64 f.e2 :: .int .u64 f.sq :: .int .u64 f.pr :: .slice p.ia f.id.length p.ic :: f.tail
theorem FrM.rcells_len {f : FrM} {p : FrP} (h : f.ok) : (f.rcells p).length = 39 := by
  have h1 := h.tok
  have h2 := h.wd
  simp only [FrM.rcells, FrM.tail, List.length_cons, List.length_append, List.length_map]
  omega
theorem FrM.rcells_one {f : FrM} {p : FrP} : ∀ u ∈ f.rcells p, u.oneCell' = true := by
  intro u hu
  simp only [FrM.rcells, FrM.tail, List.mem_cons, List.mem_append, List.mem_map] at hu
  rcases hu with rfl | rfl | rfl | rfl | rfl | rfl | rfl | rfl | rfl | rfl | rfl | rfl | rfl | rfl | rfl | ⟨b, _, rfl⟩ | ⟨b, _, rfl⟩ <;> rfl
theorem b_ref {k st off lim cod dl e0 e1 e2 sq pr : Int} {d i : Option Addr} {dn dc n ic : Nat} {fin : Bool} {t0 t1 t2 t3 t4 t5 t6 t7 t8 t9 t10 t11 t12 t13 t14 t15 v0 v1 v2 v3 v4 v5 v6 v7 : UInt8} : Build Try.prog 53 #[(0, .int .i64 k), (1, .int .u64 st), (2, .int .u64 off), (3, .int .u64 lim), (4, .int .u64 cod), (5, .slice d dn dc), (6, .bool fin), (8, .int .u64 dl), (9, .agg [Value.int .u64 e0, .int .u64 e1, .int .u64 e2].toArray), (10, .int .u64 sq), (11, .int .u64 pr), (12, .slice i n ic), (13, .agg [u8V t0, u8V t1, u8V t2, u8V t3, u8V t4, u8V t5, u8V t6, u8V t7, u8V t8, u8V t9, u8V t10, u8V t11, u8V t12, u8V t13, u8V t14, u8V t15].toArray), (14, .agg [u8V v0, u8V v1, u8V v2, u8V v3, u8V v4, u8V v5, u8V v6, u8V v7].toArray)]
  (.agg [Value.int .i64 k, .int .u64 st, .int .u64 off, .int .u64 lim, .int .u64 cod, .slice d dn dc, .bool fin, .slice none 0 0, .int .u64 dl, .int .u64 e0, .int .u64 e1, .int .u64 e2, .int .u64 sq, .int .u64 pr, .slice i n ic, u8V t0, u8V t1, u8V t2, u8V t3, u8V t4, u8V t5, u8V t6, u8V t7, u8V t8, u8V t9, u8V t10, u8V t11, u8V t12, u8V t13, u8V t14, u8V t15, u8V v0, u8V v1, u8V v2, u8V v3, u8V v4, u8V v5, u8V v6, u8V v7].toArray) := fun w => by kernel_rfl
set_option maxHeartbeats 8000000 in
theorem frRef_c {B : Nat} {w0 : World} {G : List Hp} {f : FrM} {p : FrP} (hok : f.ok) (hV : Vw enR (St B w0 G) (.slice p.ra f.rg.length p.rc) f.rg) (hn : f.rg.length ≤ 1000) :
    Go.Sl.Fn Try.prog 23 #[.agg (f.cells p).toArray] B w0 G fun u G' => ∃ x : Option Addr × Nat × Hp, u = .agg (f.rcells { p with ra := x.1, rc := x.2.1 }).toArray ∧ Ls enR 114 (.slice x.1 f.rg.length x.2.1) x.2.2 f.rg ∧ G' = [x.2.2] ++ G := by
  refine Fn.new (V := fun x : Option Addr × Nat × Hp => .agg (f.rcells { p with ra := x.1, rc := x.2.1 }).toArray) (Nw := fun x => [x.2.2]) ?_
  obtain ⟨t0, t1, t2, t3, t4, t5, t6, t7, t8, t9, t10, t11, t12, t13, t14, t15, ht⟩ := list16 hok.tok
  obtain ⟨v0, v1, v2, v3, v4, v5, v6, v7, hw⟩ := list8 hok.wd
  have hk := hok.k
  have gt : GetN (.cells (f.cells p).toArray 30 (0, 0)) 15 [u8V t0, u8V t1, u8V t2, u8V t3, u8V t4, u8V t5, u8V t6, u8V t7, u8V t8, u8V t9, u8V t10, u8V t11, u8V t12, u8V t13, u8V t14, u8V t15] := by
    have := get_tok (f := f) (p := p) (T := 30) (fr := (0, 0))
    rw [ht] at this
    exact this
  have gw : GetN (.cells (f.cells p).toArray 30 (0, 0)) 31 [u8V v0, u8V v1, u8V v2, u8V v3, u8V v4, u8V v5, u8V v6, u8V v7] := by
    have := get_wd (f := f) (p := p) (T := 30) (fr := (0, 0)) hok.tok
    rw [hw] at this
    exact this
  have hro : ∀ u ∈ [Value.int .i64 f.k, .int .u64 f.st, .int .u64 f.off, .int .u64 f.lim, .int .u64 f.cod, .slice p.da f.data.length p.dc, .bool f.fin, .slice none 0 0, .int .u64 f.dl, .int .u64 f.e0, .int .u64 f.e1, .int .u64 f.e2, .int .u64 f.sq, .int .u64 f.pr, .slice p.ia f.id.length p.ic, u8V t0, u8V t1, u8V t2, u8V t3, u8V t4, u8V t5, u8V t6, u8V t7, u8V t8, u8V t9, u8V t10, u8V t11, u8V t12, u8V t13, u8V t14, u8V t15, u8V v0, u8V v1, u8V v2, u8V v3, u8V v4, u8V v5, u8V v6, u8V v7], u.oneCell' = true := List.all_eq_true.1 (show [Value.int .i64 f.k, .int .u64 f.st, .int .u64 f.off, .int .u64 f.lim, .int .u64 f.cod, .slice p.da f.data.length p.dc, .bool f.fin, .slice none 0 0, .int .u64 f.dl, .int .u64 f.e0, .int .u64 f.e1, .int .u64 f.e2, .int .u64 f.sq, .int .u64 f.pr, .slice p.ia f.id.length p.ic, u8V t0, u8V t1, u8V t2, u8V t3, u8V t4, u8V t5, u8V t6, u8V t7, u8V t8, u8V t9, u8V t10, u8V t11, u8V t12, u8V t13, u8V t14, u8V t15, u8V v0, u8V v1, u8V v2, u8V v3, u8V v4, u8V v5, u8V v6, u8V v7].all (fun u => u.oneCell') = true from rfl)
  refine fn_enter Try.func23 rfl (by kernel_rfl) Try.ntmps23 (by simp) ?_
  refine Go.Sl.cw_seq ?_
  refine Go.Sl.cw_region ?_
  (refine Go.Sl.ow_box rfl rfl rfl rfl ?_; intro b1)
  (refine Go.Sl.ow_alloc rfl rfl Ty.ze53 ?_; intro b2)
  refine Go.Sl.ow_nil ?_
  refine Go.Sl.xw_then ?_
  refine Go.Sl.cw_seq ?_
  refine Go.Sl.cw_region ?_
  refine Go.Sl.ow_val rfl rfl (Go.Sl.v_fieldAddr0 Ty.fd30_0 rfl) ?_
  refine Go.Sl.ow_val rfl rfl (Go.Sl.v_load rfl (Go.Sl.Var.at1 Ty.sc26 (.there .here) (Go.Sl.GetN.lit rfl))) ?_
  refine Go.Sl.ow_val rfl rfl (Go.Sl.v_convert Try.underlying26 Try.underlying3 rfl (Go.Sl.nw_i64 (by omega) (by omega))) ?_
  refine Go.Sl.ow_val rfl rfl (Go.Sl.v_fieldAddr0 Ty.fd30_1 rfl) ?_
  refine Go.Sl.ow_val rfl rfl (Go.Sl.v_load rfl (Go.Sl.Var.at1 Ty.sc22 (.there .here) (Go.Sl.GetN.lit rfl))) ?_
  refine Go.Sl.ow_val rfl rfl (Go.Sl.v_fieldAddr0 Ty.fd30_2 rfl) ?_
  refine Go.Sl.ow_val rfl rfl (Go.Sl.v_load rfl (Go.Sl.Var.at1 Ty.sc22 (.there .here) (Go.Sl.GetN.lit rfl))) ?_
  refine Go.Sl.ow_val rfl rfl (Go.Sl.v_fieldAddr0 Ty.fd30_3 rfl) ?_
  refine Go.Sl.ow_val rfl rfl (Go.Sl.v_load rfl (Go.Sl.Var.at1 Ty.sc22 (.there .here) (Go.Sl.GetN.lit rfl))) ?_
  refine Go.Sl.ow_val rfl rfl (Go.Sl.v_fieldAddr0 Ty.fd30_4 rfl) ?_
  refine Go.Sl.ow_val rfl rfl (Go.Sl.v_load rfl (Go.Sl.Var.at1 Ty.sc22 (.there .here) (Go.Sl.GetN.lit rfl))) ?_
  refine Go.Sl.ow_val rfl rfl (Go.Sl.v_fieldAddr0 Ty.fd30_5 rfl) ?_
  refine Go.Sl.ow_val rfl rfl (Go.Sl.v_load rfl (Go.Sl.Var.at1 Ty.sc23 (.there .here) (Go.Sl.GetN.lit rfl))) ?_
  refine Go.Sl.ow_val rfl rfl (Go.Sl.v_fieldAddr0 Ty.fd30_6 rfl) ?_
  refine Go.Sl.ow_val rfl rfl (Go.Sl.v_load rfl (Go.Sl.Var.at1 Ty.sc4 (.there .here) (Go.Sl.GetN.lit rfl))) ?_
  refine Go.Sl.ow_val rfl rfl (Go.Sl.v_fieldAddr0 Ty.fd30_8 rfl) ?_
  refine Go.Sl.ow_val rfl rfl (Go.Sl.v_load rfl (Go.Sl.Var.at1 Ty.sc22 (.there .here) (Go.Sl.GetN.lit rfl))) ?_
  refine Go.Sl.ow_val rfl rfl (Go.Sl.v_fieldAddr0 Ty.fd30_9 rfl) ?_
  refine Go.Sl.ow_val rfl rfl (Go.Sl.v_load rfl (Go.Sl.Var.atN Ty.ag28 (.there .here) (get_ecn) (by first | rfl | assumption))) ?_
  refine Go.Sl.ow_val rfl rfl (Go.Sl.v_fieldAddr0 Ty.fd30_10 rfl) ?_
  refine Go.Sl.ow_val rfl rfl (Go.Sl.v_load rfl (Go.Sl.Var.at1 Ty.sc22 (.there .here) (Go.Sl.GetN.lit rfl))) ?_
  refine Go.Sl.ow_val rfl rfl (Go.Sl.v_fieldAddr0 Ty.fd30_11 rfl) ?_
  refine Go.Sl.ow_val rfl rfl (Go.Sl.v_load rfl (Go.Sl.Var.at1 Ty.sc22 (.there .here) (Go.Sl.GetN.lit rfl))) ?_
  refine Go.Sl.ow_val rfl rfl (Go.Sl.v_fieldAddr0 Ty.fd30_12 rfl) ?_
  refine Go.Sl.ow_val rfl rfl (Go.Sl.v_load rfl (Go.Sl.Var.at1 Ty.sc23 (.there .here) (Go.Sl.GetN.lit rfl))) ?_
  refine Go.Sl.ow_val rfl rfl (Go.Sl.v_fieldAddr0 Ty.fd30_13 rfl) ?_
  refine Go.Sl.ow_val rfl rfl (Go.Sl.v_load rfl (Go.Sl.Var.atN Ty.ag25 (.there .here) (gt) (by first | rfl | assumption))) ?_
  refine Go.Sl.ow_val rfl rfl (Go.Sl.v_fieldAddr0 Ty.fd30_14 rfl) ?_
  refine Go.Sl.ow_val rfl rfl (Go.Sl.v_load rfl (Go.Sl.Var.atN Ty.ag24 (.there .here) (gw) (by first | rfl | assumption))) ?_
  refine Go.Sl.ow_val rfl rfl (Go.Sl.v_build rfl (b_ref)) ?_
  (refine Go.Sl.ow_alloc rfl rfl Ty.ze53 ?_; intro b3)
  refine Go.Sl.ow_storeN rfl rfl rfl Ty.ag53 (by first | rfl | assumption) (by first | assumption | simp) .here (Go.Sl.SetN.all (by first | rfl | assumption | simp_all)) ?_
  refine Go.Sl.ow_nil ?_
  refine Go.Sl.xw_then ?_
  refine Go.Sl.cw_seq ?_
  refine Go.Sl.cw_seq ?_
  refine Go.Sl.cw_region ?_
  refine Go.Sl.ow_val rfl rfl (Go.Sl.v_fieldAddr0 Ty.fd30_7 rfl) ?_
  refine Go.Sl.ow_val rfl rfl (Go.Sl.v_load rfl (Go.Sl.Var.at1 Ty.sc27 (.there (.there .here)) (Go.Sl.GetN.lit rfl))) ?_
  refine Go.Sl.ow_val rfl rfl (Go.Sl.v_len rfl Try.underlying27 rfl) ?_
  refine Go.Sl.ow_val rfl rfl (Go.Sl.v_move rfl) ?_
  refine Go.Sl.ow_nil ?_
  refine Go.Sl.xw_then ?_
  refine Go.Sl.cw_block ?_
  refine cw_cov ([(b3, Go.Obj.cells ([Value.int .i64 f.k, .int .u64 f.st, .int .u64 f.off, .int .u64 f.lim, .int .u64 f.cod, .slice p.da f.data.length p.dc, .bool f.fin, .slice none 0 0, .int .u64 f.dl, .int .u64 f.e0, .int .u64 f.e1, .int .u64 f.e2, .int .u64 f.sq, .int .u64 f.pr, .slice p.ia f.id.length p.ic, u8V t0, u8V t1, u8V t2, u8V t3, u8V t4, u8V t5, u8V t6, u8V t7, u8V t8, u8V t9, u8V t10, u8V t11, u8V t12, u8V t13, u8V t14, u8V t15, u8V v0, u8V v1, u8V v2, u8V v3, u8V v4, u8V v5, u8V v6, u8V v7]).toArray 53 (0, 0))] :: [] :: [(b2, Go.Obj.cells ((FrM.zero 0).rcells FrP.nil).toArray 53 (0, 0))] :: G) (show Cov ([(b3, Go.Obj.cells ([Value.int .i64 f.k, .int .u64 f.st, .int .u64 f.off, .int .u64 f.lim, .int .u64 f.cod, .slice p.da f.data.length p.dc, .bool f.fin, .slice none 0 0, .int .u64 f.dl, .int .u64 f.e0, .int .u64 f.e1, .int .u64 f.e2, .int .u64 f.sq, .int .u64 f.pr, .slice p.ia f.id.length p.ic, u8V t0, u8V t1, u8V t2, u8V t3, u8V t4, u8V t5, u8V t6, u8V t7, u8V t8, u8V t9, u8V t10, u8V t11, u8V t12, u8V t13, u8V t14, u8V t15, u8V v0, u8V v1, u8V v2, u8V v3, u8V v4, u8V v5, u8V v6, u8V v7]).toArray 53 (0, 0))] :: [] :: [(b2, Go.Obj.cells ((FrM.zero 0).rcells FrP.nil).toArray 53 (0, 0))] :: G) ([(b3, Go.Obj.cells ([Value.int .i64 f.k, .int .u64 f.st, .int .u64 f.off, .int .u64 f.lim, .int .u64 f.cod, .slice p.da f.data.length p.dc, .bool f.fin, .slice none 0 0, .int .u64 f.dl, .int .u64 f.e0, .int .u64 f.e1, .int .u64 f.e2, .int .u64 f.sq, .int .u64 f.pr, .slice p.ia f.id.length p.ic, u8V t0, u8V t1, u8V t2, u8V t3, u8V t4, u8V t5, u8V t6, u8V t7, u8V t8, u8V t9, u8V t10, u8V t11, u8V t12, u8V t13, u8V t14, u8V t15, u8V v0, u8V v1, u8V v2, u8V v3, u8V v4, u8V v5, u8V v6, u8V v7]).toArray 53 (0, 0))] :: [(b2, Go.Obj.cells ((FrM.zero 0).rcells FrP.nil).toArray 53 (0, 0))] :: [(b1, _)] :: G) from (by first | exact Go.Sl.Cov.refl _ | (intro p; simp only [List.flatten_cons, List.flatten_nil, List.flatten_append, List.append_nil, List.nil_append, Go.Sl.cnt_append, Go.Sl.cnt_cons, Go.Sl.cnt_nil, List.set_cons_zero, List.set_cons_succ, List.length_nil, List.length_cons, Nat.zero_add, List.append]; omega))) ?_
  refine Go.Sl.cw_loop2 (ι := ((Nat × Option Addr × Nat × Nat × Hp))) [(0, _), (2, _), (3, _), (37, _), (38, _)] ⟨rfl, rfl, rfl, rfl, rfl, trivial⟩ ((fun x => [(39, .int .i64 x.1)])) ((fun x => x.1 ≤ f.rg.length ∧ x.2.2.1 = x.1 ∧ Ls enR 114 (.slice x.2.1 x.2.2.1 x.2.2.2.1) x.2.2.2.2 (f.rg.take x.1))) ((fun x => f.rg.length - x.1)) ((fun x => [(b3, Go.Obj.cells ([Value.int .i64 f.k, .int .u64 f.st, .int .u64 f.off, .int .u64 f.lim, .int .u64 f.cod, .slice p.da f.data.length p.dc, .bool f.fin, .slice x.2.1 x.2.2.1 x.2.2.2.1, .int .u64 f.dl, .int .u64 f.e0, .int .u64 f.e1, .int .u64 f.e2, .int .u64 f.sq, .int .u64 f.pr, .slice p.ia f.id.length p.ic, u8V t0, u8V t1, u8V t2, u8V t3, u8V t4, u8V t5, u8V t6, u8V t7, u8V t8, u8V t9, u8V t10, u8V t11, u8V t12, u8V t13, u8V t14, u8V t15, u8V v0, u8V v1, u8V v2, u8V v3, u8V v4, u8V v5, u8V v6, u8V v7]).toArray 53 (0, 0))] :: x.2.2.2.2 :: [(b2, Go.Obj.cells ((FrM.zero 0).rcells FrP.nil).toArray 53 (0, 0))] :: G)) (((0, none, 0, 0, []) : Nat × Option Addr × Nat × Nat × Hp)) (by repeat (first | exact True.intro | refine And.intro rfl ?_)) (by first | exact Go.Sl.Cov.refl _ | (intro p; simp only [List.flatten_cons, List.flatten_nil, List.flatten_append, List.append_nil, List.nil_append, Go.Sl.cnt_append, Go.Sl.cnt_cons, Go.Sl.cnt_nil, List.set_cons_zero, List.set_cons_succ, List.length_nil, List.length_cons, Nat.zero_add, List.append]; omega)) ?_ ?_
  · exact ⟨Nat.zero_le _, rfl, Ls.nil⟩
  rintro ⟨i, ra, rn, rc, cg⟩ ⟨hi, hrn, hLr⟩
  dsimp only at hi hrn hLr ⊢
  have hro3 : ∀ u ∈ [Value.int .i64 f.k, .int .u64 f.st, .int .u64 f.off, .int .u64 f.lim, .int .u64 f.cod, .slice p.da f.data.length p.dc, .bool f.fin, .slice ra rn rc, .int .u64 f.dl, .int .u64 f.e0, .int .u64 f.e1, .int .u64 f.e2, .int .u64 f.sq, .int .u64 f.pr, .slice p.ia f.id.length p.ic, u8V t0, u8V t1, u8V t2, u8V t3, u8V t4, u8V t5, u8V t6, u8V t7, u8V t8, u8V t9, u8V t10, u8V t11, u8V t12, u8V t13, u8V t14, u8V t15, u8V v0, u8V v1, u8V v2, u8V v3, u8V v4, u8V v5, u8V v6, u8V v7], u.oneCell' = true := List.all_eq_true.1 (show [Value.int .i64 f.k, .int .u64 f.st, .int .u64 f.off, .int .u64 f.lim, .int .u64 f.cod, .slice p.da f.data.length p.dc, .bool f.fin, .slice ra rn rc, .int .u64 f.dl, .int .u64 f.e0, .int .u64 f.e1, .int .u64 f.e2, .int .u64 f.sq, .int .u64 f.pr, .slice p.ia f.id.length p.ic, u8V t0, u8V t1, u8V t2, u8V t3, u8V t4, u8V t5, u8V t6, u8V t7, u8V t8, u8V t9, u8V t10, u8V t11, u8V t12, u8V t13, u8V t14, u8V t15, u8V v0, u8V v1, u8V v2, u8V v3, u8V v4, u8V v5, u8V v6, u8V v7].all (fun u => u.oneCell') = true from rfl)
  refine Go.Sl.cw_seq ?_
  refine Go.Sl.cw_region ?_
  refine Go.Sl.ow_val rfl rfl (Go.Sl.v_lss rfl rfl) ?_
  refine Go.Sl.ow_nil ?_
  refine Go.Sl.xw_then ?_
  refine Go.Sl.cw_seq ?_
  refine Go.Sl.cw_dec rfl (fun hc40 => ?_) (fun hc40 => ?_)
  refine Go.Sl.cw_skip ?_
  refine Go.Sl.xw_then ?_
  rotate_left
  refine Go.Sl.cw_exit ?_
  refine Go.Sl.xw_then_exit ?_
  refine Go.Sl.xw_round_exit ?_
  refine Go.Sl.xw_block_exit ?_
  refine Go.Sl.xw_then ?_
  refine Go.Sl.cw_seq ?_
  refine Go.Sl.cw_region ?_
  refine Go.Sl.ow_val rfl rfl (Go.Sl.v_load rfl (Go.Sl.Var.atN Ty.ag53 .here Go.Sl.GetN.all (by first | rfl | assumption))) ?_
  refine Go.Sl.ow_storeN rfl rfl rfl Ty.ag53 (by first | rfl | assumption) (by first | assumption | simp) (.there (.there .here)) (Go.Sl.SetN.all (by first | rfl | assumption | simp_all)) ?_
  refine Go.Sl.ow_nil ?_
  refine Go.Sl.xw_then ?_
  refine Go.Sl.cw_ret ?_
  refine Go.Sl.ret1 rfl (Go.Sl.res_cell rfl (Go.Sl.Var.atN Ty.ag53 (.there (.there .here)) Go.Sl.GetN.all (by first | rfl | assumption))) ?_
  rotate_left
  · have hi2 : i < f.rg.length := by omega
    have hoki := hV.ok _ (List.getElem_mem hi2)
    have hone := one2 _ hoki
    have htl : (f.rg.take i).length = i := by rw [List.length_take]; omega
    refine Go.Sl.cw_seq ?_
    refine Go.Sl.cw_block ?_
    refine Go.Sl.cw_seq ?_
    refine Go.Sl.cw_region ?_
    refine Go.Sl.ow_val rfl rfl (Go.Sl.v_indexAddr_vw Try.underlying27 (rTy) rfl rfl (by assumption) rfl (by omega)) ?_
    refine Go.Sl.ow_val rfl rfl (Go.Sl.v_load rfl (Go.Sl.Vw.var (rTy) (hV.cov (by first | exact Go.Sl.Cov.refl _ | (intro p; simp only [List.flatten_cons, List.flatten_nil, List.flatten_append, List.append_nil, List.nil_append, Go.Sl.cnt_append, Go.Sl.cnt_cons, Go.Sl.cnt_nil, List.set_cons_zero, List.set_cons_succ, List.length_nil, List.length_cons, Nat.zero_add, List.append]; omega))) (by omega))) ?_
    (refine Go.Sl.ow_alloc rfl rfl Ty.ze102 ?_; intro b5)
    refine Go.Sl.ow_storeE rfl (rTy) rfl rfl .here (by first | rfl | assumption) (by assumption) ?_
    refine Go.Sl.ow_nil ?_
    refine Go.Sl.xw_then ?_
    refine Go.Sl.cw_mix [4] [5, 6, 7] [0, 1, 2, 3] Ty.mixed rfl rfl rfl rfl (by decide +kernel) ?_
    refine Go.Sl.hw_pure rfl rfl (Go.Sl.v_fieldAddr0 Ty.fd53_7 rfl) rfl ?_
    refine Go.Sl.hw_read rfl rfl rfl (Go.Sl.v_load rfl (Go.Sl.Var.at1 Ty.sc51 (.there .here) (Go.Sl.GetN.lit rfl))) ?_
    refine Go.Sl.hw_read rfl rfl rfl (Go.Sl.v_load rfl (Go.Sl.Var.atN Ty.ag102 .here Go.Sl.GetN.all (by first | rfl | assumption))) ?_
    refine Go.Sl.hw_read rfl rfl rfl (Go.Sl.v_call rfl rfl (ref_c hoki)) ?_
    refine Go.Sl.hw_nil ?_
    (refine Go.Sl.sw_buildL (es := [(f.rg[i])]) rfl rfl Try.underlying51 Ty.em51 (r2Ty) rfl rfl (by first | (simp [*]; done) | (repeat (first | exact List.forall_mem_nil _ | refine List.forall_mem_cons.2 ⟨?_, ?_⟩ | assumption | (show _ ∧ _; omega)))) (by simp only [List.length_cons, List.length_nil]; decide) ?_; intro ao47 c47 hL47)
    refine Go.Sl.sw_nil ?_
    (refine Go.Sl.ow_appendL rfl rfl Try.underlying51 Try.underlying51 Ty.em51 (r2Ty) rfl rfl (by assumption) (by repeat (first | exact Go.Sl.Sel.here | apply Go.Sl.Sel.there)) (Go.Sl.Ls.vw (by assumption) (by repeat (first | exact Go.Sl.Sub.here | assumption | refine Go.Sl.Sub.there ?_))) (by first | omega | (simp only [List.length_append, List.length_take, List.length_drop, List.length_nil, List.length_cons]; omega)) (by first | omega | (simp only [List.length_append, List.length_take, List.length_drop, List.length_nil, List.length_cons]; omega)) ?_; intro ao48 cap48 c48 hL48)
    refine Go.Sl.ow_val rfl rfl (Go.Sl.v_fieldAddr0 Ty.fd53_7 rfl) ?_
    refine Go.Sl.ow_store1 rfl rfl rfl rfl Ty.sc51 (.there (.there .here)) (Go.Sl.SetN.one (by first | decide | exact Nat.le_of_ble_eq_true rfl)) ?_
    refine Go.Sl.ow_nil ?_
    refine Go.Sl.xw_np ?_
    refine Go.Sl.xw_block ?_
    refine Go.Sl.xw_then ?_
    refine Go.Sl.cw_region ?_
    refine Go.Sl.ow_val rfl rfl (Go.Sl.v_add rfl rfl (Go.Sl.nw_i64 (by omega) (by omega))) ?_
    refine Go.Sl.ow_val rfl rfl (Go.Sl.v_move rfl) ?_
    refine Go.Sl.ow_nil ?_
    exact xw_round ((i + 1, ao48, (f.rg.take i ++ [f.rg[i]]).length, cap48, c48) : Nat × Option Addr × Nat × Nat × Hp) ⟨by dsimp only; omega, by simp only [List.length_append, List.length_cons, List.length_nil, htl], by rw [List.take_succ_eq_append_getElem hi2]; assumption⟩ (by dsimp only; omega) (by first | exact Go.Sl.Cov.refl _ | (intro p; simp only [List.flatten_cons, List.flatten_nil, List.flatten_append, List.append_nil, List.nil_append, Go.Sl.cnt_append, Go.Sl.cnt_cons, Go.Sl.cnt_nil, List.set_cons_zero, List.set_cons_succ, List.length_nil, List.length_cons, Nat.zero_add, List.append]; omega)) (by repeat (first | exact True.intro | refine And.intro rfl ?_))
  have hin : i = f.rg.length := by
    have := hc40
    omega
  subst hrn
  subst hin
  rw [List.take_length] at hLr
  refine ⟨(ra, rc, cg), ?_, hLr, (by first | exact Go.Sl.Cov.refl _ | (intro p; simp only [List.flatten_cons, List.flatten_nil, List.flatten_append, List.append_nil, List.nil_append, Go.Sl.cnt_append, Go.Sl.cnt_cons, Go.Sl.cnt_nil, List.set_cons_zero, List.set_cons_succ, List.length_nil, List.length_cons, Nat.zero_add, List.append]; omega))⟩
  simp only [FrM.rcells, FrM.tail, ht, hw]
  rfl
end Go.Proofs.Ytckdhelnafjddaa
