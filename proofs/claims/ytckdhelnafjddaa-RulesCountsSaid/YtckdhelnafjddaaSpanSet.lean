/- What the methods of span.Set do, each as a contract. Conditions: numbers fit their types, lists are short. -/
import Derived.Test.YtckdhelnafjddaaSpanSl
namespace Go.Proofs.Ytckdhelnafjddaa
open Go Go.Sl Go.Proofs
set_option maxRecDepth 20000
set_option linter.unusedVariables false
set_option linter.unusedSimpArgs false

def SetAt (m : SetM) (b : Nat) (c : Hp) : Prop := ∃ ao cap cl, c = [(b, .cells [.int .i64 m.limit, .slice ao m.l.length cap].toArray 212 (0, 0))] ++ cl ∧ Ls enR 102 (.slice ao m.l.length cap) cl m.l
structure SetM.WF (m : SetM) : Prop where
  good : Good m.l
  len : m.l.length ≤ 1000000
  lim : -9223372036854775808 ≤ m.limit ∧ m.limit ≤ 9223372036854775807

theorem b_set {m : Int} : Build Try.prog 212 #[(0, .int .i64 m)] (.agg [Value.int .i64 m, .slice none 0 0].toArray) := fun w => by kernel_rfl
theorem b_set2 {m : Int} {v : Option Addr} {k k' : Nat} : Build Try.prog 212 #[(0, .int .i64 m), (1, .slice v k k')] (.agg [Value.int .i64 m, .slice v k k'].toArray) := fun w => by kernel_rfl
theorem b_rng {m n : Int} : Build Try.prog 102 #[(0, .int .u64 m), (1, .int .u64 n)] (.agg (Rg.cells ⟨m, n⟩).toArray) := fun w => by kernel_rfl
theorem b_rng0 : Build Try.prog 102 #[] (.agg (Rg.cells ⟨0, 0⟩).toArray) := fun w => by kernel_rfl

theorem ok_z : enR.ok ⟨0, 0⟩ := by simp [enR, RgIn]
theorem len2 (e : Rg) (h : enR.ok e) : e.cells.length = 2 := rTy.len e h
theorem one2 (e : Rg) (h : enR.ok e) : ∀ u ∈ e.cells, u.oneCell' = true := rTy.one e h
theorem enR_f (x : Rg) : enR.f x = [.int .u64 x.a, .int .u64 x.b] := rfl
theorem one_lit (a b : Int) : ∀ u ∈ [Value.int .u64 a, Value.int .u64 b], u.oneCell' = true := fun u hu => by
  simp only [List.mem_cons, List.not_mem_nil, or_false] at hu
  rcases hu with rfl | rfl <;> rfl
theorem empty_c {B : Nat} {w0 : World} {G : List Hp} {r : Rg} :
    Go.Sl.Fn Try.prog 130 #[enR.val r] B w0 G fun u G' => u = .bool (decide (r.b ≤ r.a)) ∧ G' = G := by
  refine Fn.pure ?_
  refine fn_enter Try.func130 rfl (by kernel_rfl) Try.ntmps130 (by simp) ?_
  refine Go.Sl.cw_seq ?_
  refine Go.Sl.cw_region ?_
  (refine Go.Sl.ow_box rfl rfl rfl rfl ?_; intro b1)
  refine Go.Sl.ow_val rfl rfl (Go.Sl.v_assign rfl) ?_
  refine Go.Sl.ow_nil ?_
  refine Go.Sl.xw_then ?_
  refine Go.Sl.cw_seq ?_
  refine Go.Sl.cw_region ?_
  refine Go.Sl.ow_val rfl rfl (Go.Sl.v_fieldAddr0 Ty.fd102_0 rfl) ?_
  refine Go.Sl.ow_val rfl rfl (Go.Sl.v_load rfl (Go.Sl.Var.at1 Ty.sc22 .here (Go.Sl.GetN.lit rfl))) ?_
  refine Go.Sl.ow_val rfl rfl (Go.Sl.v_fieldAddr0 Ty.fd102_1 rfl) ?_
  refine Go.Sl.ow_val rfl rfl (Go.Sl.v_load rfl (Go.Sl.Var.at1 Ty.sc22 .here (Go.Sl.GetN.lit rfl))) ?_
  refine Go.Sl.ow_val rfl rfl (Go.Sl.v_geq rfl rfl) ?_
  refine Go.Sl.ow_val rfl rfl (Go.Sl.v_assign rfl) ?_
  refine Go.Sl.ow_nil ?_
  refine Go.Sl.xw_then ?_
  refine Go.Sl.cw_ret ?_
  refine Go.Sl.ret1 rfl (Go.Sl.res_tmp rfl) ?_
  exact ⟨rfl, (by first | exact Go.Sl.Cov.refl _ | (intro p; simp only [List.flatten_cons, List.flatten_nil, List.flatten_append, List.append_nil, List.nil_append, Go.Sl.cnt_append, Go.Sl.cnt_cons, Go.Sl.cnt_nil, List.set_cons_zero, List.set_cons_succ, List.length_nil, List.length_cons, Nat.zero_add, List.append]; omega))⟩

theorem newSet_c {B : Nat} {w0 : World} {G : List Hp} {limit : Int} :
    Go.Sl.Fn Try.prog 129 #[.int .i64 limit] B w0 G fun u G' => ∃ x : Nat × Hp, u = .pointer (some ⟨x.1, 0, none⟩) ∧ SetAt ⟨limit, []⟩ x.1 x.2 ∧ G' = [x.2] ++ G := by
  refine Fn.new ?_
  refine fn_enter Try.func129 rfl (by kernel_rfl) Try.ntmps129 (by simp) ?_
  refine Go.Sl.cw_seq ?_
  refine Go.Sl.cw_region ?_
  refine Go.Sl.ow_val rfl rfl (Go.Sl.v_assign rfl) ?_
  refine Go.Sl.ow_nil ?_
  refine Go.Sl.xw_then ?_
  refine Go.Sl.cw_seq ?_
  refine Go.Sl.cw_region ?_
  refine Go.Sl.ow_val rfl rfl (Go.Sl.v_move rfl) ?_
  refine Go.Sl.ow_val rfl rfl (Go.Sl.v_build rfl (b_set)) ?_
  (refine Go.Sl.ow_box rfl rfl rfl rfl ?_; intro b5)
  refine Go.Sl.ow_val rfl rfl (Go.Sl.v_assign rfl) ?_
  refine Go.Sl.ow_nil ?_
  refine Go.Sl.xw_then ?_
  refine Go.Sl.cw_ret ?_
  refine Go.Sl.ret1 rfl (Go.Sl.res_tmp rfl) ?_
  exact ⟨(b5, [(b5, _)] ++ []), rfl, ⟨none, 0, [], rfl, Ls.nil⟩, (by first | exact Go.Sl.Cov.refl _ | (intro p; simp only [List.flatten_cons, List.flatten_nil, List.flatten_append, List.append_nil, List.nil_append, Go.Sl.cnt_append, Go.Sl.cnt_cons, Go.Sl.cnt_nil, List.set_cons_zero, List.set_cons_succ, List.length_nil, List.length_cons, Nat.zero_add, List.append]; omega))⟩

theorem most_c {B : Nat} {w0 : World} {G : List Hp} {m : SetM} {b : Nat} {c : Hp} (hO : SetAt m b c) (hs : Sub c G) :
    Go.Sl.Fn Try.prog 132 #[.pointer (some ⟨b, 0, none⟩)] B w0 G fun u G' => u = .int .i64 (max m.limit 1) ∧ G' = G := by
  refine Fn.pure ?_
  obtain ⟨ao, cap, cl, rfl, hL⟩ := hO
  have hs1 := hs.left
  have hs2 := hs.right
  refine fn_enter Try.func132 rfl (by kernel_rfl) Try.ntmps132 (by simp) ?_
  refine Go.Sl.cw_seq ?_
  refine Go.Sl.cw_region ?_
  refine Go.Sl.ow_val rfl rfl (Go.Sl.v_assign rfl) ?_
  refine Go.Sl.ow_nil ?_
  refine Go.Sl.xw_then ?_
  refine Go.Sl.cw_seq ?_
  refine Go.Sl.cw_region ?_
  refine Go.Sl.ow_val rfl rfl (Go.Sl.v_move rfl) ?_
  refine Go.Sl.ow_val rfl rfl (Go.Sl.v_nilCheck rfl) ?_
  refine Go.Sl.ow_val rfl rfl (Go.Sl.v_fieldAddr0 Ty.fd212_0 rfl) ?_
  refine Go.Sl.ow_val rfl rfl (Go.Sl.v_load rfl (Go.Sl.Var.sub1 Ty.sc3 (by repeat (first | assumption | refine Go.Sl.Sub.there ?_)) (.head _) (Go.Sl.GetN.lit rfl))) ?_
  refine Go.Sl.ow_val rfl rfl (Go.Sl.v_max rfl rfl) ?_
  refine Go.Sl.ow_val rfl rfl (Go.Sl.v_assign rfl) ?_
  refine Go.Sl.ow_nil ?_
  refine Go.Sl.xw_then ?_
  refine Go.Sl.cw_ret ?_
  refine Go.Sl.ret1 rfl (Go.Sl.res_tmp rfl) ?_
  exact ⟨rfl, (by first | exact Go.Sl.Cov.refl _ | (intro p; simp only [List.flatten_cons, List.flatten_nil, List.flatten_append, List.append_nil, List.nil_append, Go.Sl.cnt_append, Go.Sl.cnt_cons, Go.Sl.cnt_nil, List.set_cons_zero, List.set_cons_succ, List.length_nil, List.length_cons, Nat.zero_add, List.append]; omega))⟩

theorem setList_c {B : Nat} {w0 : World} {G : List Hp} {m : SetM} {b : Nat} {c : Hp} (hO : SetAt m b c) (hs : Sub c G) (hw : m.WF) :
    Go.Sl.Fn Try.prog 109 #[.pointer (some ⟨b, 0, none⟩)] B w0 G fun u G' => ∃ x : Option Addr × Nat × Hp, u = .slice x.1 m.l.length x.2.1 ∧ Ls enR 102 (.slice x.1 m.l.length x.2.1) x.2.2 m.l ∧ G' = [x.2.2] ++ G := by
  obtain ⟨ao, cap, cl, rfl, hL⟩ := hO
  refine Fn.new ?_
  have hs1 := hs.left
  have hs2 := hs.right
  have h2 := hw.len
  refine fn_enter Try.func109 rfl (by kernel_rfl) Try.ntmps109 (by simp) ?_
  refine Go.Sl.cw_seq ?_
  refine Go.Sl.cw_region ?_
  refine Go.Sl.ow_val rfl rfl (Go.Sl.v_assign rfl) ?_
  refine Go.Sl.ow_nil ?_
  refine Go.Sl.xw_then ?_
  refine Go.Sl.cw_seq ?_
  refine Go.Sl.cw_seq ?_
  refine Go.Sl.cw_region ?_
  refine Go.Sl.ow_val rfl rfl (Go.Sl.v_move rfl) ?_
  refine Go.Sl.ow_val rfl rfl (Go.Sl.v_eql_nil_some Try.underlying187 rfl) ?_
  refine Go.Sl.ow_nil ?_
  refine Go.Sl.xw_then ?_
  refine Go.Sl.cw_false rfl ?_
  refine Go.Sl.cw_skip ?_
  refine Go.Sl.xw_then ?_
  refine Go.Sl.cw_seq ?_
  refine Go.Sl.cw_region ?_
  refine Go.Sl.ow_val rfl rfl (Go.Sl.v_move rfl) ?_
  refine Go.Sl.ow_val rfl rfl (Go.Sl.v_nilCheck rfl) ?_
  refine Go.Sl.ow_val rfl rfl (Go.Sl.v_fieldAddr0 Ty.fd212_1 rfl) ?_
  refine Go.Sl.ow_val rfl rfl (Go.Sl.v_load rfl (Go.Sl.Var.sub1 Ty.sc27 (by repeat (first | assumption | refine Go.Sl.Sub.there ?_)) (.head _) (Go.Sl.GetN.lit rfl))) ?_
  (refine Go.Sl.ow_call rfl rfl rfl rfl (cloneR_c (hL.vw hs2) (by omega)) ?_; rintro _ _ ⟨x9, rfl, hq9, rfl⟩)
  refine Go.Sl.ow_val rfl rfl (Go.Sl.v_assign rfl) ?_
  refine Go.Sl.ow_nil ?_
  refine Go.Sl.xw_then ?_
  refine Go.Sl.cw_ret ?_
  refine Go.Sl.ret1 rfl (Go.Sl.res_tmp rfl) ?_
  exact ⟨x9, rfl, hq9, (by first | exact Go.Sl.Cov.refl _ | (intro p; simp only [List.flatten_cons, List.flatten_nil, List.flatten_append, List.append_nil, List.nil_append, Go.Sl.cnt_append, Go.Sl.cnt_cons, Go.Sl.cnt_nil, List.set_cons_zero, List.set_cons_succ, List.length_nil, List.length_cons, Nat.zero_add, List.append]; omega))⟩

theorem ending1_c {B : Nat} {w0 : World} {G : List Hp} {m : SetM} {b b1 b2 i : Nat} {c : Hp} {n : Int} (hO : SetAt m b c) (hs : Sub c G) (h1 : Sub [(b1, .cells [Value.pointer (some ⟨b, 0, none⟩)].toArray 187 (0, 0))] G) (h2 : Sub [(b2, .cells [Value.int .u64 n].toArray 22 (0, 0))] G) (hi : i < m.l.length) :
    Go.Sl.Fn Try.prog 153 #[.int .i64 i, .pointer (some ⟨b1, 0, none⟩), .pointer (some ⟨b2, 0, none⟩)] B w0 G fun u G' => u = .bool (decide (n ≤ m.l[i]!.b)) ∧ G' = G := by
  refine Fn.pure ?_
  obtain ⟨ao, cap, cl, rfl, hL⟩ := hO
  have hs1 := hs.left
  have hs2 := hs.right
  rw [getElem!_pos m.l i hi]
  refine fn_enter Try.func153 rfl (by kernel_rfl) Try.ntmps153 (by simp) ?_
  refine Go.Sl.cw_seq ?_
  refine Go.Sl.cw_region ?_
  refine Go.Sl.ow_val rfl rfl (Go.Sl.v_assign rfl) ?_
  refine Go.Sl.ow_nil ?_
  refine Go.Sl.xw_then ?_
  refine Go.Sl.cw_seq ?_
  refine Go.Sl.cw_quiet Ty.mixed (by decide +kernel) ?_
  refine Go.Sl.kw_val rfl rfl (Go.Sl.v_load rfl (Go.Sl.Var.sub1 Ty.sc187 (by repeat (first | assumption | refine Go.Sl.Sub.there ?_)) (.head _) (Go.Sl.GetN.lit rfl))) ?_
  refine Go.Sl.kw_val rfl rfl (Go.Sl.v_nilCheck rfl) ?_
  refine Go.Sl.kw_val rfl rfl (Go.Sl.v_fieldAddr0 Ty.fd212_1 rfl) ?_
  refine Go.Sl.kw_val rfl rfl (Go.Sl.v_load rfl (Go.Sl.Var.sub1 Ty.sc27 (by repeat (first | assumption | refine Go.Sl.Sub.there ?_)) (.head _) (Go.Sl.GetN.lit rfl))) ?_
  refine Go.Sl.kw_val rfl rfl (Go.Sl.v_move rfl) ?_
  refine Go.Sl.kw_val rfl rfl (Go.Sl.v_indexAddr_ls Try.underlying27 (rTy) rfl rfl (by assumption) rfl (by omega)) ?_
  refine Go.Sl.kw_val rfl rfl (Go.Sl.v_fieldAddr Ty.fd102_1 rfl) ?_
  refine Go.Sl.kw_val rfl rfl (Go.Sl.v_load rfl (Go.Sl.Vw.fld1 (rTy) Ty.sc22 (hL.vw hs2) (by omega) rfl)) ?_
  refine Go.Sl.kw_val rfl rfl (Go.Sl.v_load rfl (Go.Sl.Var.sub1 Ty.sc22 (by repeat (first | assumption | refine Go.Sl.Sub.there ?_)) (.head _) (Go.Sl.GetN.lit rfl))) ?_
  refine Go.Sl.kw_val rfl rfl (Go.Sl.v_geq rfl rfl) ?_
  refine Go.Sl.kw_val rfl rfl (Go.Sl.v_assign rfl) ?_
  refine Go.Sl.kw_nil ?_
  refine Go.Sl.xw_then ?_
  refine Go.Sl.cw_ret ?_
  refine Go.Sl.ret1 rfl (Go.Sl.res_tmp rfl) ?_
  exact ⟨rfl, (by first | exact Go.Sl.Cov.refl _ | (intro p; simp only [List.flatten_cons, List.flatten_nil, List.flatten_append, List.append_nil, List.nil_append, Go.Sl.cnt_append, Go.Sl.cnt_cons, Go.Sl.cnt_nil, List.set_cons_zero, List.set_cons_succ, List.length_nil, List.length_cons, Nat.zero_add, List.append]; omega))⟩
theorem behind1_c {B : Nat} {w0 : World} {G : List Hp} {m : SetM} {b b1 b2 i : Nat} {c : Hp} {n : Int} (hO : SetAt m b c) (hs : Sub c G) (h1 : Sub [(b1, .cells [Value.pointer (some ⟨b, 0, none⟩)].toArray 187 (0, 0))] G) (h2 : Sub [(b2, .cells [Value.int .u64 n].toArray 22 (0, 0))] G) (hi : i < m.l.length) :
    Go.Sl.Fn Try.prog 145 #[.int .i64 i, .pointer (some ⟨b1, 0, none⟩), .pointer (some ⟨b2, 0, none⟩)] B w0 G fun u G' => u = .bool (decide (n < m.l[i]!.b)) ∧ G' = G := by
  refine Fn.pure ?_
  obtain ⟨ao, cap, cl, rfl, hL⟩ := hO
  have hs1 := hs.left
  have hs2 := hs.right
  rw [getElem!_pos m.l i hi]
  refine fn_enter Try.func145 rfl (by kernel_rfl) Try.ntmps145 (by simp) ?_
  refine Go.Sl.cw_seq ?_
  refine Go.Sl.cw_region ?_
  refine Go.Sl.ow_val rfl rfl (Go.Sl.v_assign rfl) ?_
  refine Go.Sl.ow_nil ?_
  refine Go.Sl.xw_then ?_
  refine Go.Sl.cw_seq ?_
  refine Go.Sl.cw_quiet Ty.mixed (by decide +kernel) ?_
  refine Go.Sl.kw_val rfl rfl (Go.Sl.v_load rfl (Go.Sl.Var.sub1 Ty.sc187 (by repeat (first | assumption | refine Go.Sl.Sub.there ?_)) (.head _) (Go.Sl.GetN.lit rfl))) ?_
  refine Go.Sl.kw_val rfl rfl (Go.Sl.v_nilCheck rfl) ?_
  refine Go.Sl.kw_val rfl rfl (Go.Sl.v_fieldAddr0 Ty.fd212_1 rfl) ?_
  refine Go.Sl.kw_val rfl rfl (Go.Sl.v_load rfl (Go.Sl.Var.sub1 Ty.sc27 (by repeat (first | assumption | refine Go.Sl.Sub.there ?_)) (.head _) (Go.Sl.GetN.lit rfl))) ?_
  refine Go.Sl.kw_val rfl rfl (Go.Sl.v_move rfl) ?_
  refine Go.Sl.kw_val rfl rfl (Go.Sl.v_indexAddr_ls Try.underlying27 (rTy) rfl rfl (by assumption) rfl (by omega)) ?_
  refine Go.Sl.kw_val rfl rfl (Go.Sl.v_fieldAddr Ty.fd102_1 rfl) ?_
  refine Go.Sl.kw_val rfl rfl (Go.Sl.v_load rfl (Go.Sl.Vw.fld1 (rTy) Ty.sc22 (hL.vw hs2) (by omega) rfl)) ?_
  refine Go.Sl.kw_val rfl rfl (Go.Sl.v_load rfl (Go.Sl.Var.sub1 Ty.sc22 (by repeat (first | assumption | refine Go.Sl.Sub.there ?_)) (.head _) (Go.Sl.GetN.lit rfl))) ?_
  refine Go.Sl.kw_val rfl rfl (Go.Sl.v_gtr rfl rfl) ?_
  refine Go.Sl.kw_val rfl rfl (Go.Sl.v_assign rfl) ?_
  refine Go.Sl.kw_nil ?_
  refine Go.Sl.xw_then ?_
  refine Go.Sl.cw_ret ?_
  refine Go.Sl.ret1 rfl (Go.Sl.res_tmp rfl) ?_
  exact ⟨rfl, (by first | exact Go.Sl.Cov.refl _ | (intro p; simp only [List.flatten_cons, List.flatten_nil, List.flatten_append, List.append_nil, List.nil_append, Go.Sl.cnt_append, Go.Sl.cnt_cons, Go.Sl.cnt_nil, List.set_cons_zero, List.set_cons_succ, List.length_nil, List.length_cons, Nat.zero_add, List.append]; omega))⟩

theorem at_lo {p : Rg → Bool} {l : List Rg} : ∀ i, i < cutAt p l → p l[i]! = false := fun i hi => by
  have h := @cutAt_le p l
  rw [getElem!_pos l i (by omega)]
  have hlt : i < (l.take (cutAt p l)).length := by rw [List.length_take]; omega
  have := cutAt_pre _ (List.getElem_mem hlt)
  rwa [List.getElem_take] at this
theorem at_hi {p : Rg → Bool} {l : List Rg} (hm : l.Pairwise fun x y => p x = true → p y = true) : ∀ i, cutAt p l ≤ i → i < l.length → p l[i]! = true := fun i hi hl => by
  rw [getElem!_pos l i hl]
  refine cutAt_post hm _ ?_
  rw [List.mem_iff_getElem]
  exact ⟨i - cutAt p l, by rw [List.length_drop]; omega, by rw [List.getElem_drop]; congr 1; omega⟩

theorem ending_c {B : Nat} {w0 : World} {G : List Hp} {m : SetM} {b : Nat} {c : Hp} {n : Int} (hO : SetAt m b c) (hs : Sub c G) (hw : m.WF) :
    Go.Sl.Fn Try.prog 151 #[.pointer (some ⟨b, 0, none⟩), .int .u64 n] B w0 G fun u G' => u = .int .i64 (cutAt (fun x => decide (n ≤ x.b)) m.l) ∧ G' = G := by
  refine Fn.pure ?_
  have hO' := hO
  obtain ⟨ao, cap, cl, rfl, hL⟩ := hO
  have hs1 := hs.left
  have hs2 := hs.right
  have h2 := hw.len
  refine fn_enter Try.func151 rfl (by kernel_rfl) Try.ntmps151 (by simp) ?_
  refine Go.Sl.cw_seq ?_
  refine Go.Sl.cw_region ?_
  (refine Go.Sl.ow_box rfl rfl rfl rfl ?_; intro b2)
  (refine Go.Sl.ow_box rfl rfl rfl rfl ?_; intro b3)
  refine Go.Sl.ow_val rfl rfl (Go.Sl.v_assign rfl) ?_
  refine Go.Sl.ow_nil ?_
  refine Go.Sl.xw_then ?_
  refine Go.Sl.cw_seq ?_
  refine Go.Sl.cw_region ?_
  refine Go.Sl.ow_val rfl rfl (Go.Sl.v_load rfl (Go.Sl.Var.at1 Ty.sc187 (.there .here) (Go.Sl.GetN.lit rfl))) ?_
  refine Go.Sl.ow_val rfl rfl (Go.Sl.v_nilCheck rfl) ?_
  refine Go.Sl.ow_val rfl rfl (Go.Sl.v_fieldAddr0 Ty.fd212_1 rfl) ?_
  refine Go.Sl.ow_val rfl rfl (Go.Sl.v_load rfl (Go.Sl.Var.sub1 Ty.sc27 (by repeat (first | assumption | refine Go.Sl.Sub.there ?_)) (.head _) (Go.Sl.GetN.lit rfl))) ?_
  refine Go.Sl.ow_val rfl rfl (Go.Sl.v_len rfl Try.underlying27 rfl) ?_
  refine Go.Sl.ow_val rfl rfl (Go.Sl.v_makeFunc rfl rfl) ?_
  refine Go.Sl.ow_val rfl rfl (Go.Sl.v_call rfl rfl (search_c (k := cutAt (fun x => decide (n ≤ x.b)) m.l) (p := fun i => decide (n ≤ m.l[i]!.b)) (by omega) cutAt_le at_lo (at_hi (hw.good.ends n)) (fun i hi => ending1_c hO' hs.there.there Sub.here.there Sub.here hi))) ?_
  refine Go.Sl.ow_val rfl rfl (Go.Sl.v_assign rfl) ?_
  refine Go.Sl.ow_nil ?_
  refine Go.Sl.xw_then ?_
  refine Go.Sl.cw_ret ?_
  refine Go.Sl.ret1 rfl (Go.Sl.res_tmp rfl) ?_
  exact ⟨rfl, (by first | exact Go.Sl.Cov.refl _ | (intro p; simp only [List.flatten_cons, List.flatten_nil, List.flatten_append, List.append_nil, List.nil_append, Go.Sl.cnt_append, Go.Sl.cnt_cons, Go.Sl.cnt_nil, List.set_cons_zero, List.set_cons_succ, List.length_nil, List.length_cons, Nat.zero_add, List.append]; omega))⟩
theorem behind_c {B : Nat} {w0 : World} {G : List Hp} {m : SetM} {b : Nat} {c : Hp} {n : Int} (hO : SetAt m b c) (hs : Sub c G) (hw : m.WF) :
    Go.Sl.Fn Try.prog 131 #[.pointer (some ⟨b, 0, none⟩), .int .u64 n] B w0 G fun u G' => u = .int .i64 (cutAt (fun x => decide (n < x.b)) m.l) ∧ G' = G := by
  refine Fn.pure ?_
  have hO' := hO
  obtain ⟨ao, cap, cl, rfl, hL⟩ := hO
  have hs1 := hs.left
  have hs2 := hs.right
  have h2 := hw.len
  refine fn_enter Try.func131 rfl (by kernel_rfl) Try.ntmps131 (by simp) ?_
  refine Go.Sl.cw_seq ?_
  refine Go.Sl.cw_region ?_
  (refine Go.Sl.ow_box rfl rfl rfl rfl ?_; intro b2)
  (refine Go.Sl.ow_box rfl rfl rfl rfl ?_; intro b3)
  refine Go.Sl.ow_val rfl rfl (Go.Sl.v_assign rfl) ?_
  refine Go.Sl.ow_nil ?_
  refine Go.Sl.xw_then ?_
  refine Go.Sl.cw_seq ?_
  refine Go.Sl.cw_region ?_
  refine Go.Sl.ow_val rfl rfl (Go.Sl.v_load rfl (Go.Sl.Var.at1 Ty.sc187 (.there .here) (Go.Sl.GetN.lit rfl))) ?_
  refine Go.Sl.ow_val rfl rfl (Go.Sl.v_nilCheck rfl) ?_
  refine Go.Sl.ow_val rfl rfl (Go.Sl.v_fieldAddr0 Ty.fd212_1 rfl) ?_
  refine Go.Sl.ow_val rfl rfl (Go.Sl.v_load rfl (Go.Sl.Var.sub1 Ty.sc27 (by repeat (first | assumption | refine Go.Sl.Sub.there ?_)) (.head _) (Go.Sl.GetN.lit rfl))) ?_
  refine Go.Sl.ow_val rfl rfl (Go.Sl.v_len rfl Try.underlying27 rfl) ?_
  refine Go.Sl.ow_val rfl rfl (Go.Sl.v_makeFunc rfl rfl) ?_
  refine Go.Sl.ow_val rfl rfl (Go.Sl.v_call rfl rfl (search_c (k := cutAt (fun x => decide (n < x.b)) m.l) (p := fun i => decide (n < m.l[i]!.b)) (by omega) cutAt_le at_lo (at_hi (hw.good.behinds n)) (fun i hi => behind1_c hO' hs.there.there Sub.here.there Sub.here hi))) ?_
  refine Go.Sl.ow_val rfl rfl (Go.Sl.v_assign rfl) ?_
  refine Go.Sl.ow_nil ?_
  refine Go.Sl.xw_then ?_
  refine Go.Sl.cw_ret ?_
  refine Go.Sl.ret1 rfl (Go.Sl.res_tmp rfl) ?_
  exact ⟨rfl, (by first | exact Go.Sl.Cov.refl _ | (intro p; simp only [List.flatten_cons, List.flatten_nil, List.flatten_append, List.append_nil, List.nil_append, Go.Sl.cnt_append, Go.Sl.cnt_cons, Go.Sl.cnt_nil, List.set_cons_zero, List.set_cons_succ, List.length_nil, List.length_cons, Nat.zero_add, List.append]; omega))⟩

theorem dec_and {p q : Prop} [Decidable p] [Decidable q] : decide (p ∧ q) = (decide p && decide q) := by by_cases p <;> by_cases q <;> simp [*]
def hasR (l : List Rg) (n : Int) : Bool := l.any fun x => decide (x.a ≤ n) && decide (n < x.b)
def coversR (l : List Rg) (r : Rg) : Bool := decide (r.b ≤ r.a) || l.any fun x => decide (x.a ≤ r.a) && decide (r.b ≤ x.b)
theorem hasR_iff {l : List Rg} {n : Int} : hasR l n = true ↔ InR l n := by
  unfold hasR InR
  rw [List.any_eq_true]
  simp
theorem setHas_c {B : Nat} {w0 : World} {G : List Hp} {m : SetM} {b : Nat} {c : Hp} {n : Int} (hO : SetAt m b c) (hs : Sub c G) (hw : m.WF) :
    Go.Sl.Fn Try.prog 127 #[.pointer (some ⟨b, 0, none⟩), .int .u64 n] B w0 G fun u G' => u = .bool (hasR m.l n) ∧ G' = G := by
  refine Fn.pure ?_
  have hO' := hO
  obtain ⟨ao, cap, cl, rfl, hL⟩ := hO
  have hs1 := hs.left
  have hs2 := hs.right
  have h2 := hw.len
  have hh := has_eq hw.good (n := n)
  rw [← hasR_iff] at hh
  refine fn_enter Try.func127 rfl (by kernel_rfl) Try.ntmps127 (by simp) ?_
  refine Go.Sl.cw_seq ?_
  refine Go.Sl.cw_region ?_
  refine Go.Sl.ow_val rfl rfl (Go.Sl.v_assign rfl) ?_
  refine Go.Sl.ow_nil ?_
  refine Go.Sl.xw_then ?_
  refine Go.Sl.cw_seq ?_
  refine Go.Sl.cw_seq ?_
  refine Go.Sl.cw_region ?_
  refine Go.Sl.ow_val rfl rfl (Go.Sl.v_move rfl) ?_
  refine Go.Sl.ow_val rfl rfl (Go.Sl.v_eql_nil_some Try.underlying187 rfl) ?_
  refine Go.Sl.ow_nil ?_
  refine Go.Sl.xw_then ?_
  refine Go.Sl.cw_false rfl ?_
  refine Go.Sl.cw_skip ?_
  refine Go.Sl.xw_then ?_
  refine Go.Sl.cw_seq ?_
  refine Go.Sl.cw_region ?_
  refine Go.Sl.ow_val rfl rfl (Go.Sl.v_move rfl) ?_
  refine Go.Sl.ow_val rfl rfl (Go.Sl.v_move rfl) ?_
  refine Go.Sl.ow_val rfl rfl (Go.Sl.v_call rfl rfl (behind_c hO' hs hw)) ?_
  refine Go.Sl.ow_val rfl rfl (Go.Sl.v_assign rfl) ?_
  refine Go.Sl.ow_nil ?_
  refine Go.Sl.xw_then ?_
  refine Go.Sl.cw_seq ?_
  refine Go.Sl.cw_region ?_
  refine Go.Sl.ow_val rfl rfl (Go.Sl.v_move rfl) ?_
  refine Go.Sl.ow_val rfl rfl (Go.Sl.v_move rfl) ?_
  refine Go.Sl.ow_val rfl rfl (Go.Sl.v_nilCheck rfl) ?_
  refine Go.Sl.ow_val rfl rfl (Go.Sl.v_fieldAddr0 Ty.fd212_1 rfl) ?_
  refine Go.Sl.ow_val rfl rfl (Go.Sl.v_load rfl (Go.Sl.Var.sub1 Ty.sc27 (by repeat (first | assumption | refine Go.Sl.Sub.there ?_)) (.head _) (Go.Sl.GetN.lit rfl))) ?_
  refine Go.Sl.ow_val rfl rfl (Go.Sl.v_len rfl Try.underlying27 rfl) ?_
  refine Go.Sl.ow_val rfl rfl (Go.Sl.v_lss rfl rfl) ?_
  refine Go.Sl.ow_val rfl rfl (Go.Sl.v_move rfl) ?_
  refine Go.Sl.ow_dec 18 rfl (fun hc18 => ?_) (fun hc18 => ?_)
  refine Go.Sl.ow_val rfl rfl (Go.Sl.v_move rfl) ?_
  refine Go.Sl.ow_val rfl rfl (Go.Sl.v_nilCheck rfl) ?_
  refine Go.Sl.ow_val rfl rfl (Go.Sl.v_fieldAddr0 Ty.fd212_1 rfl) ?_
  refine Go.Sl.ow_val rfl rfl (Go.Sl.v_load rfl (Go.Sl.Var.sub1 Ty.sc27 (by repeat (first | assumption | refine Go.Sl.Sub.there ?_)) (.head _) (Go.Sl.GetN.lit rfl))) ?_
  refine Go.Sl.ow_val rfl rfl (Go.Sl.v_move rfl) ?_
  refine Go.Sl.ow_val rfl rfl (Go.Sl.v_indexAddr_ls Try.underlying27 (rTy) rfl rfl (by assumption) rfl (by omega)) ?_
  refine Go.Sl.ow_val rfl rfl (Go.Sl.v_fieldAddr Ty.fd102_0 rfl) ?_
  refine Go.Sl.ow_val rfl rfl (Go.Sl.v_load rfl (Go.Sl.Vw.fld1 (rTy) Ty.sc22 (hL.vw hs2) (by omega) rfl)) ?_
  refine Go.Sl.ow_val rfl rfl (Go.Sl.v_move rfl) ?_
  refine Go.Sl.ow_val rfl rfl (Go.Sl.v_leq rfl rfl) ?_
  refine Go.Sl.ow_val rfl rfl (Go.Sl.v_pick_true rfl rfl) ?_
  refine Go.Sl.ow_val rfl rfl (Go.Sl.v_assign rfl) ?_
  refine Go.Sl.ow_nil ?_
  refine Go.Sl.xw_then ?_
  refine Go.Sl.cw_ret ?_
  refine Go.Sl.ret1 rfl (Go.Sl.res_tmp rfl) ?_
  rotate_left
  refine Go.Sl.ow_skip rfl rfl ?_
  refine Go.Sl.ow_skip rfl rfl ?_
  refine Go.Sl.ow_skip rfl rfl ?_
  refine Go.Sl.ow_skip rfl rfl ?_
  refine Go.Sl.ow_skip rfl rfl ?_
  refine Go.Sl.ow_skip rfl rfl ?_
  refine Go.Sl.ow_skip rfl rfl ?_
  refine Go.Sl.ow_skip rfl rfl ?_
  refine Go.Sl.ow_skip rfl rfl ?_
  refine Go.Sl.ow_skip rfl rfl ?_
  refine Go.Sl.ow_val rfl rfl (Go.Sl.v_pick_false rfl rfl) ?_
  refine Go.Sl.ow_val rfl rfl (Go.Sl.v_assign rfl) ?_
  refine Go.Sl.ow_nil ?_
  refine Go.Sl.xw_then ?_
  refine Go.Sl.cw_ret ?_
  refine Go.Sl.ret1 rfl (Go.Sl.res_tmp rfl) ?_
  rotate_left
  · refine ⟨?_, (by first | exact Go.Sl.Cov.refl _ | (intro p; simp only [List.flatten_cons, List.flatten_nil, List.flatten_append, List.append_nil, List.nil_append, Go.Sl.cnt_append, Go.Sl.cnt_cons, Go.Sl.cnt_nil, List.set_cons_zero, List.set_cons_succ, List.length_nil, List.length_cons, Nat.zero_add, List.append]; omega))⟩
    congr 1
    rw [Bool.eq_iff_iff, decide_eq_true_iff, ← hh]
    exact ⟨fun h => ⟨by omega, h⟩, fun ⟨_, h⟩ => h⟩
  · refine ⟨?_, (by first | exact Go.Sl.Cov.refl _ | (intro p; simp only [List.flatten_cons, List.flatten_nil, List.flatten_append, List.append_nil, List.nil_append, Go.Sl.cnt_append, Go.Sl.cnt_cons, Go.Sl.cnt_nil, List.set_cons_zero, List.set_cons_succ, List.length_nil, List.length_cons, Nat.zero_add, List.append]; omega))⟩
    congr 1
    symm
    rw [Bool.eq_false_iff]
    intro h
    obtain ⟨h1, _⟩ := hh.2 h
    omega
def firstR (l : List Rg) (n : Int) : Rg × Bool := if h : cutAt (fun x => decide (n < x.b)) l < l.length then (⟨max l[cutAt (fun x => decide (n < x.b)) l].a n, l[cutAt (fun x => decide (n < x.b)) l].b⟩, true) else (⟨0, 0⟩, false)
def lastR (l : List Rg) : Rg × Bool := if l.length = 0 then (⟨0, 0⟩, false) else (l[l.length - 1]!, true)
theorem cntR_succ {l : List Rg} {j : Nat} (h : j < l.length) : cntR (l.take (j + 1)) = cntR (l.take j) + (l[j].b - l[j].a) := by
  rw [List.take_succ_eq_append_getElem h, cntR_append, cntR_cons]
  have : cntR [] = 0 := rfl
  omega
end Go.Proofs.Ytckdhelnafjddaa
