/- What the methods of span.Set do, each as a contract. Conditions: numbers fit their types, lists are short. -/
import Derived.Test.YtbpnnkkbaakdjaaSpanSl
namespace Go.Proofs.Ytbpnnkkbaakdjaa
open Go Go.Sl Go.Proofs
set_option maxRecDepth 20000
set_option linter.unusedVariables false
set_option linter.unusedSimpArgs false

def SetAt (m : SetM) (b : Nat) (c : Hp) : Prop := ∃ ao cap cl, c = [(b, .cells [.int .i64 m.limit, .slice ao m.l.length cap].toArray 125 (0, 0))] ++ cl ∧ Ls enR 28 (.slice ao m.l.length cap) cl m.l
structure SetM.WF (m : SetM) : Prop where
  good : Good m.l
  len : m.l.length ≤ 1000000
  lim : -9223372036854775808 ≤ m.limit ∧ m.limit ≤ 9223372036854775807

theorem b_set {m : Int} : Build Try.prog 125 #[(0, .int .i64 m)] (.agg [Value.int .i64 m, .slice none 0 0].toArray) := fun w => by kernel_rfl
theorem b_set2 {m : Int} {v : Option Addr} {k k' : Nat} : Build Try.prog 125 #[(0, .int .i64 m), (1, .slice v k k')] (.agg [Value.int .i64 m, .slice v k k'].toArray) := fun w => by kernel_rfl
theorem b_rng {m n : Int} : Build Try.prog 28 #[(0, .int .u64 m), (1, .int .u64 n)] (.agg (Rg.cells ⟨m, n⟩).toArray) := fun w => by kernel_rfl
theorem b_rng0 : Build Try.prog 28 #[] (.agg (Rg.cells ⟨0, 0⟩).toArray) := fun w => by kernel_rfl

theorem ok_z : enR.ok ⟨0, 0⟩ := by simp [enR, RgIn]
theorem len2 (e : Rg) (h : enR.ok e) : e.cells.length = 2 := rTy.len e h
theorem one2 (e : Rg) (h : enR.ok e) : ∀ u ∈ e.cells, u.oneCell' = true := rTy.one e h
theorem enR_f (x : Rg) : enR.f x = [.int .u64 x.a, .int .u64 x.b] := rfl
theorem one_lit (a b : Int) : ∀ u ∈ [Value.int .u64 a, Value.int .u64 b], u.oneCell' = true := fun u hu => by
  simp only [List.mem_cons, List.not_mem_nil, or_false] at hu
  rcases hu with rfl | rfl <;> rfl
theorem empty_c {B : Nat} {w0 : World} {G : List Hp} {r : Rg} :
    Go.Sl.Fn Try.prog 69 #[enR.val r] B w0 G fun u G' => u = .bool (decide (r.b ≤ r.a)) ∧ G' = G := by
  refine Fn.pure ?_
  refine fn_enter Try.func69 rfl (by kernel_rfl) Try.ntmps69 (by simp) ?_
  refine Go.Sl.cw_seq ?_
  refine Go.Sl.cw_region ?_
  (refine Go.Sl.ow_box rfl rfl rfl rfl ?_; intro b1)
  refine Go.Sl.ow_val rfl rfl (Go.Sl.v_assign rfl) ?_
  refine Go.Sl.ow_nil ?_
  refine Go.Sl.xw_then ?_
  refine Go.Sl.cw_seq ?_
  refine Go.Sl.cw_region ?_
  refine Go.Sl.ow_val rfl rfl (Go.Sl.v_fieldAddr0 Ty.fd28_0 rfl) ?_
  refine Go.Sl.ow_val rfl rfl (Go.Sl.v_load rfl (Go.Sl.Var.at1 Ty.sc23 .here (Go.Sl.GetN.lit rfl))) ?_
  refine Go.Sl.ow_val rfl rfl (Go.Sl.v_fieldAddr0 Ty.fd28_1 rfl) ?_
  refine Go.Sl.ow_val rfl rfl (Go.Sl.v_load rfl (Go.Sl.Var.at1 Ty.sc23 .here (Go.Sl.GetN.lit rfl))) ?_
  refine Go.Sl.ow_val rfl rfl (Go.Sl.v_geq rfl rfl) ?_
  refine Go.Sl.ow_val rfl rfl (Go.Sl.v_assign rfl) ?_
  refine Go.Sl.ow_nil ?_
  refine Go.Sl.xw_then ?_
  refine Go.Sl.cw_ret ?_
  refine Go.Sl.ret1 rfl (Go.Sl.res_tmp rfl) ?_
  exact ⟨rfl, (by first | exact Go.Sl.Cov.refl _ | (intro p; simp only [List.flatten_cons, List.flatten_nil, List.flatten_append, List.append_nil, List.nil_append, Go.Sl.cnt_append, Go.Sl.cnt_cons, Go.Sl.cnt_nil, List.set_cons_zero, List.set_cons_succ, List.length_nil, List.length_cons, Nat.zero_add, List.append]; omega))⟩

theorem newSet_c {B : Nat} {w0 : World} {G : List Hp} {limit : Int} :
    Go.Sl.Fn Try.prog 16 #[.int .i64 limit] B w0 G fun u G' => ∃ x : Nat × Hp, u = .pointer (some ⟨x.1, 0, none⟩) ∧ SetAt ⟨limit, []⟩ x.1 x.2 ∧ G' = [x.2] ++ G := by
  refine Fn.new ?_
  refine fn_enter Try.func16 rfl (by kernel_rfl) Try.ntmps16 (by simp) ?_
  refine Go.Sl.cw_seq ?_
  refine Go.Sl.cw_region ?_
  refine Go.Sl.ow_val rfl rfl (Go.Sl.v_assign rfl) ?_
  refine Go.Sl.ow_nil ?_
  refine Go.Sl.xw_then ?_
  refine Go.Sl.cw_seq ?_
  refine Go.Sl.cw_region ?_
  refine Go.Sl.ow_val rfl rfl (Go.Sl.v_move rfl) ?_
  refine Go.Sl.ow_val rfl rfl (Go.Sl.v_build rfl (b_set)) ?_
  (refine Go.Sl.ow_box rfl rfl rfl rfl ?_; intro b5)
  refine Go.Sl.ow_val rfl rfl (Go.Sl.v_assign rfl) ?_
  refine Go.Sl.ow_nil ?_
  refine Go.Sl.xw_then ?_
  refine Go.Sl.cw_ret ?_
  refine Go.Sl.ret1 rfl (Go.Sl.res_tmp rfl) ?_
  exact ⟨(b5, [(b5, _)] ++ []), rfl, ⟨none, 0, [], rfl, Ls.nil⟩, (by first | exact Go.Sl.Cov.refl _ | (intro p; simp only [List.flatten_cons, List.flatten_nil, List.flatten_append, List.append_nil, List.nil_append, Go.Sl.cnt_append, Go.Sl.cnt_cons, Go.Sl.cnt_nil, List.set_cons_zero, List.set_cons_succ, List.length_nil, List.length_cons, Nat.zero_add, List.append]; omega))⟩

theorem most_c {B : Nat} {w0 : World} {G : List Hp} {m : SetM} {b : Nat} {c : Hp} (hO : SetAt m b c) (hs : Sub c G) :
    Go.Sl.Fn Try.prog 71 #[.pointer (some ⟨b, 0, none⟩)] B w0 G fun u G' => u = .int .i64 (max m.limit 1) ∧ G' = G := by
  refine Fn.pure ?_
  obtain ⟨ao, cap, cl, rfl, hL⟩ := hO
  have hs1 := hs.left
  have hs2 := hs.right
  refine fn_enter Try.func71 rfl (by kernel_rfl) Try.ntmps71 (by simp) ?_
  refine Go.Sl.cw_seq ?_
  refine Go.Sl.cw_region ?_
  refine Go.Sl.ow_val rfl rfl (Go.Sl.v_assign rfl) ?_
  refine Go.Sl.ow_nil ?_
  refine Go.Sl.xw_then ?_
  refine Go.Sl.cw_seq ?_
  refine Go.Sl.cw_region ?_
  refine Go.Sl.ow_val rfl rfl (Go.Sl.v_move rfl) ?_
  refine Go.Sl.ow_val rfl rfl (Go.Sl.v_nilCheck rfl) ?_
  refine Go.Sl.ow_val rfl rfl (Go.Sl.v_fieldAddr0 Ty.fd125_0 rfl) ?_
  refine Go.Sl.ow_val rfl rfl (Go.Sl.v_load rfl (Go.Sl.Var.sub1 Ty.sc3 (by repeat (first | assumption | refine Go.Sl.Sub.there ?_)) (.head _) (Go.Sl.GetN.lit rfl))) ?_
  refine Go.Sl.ow_val rfl rfl (Go.Sl.v_max rfl rfl) ?_
  refine Go.Sl.ow_val rfl rfl (Go.Sl.v_assign rfl) ?_
  refine Go.Sl.ow_nil ?_
  refine Go.Sl.xw_then ?_
  refine Go.Sl.cw_ret ?_
  refine Go.Sl.ret1 rfl (Go.Sl.res_tmp rfl) ?_
  exact ⟨rfl, (by first | exact Go.Sl.Cov.refl _ | (intro p; simp only [List.flatten_cons, List.flatten_nil, List.flatten_append, List.append_nil, List.nil_append, Go.Sl.cnt_append, Go.Sl.cnt_cons, Go.Sl.cnt_nil, List.set_cons_zero, List.set_cons_succ, List.length_nil, List.length_cons, Nat.zero_add, List.append]; omega))⟩

theorem setLen_c {B : Nat} {w0 : World} {G : List Hp} {m : SetM} {b : Nat} {c : Hp} (hO : SetAt m b c) (hs : Sub c G) :
    Go.Sl.Fn Try.prog 30 #[.pointer (some ⟨b, 0, none⟩)] B w0 G fun u G' => u = .int .i64 m.l.length ∧ G' = G := by
  refine Fn.pure ?_
  obtain ⟨ao, cap, cl, rfl, hL⟩ := hO
  have hs1 := hs.left
  have hs2 := hs.right
  refine fn_enter Try.func30 rfl (by kernel_rfl) Try.ntmps30 (by simp) ?_
  refine Go.Sl.cw_seq ?_
  refine Go.Sl.cw_region ?_
  refine Go.Sl.ow_val rfl rfl (Go.Sl.v_assign rfl) ?_
  refine Go.Sl.ow_nil ?_
  refine Go.Sl.xw_then ?_
  refine Go.Sl.cw_seq ?_
  refine Go.Sl.cw_seq ?_
  refine Go.Sl.cw_region ?_
  refine Go.Sl.ow_val rfl rfl (Go.Sl.v_move rfl) ?_
  refine Go.Sl.ow_val rfl rfl (Go.Sl.v_eql_nil_some Try.underlying25 rfl) ?_
  refine Go.Sl.ow_nil ?_
  refine Go.Sl.xw_then ?_
  refine Go.Sl.cw_false rfl ?_
  refine Go.Sl.cw_skip ?_
  refine Go.Sl.xw_then ?_
  refine Go.Sl.cw_seq ?_
  refine Go.Sl.cw_region ?_
  refine Go.Sl.ow_val rfl rfl (Go.Sl.v_move rfl) ?_
  refine Go.Sl.ow_val rfl rfl (Go.Sl.v_nilCheck rfl) ?_
  refine Go.Sl.ow_val rfl rfl (Go.Sl.v_fieldAddr0 Ty.fd125_1 rfl) ?_
  refine Go.Sl.ow_val rfl rfl (Go.Sl.v_load rfl (Go.Sl.Var.sub1 Ty.sc34 (by repeat (first | assumption | refine Go.Sl.Sub.there ?_)) (.head _) (Go.Sl.GetN.lit rfl))) ?_
  refine Go.Sl.ow_val rfl rfl (Go.Sl.v_len rfl Try.underlying34 rfl) ?_
  refine Go.Sl.ow_val rfl rfl (Go.Sl.v_assign rfl) ?_
  refine Go.Sl.ow_nil ?_
  refine Go.Sl.xw_then ?_
  refine Go.Sl.cw_ret ?_
  refine Go.Sl.ret1 rfl (Go.Sl.res_tmp rfl) ?_
  exact ⟨rfl, (by first | exact Go.Sl.Cov.refl _ | (intro p; simp only [List.flatten_cons, List.flatten_nil, List.flatten_append, List.append_nil, List.nil_append, Go.Sl.cnt_append, Go.Sl.cnt_cons, Go.Sl.cnt_nil, List.set_cons_zero, List.set_cons_succ, List.length_nil, List.length_cons, Nat.zero_add, List.append]; omega))⟩

theorem setList_c {B : Nat} {w0 : World} {G : List Hp} {m : SetM} {b : Nat} {c : Hp} (hO : SetAt m b c) (hs : Sub c G) (hw : m.WF) :
    Go.Sl.Fn Try.prog 19 #[.pointer (some ⟨b, 0, none⟩)] B w0 G fun u G' => ∃ x : Option Addr × Nat × Hp, u = .slice x.1 m.l.length x.2.1 ∧ Ls enR 28 (.slice x.1 m.l.length x.2.1) x.2.2 m.l ∧ G' = [x.2.2] ++ G := by
  obtain ⟨ao, cap, cl, rfl, hL⟩ := hO
  refine Fn.new ?_
  have hs1 := hs.left
  have hs2 := hs.right
  have h2 := hw.len
  refine fn_enter Try.func19 rfl (by kernel_rfl) Try.ntmps19 (by simp) ?_
  refine Go.Sl.cw_seq ?_
  refine Go.Sl.cw_region ?_
  refine Go.Sl.ow_val rfl rfl (Go.Sl.v_assign rfl) ?_
  refine Go.Sl.ow_nil ?_
  refine Go.Sl.xw_then ?_
  refine Go.Sl.cw_seq ?_
  refine Go.Sl.cw_seq ?_
  refine Go.Sl.cw_region ?_
  refine Go.Sl.ow_val rfl rfl (Go.Sl.v_move rfl) ?_
  refine Go.Sl.ow_val rfl rfl (Go.Sl.v_eql_nil_some Try.underlying25 rfl) ?_
  refine Go.Sl.ow_nil ?_
  refine Go.Sl.xw_then ?_
  refine Go.Sl.cw_false rfl ?_
  refine Go.Sl.cw_skip ?_
  refine Go.Sl.xw_then ?_
  refine Go.Sl.cw_seq ?_
  refine Go.Sl.cw_region ?_
  refine Go.Sl.ow_val rfl rfl (Go.Sl.v_move rfl) ?_
  refine Go.Sl.ow_val rfl rfl (Go.Sl.v_nilCheck rfl) ?_
  refine Go.Sl.ow_val rfl rfl (Go.Sl.v_fieldAddr0 Ty.fd125_1 rfl) ?_
  refine Go.Sl.ow_val rfl rfl (Go.Sl.v_load rfl (Go.Sl.Var.sub1 Ty.sc34 (by repeat (first | assumption | refine Go.Sl.Sub.there ?_)) (.head _) (Go.Sl.GetN.lit rfl))) ?_
  (refine Go.Sl.ow_call rfl rfl rfl rfl (cloneR_c (hL.vw hs2) (by omega)) ?_; rintro _ _ ⟨x9, rfl, hq9, rfl⟩)
  refine Go.Sl.ow_val rfl rfl (Go.Sl.v_assign rfl) ?_
  refine Go.Sl.ow_nil ?_
  refine Go.Sl.xw_then ?_
  refine Go.Sl.cw_ret ?_
  refine Go.Sl.ret1 rfl (Go.Sl.res_tmp rfl) ?_
  exact ⟨x9, rfl, hq9, (by first | exact Go.Sl.Cov.refl _ | (intro p; simp only [List.flatten_cons, List.flatten_nil, List.flatten_append, List.append_nil, List.nil_append, Go.Sl.cnt_append, Go.Sl.cnt_cons, Go.Sl.cnt_nil, List.set_cons_zero, List.set_cons_succ, List.length_nil, List.length_cons, Nat.zero_add, List.append]; omega))⟩

theorem setCopy_c {B : Nat} {w0 : World} {G : List Hp} {m : SetM} {b : Nat} {c : Hp} (hO : SetAt m b c) (hs : Sub c G) (hw : m.WF) :
    Go.Sl.Fn Try.prog 20 #[.pointer (some ⟨b, 0, none⟩)] B w0 G fun u G' => ∃ x : Nat × Hp, u = .pointer (some ⟨x.1, 0, none⟩) ∧ SetAt m x.1 x.2 ∧ G' = [x.2] ++ G := by
  obtain ⟨ao, cap, cl, rfl, hL⟩ := hO
  refine Fn.new ?_
  have hs1 := hs.left
  have hs2 := hs.right
  have h2 := hw.len
  refine fn_enter Try.func20 rfl (by kernel_rfl) Try.ntmps20 (by simp) ?_
  refine Go.Sl.cw_seq ?_
  refine Go.Sl.cw_region ?_
  refine Go.Sl.ow_val rfl rfl (Go.Sl.v_assign rfl) ?_
  refine Go.Sl.ow_nil ?_
  refine Go.Sl.xw_then ?_
  refine Go.Sl.cw_seq ?_
  refine Go.Sl.cw_seq ?_
  refine Go.Sl.cw_region ?_
  refine Go.Sl.ow_val rfl rfl (Go.Sl.v_move rfl) ?_
  refine Go.Sl.ow_val rfl rfl (Go.Sl.v_eql_nil_some Try.underlying25 rfl) ?_
  refine Go.Sl.ow_nil ?_
  refine Go.Sl.xw_then ?_
  refine Go.Sl.cw_false rfl ?_
  refine Go.Sl.cw_skip ?_
  refine Go.Sl.xw_then ?_
  refine Go.Sl.cw_seq ?_
  refine Go.Sl.cw_any Ty.mixed ?_
  refine Go.Sl.aw_pure 0 rfl (by decide +kernel) rfl rfl (Go.Sl.v_move rfl) rfl ?_
  refine Go.Sl.aw_pure 1 rfl (by decide +kernel) rfl rfl (Go.Sl.v_nilCheck rfl) rfl ?_
  refine Go.Sl.aw_pure 2 rfl (by decide +kernel) rfl rfl (Go.Sl.v_fieldAddr0 Ty.fd125_0 rfl) rfl ?_
  refine Go.Sl.aw_pure 4 rfl (by decide +kernel) rfl rfl (Go.Sl.v_move rfl) rfl ?_
  refine Go.Sl.aw_pure 5 rfl (by decide +kernel) rfl rfl (Go.Sl.v_nilCheck rfl) rfl ?_
  refine Go.Sl.aw_pure 6 rfl (by decide +kernel) rfl rfl (Go.Sl.v_fieldAddr0 Ty.fd125_1 rfl) rfl ?_
  refine Go.Sl.aw_step2 3 7 (by decide +kernel) rfl rfl ?_ ?_
  refine Go.Sl.ow_val rfl rfl (Go.Sl.v_load rfl (Go.Sl.Var.sub1 Ty.sc3 (by repeat (first | assumption | refine Go.Sl.Sub.there ?_)) (.head _) (Go.Sl.GetN.lit rfl))) ?_
  refine Go.Sl.ow_nil ?_
  refine Go.Sl.xw_nx ?_
  refine Go.Sl.aw_step1 7 (by decide +kernel) rfl ?_
  refine Go.Sl.ow_val rfl rfl (Go.Sl.v_load rfl (Go.Sl.Var.sub1 Ty.sc34 (by repeat (first | assumption | refine Go.Sl.Sub.there ?_)) (.head _) (Go.Sl.GetN.lit rfl))) ?_
  refine Go.Sl.ow_nil ?_
  refine Go.Sl.xw_nx ?_
  refine Go.Sl.aw_step1 8 (by decide +kernel) rfl ?_
  (refine Go.Sl.ow_call rfl rfl rfl rfl (cloneR_c (hL.vw (by repeat (first | exact Go.Sl.Sub.here | assumption | refine Go.Sl.Sub.there ?_))) (by omega)) ?_; rintro _ _ ⟨x13, rfl, hq13, rfl⟩)
  refine Go.Sl.ow_nil ?_
  refine Go.Sl.xw_nx ?_
  refine Go.Sl.aw_pure 9 rfl (by decide +kernel) rfl rfl (Go.Sl.v_build rfl (b_set2)) rfl ?_
  refine Go.Sl.aw_step1 10 (by decide +kernel) rfl ?_
  (refine Go.Sl.ow_box rfl rfl rfl rfl ?_; intro b15)
  refine Go.Sl.ow_nil ?_
  refine Go.Sl.xw_nx ?_
  refine Go.Sl.aw_pure 11 rfl (by decide +kernel) rfl rfl (Go.Sl.v_assign rfl) rfl ?_
  refine Go.Sl.aw_end (by decide +kernel) ?_
  refine Go.Sl.xw_np ?_
  refine Go.Sl.xw_then ?_
  refine Go.Sl.cw_ret ?_
  refine Go.Sl.ret1 rfl (Go.Sl.res_tmp rfl) ?_
  rotate_left
  refine Go.Sl.ow_val rfl rfl (Go.Sl.v_load rfl (Go.Sl.Var.sub1 Ty.sc34 (by repeat (first | assumption | refine Go.Sl.Sub.there ?_)) (.head _) (Go.Sl.GetN.lit rfl))) ?_
  refine Go.Sl.ow_nil ?_
  refine Go.Sl.xw_nx ?_
  refine Go.Sl.aw_step2 3 8 (by decide +kernel) rfl rfl ?_ ?_
  refine Go.Sl.ow_val rfl rfl (Go.Sl.v_load rfl (Go.Sl.Var.sub1 Ty.sc3 (by repeat (first | assumption | refine Go.Sl.Sub.there ?_)) (.head _) (Go.Sl.GetN.lit rfl))) ?_
  refine Go.Sl.ow_nil ?_
  refine Go.Sl.xw_nx ?_
  refine Go.Sl.aw_step1 8 (by decide +kernel) rfl ?_
  (refine Go.Sl.ow_call rfl rfl rfl rfl (cloneR_c (hL.vw (by repeat (first | exact Go.Sl.Sub.here | assumption | refine Go.Sl.Sub.there ?_))) (by omega)) ?_; rintro _ _ ⟨x13, rfl, hq13, rfl⟩)
  refine Go.Sl.ow_nil ?_
  refine Go.Sl.xw_nx ?_
  refine Go.Sl.aw_pure 9 rfl (by decide +kernel) rfl rfl (Go.Sl.v_build rfl (b_set2)) rfl ?_
  refine Go.Sl.aw_step1 10 (by decide +kernel) rfl ?_
  (refine Go.Sl.ow_box rfl rfl rfl rfl ?_; intro b15)
  refine Go.Sl.ow_nil ?_
  refine Go.Sl.xw_nx ?_
  refine Go.Sl.aw_pure 11 rfl (by decide +kernel) rfl rfl (Go.Sl.v_assign rfl) rfl ?_
  refine Go.Sl.aw_end (by decide +kernel) ?_
  refine Go.Sl.xw_np ?_
  refine Go.Sl.xw_then ?_
  refine Go.Sl.cw_ret ?_
  refine Go.Sl.ret1 rfl (Go.Sl.res_tmp rfl) ?_
  rotate_left
  (refine Go.Sl.ow_call rfl rfl rfl rfl (cloneR_c (hL.vw (by repeat (first | exact Go.Sl.Sub.here | assumption | refine Go.Sl.Sub.there ?_))) (by omega)) ?_; rintro _ _ ⟨x13, rfl, hq13, rfl⟩)
  refine Go.Sl.ow_nil ?_
  refine Go.Sl.xw_nx ?_
  refine Go.Sl.aw_step1 3 (by decide +kernel) rfl ?_
  refine Go.Sl.ow_val rfl rfl (Go.Sl.v_load rfl (Go.Sl.Var.sub1 Ty.sc3 (by repeat (first | assumption | refine Go.Sl.Sub.there ?_)) (.head _) (Go.Sl.GetN.lit rfl))) ?_
  refine Go.Sl.ow_nil ?_
  refine Go.Sl.xw_nx ?_
  refine Go.Sl.aw_pure 9 rfl (by decide +kernel) rfl rfl (Go.Sl.v_build rfl (b_set2)) rfl ?_
  refine Go.Sl.aw_step1 10 (by decide +kernel) rfl ?_
  (refine Go.Sl.ow_box rfl rfl rfl rfl ?_; intro b15)
  refine Go.Sl.ow_nil ?_
  refine Go.Sl.xw_nx ?_
  refine Go.Sl.aw_pure 11 rfl (by decide +kernel) rfl rfl (Go.Sl.v_assign rfl) rfl ?_
  refine Go.Sl.aw_end (by decide +kernel) ?_
  refine Go.Sl.xw_np ?_
  refine Go.Sl.xw_then ?_
  refine Go.Sl.cw_ret ?_
  refine Go.Sl.ret1 rfl (Go.Sl.res_tmp rfl) ?_
  rotate_left
  all_goals exact ⟨(b15, [(b15, _)] ++ x13.2.2), rfl, ⟨x13.1, x13.2.1, x13.2.2, rfl, hq13⟩, (by first | exact Go.Sl.Cov.refl _ | (intro p; simp only [List.flatten_cons, List.flatten_nil, List.flatten_append, List.append_nil, List.nil_append, Go.Sl.cnt_append, Go.Sl.cnt_cons, Go.Sl.cnt_nil, List.set_cons_zero, List.set_cons_succ, List.length_nil, List.length_cons, Nat.zero_add, List.append]; omega))⟩

theorem ending1_c {B : Nat} {w0 : World} {G : List Hp} {m : SetM} {b b1 b2 i : Nat} {c : Hp} {n : Int} (hO : SetAt m b c) (hs : Sub c G) (h1 : Sub [(b1, .cells [Value.pointer (some ⟨b, 0, none⟩)].toArray 25 (0, 0))] G) (h2 : Sub [(b2, .cells [Value.int .u64 n].toArray 23 (0, 0))] G) (hi : i < m.l.length) :
    Go.Sl.Fn Try.prog 107 #[.int .i64 i, .pointer (some ⟨b1, 0, none⟩), .pointer (some ⟨b2, 0, none⟩)] B w0 G fun u G' => u = .bool (decide (n ≤ m.l[i]!.b)) ∧ G' = G := by
  refine Fn.pure ?_
  obtain ⟨ao, cap, cl, rfl, hL⟩ := hO
  have hs1 := hs.left
  have hs2 := hs.right
  rw [getElem!_pos m.l i hi]
  refine fn_enter Try.func107 rfl (by kernel_rfl) Try.ntmps107 (by simp) ?_
  refine Go.Sl.cw_seq ?_
  refine Go.Sl.cw_region ?_
  refine Go.Sl.ow_val rfl rfl (Go.Sl.v_assign rfl) ?_
  refine Go.Sl.ow_nil ?_
  refine Go.Sl.xw_then ?_
  refine Go.Sl.cw_seq ?_
  refine Go.Sl.cw_quiet Ty.mixed (by decide +kernel) ?_
  refine Go.Sl.kw_val rfl rfl (Go.Sl.v_load rfl (Go.Sl.Var.sub1 Ty.sc25 (by repeat (first | assumption | refine Go.Sl.Sub.there ?_)) (.head _) (Go.Sl.GetN.lit rfl))) ?_
  refine Go.Sl.kw_val rfl rfl (Go.Sl.v_nilCheck rfl) ?_
  refine Go.Sl.kw_val rfl rfl (Go.Sl.v_fieldAddr0 Ty.fd125_1 rfl) ?_
  refine Go.Sl.kw_val rfl rfl (Go.Sl.v_load rfl (Go.Sl.Var.sub1 Ty.sc34 (by repeat (first | assumption | refine Go.Sl.Sub.there ?_)) (.head _) (Go.Sl.GetN.lit rfl))) ?_
  refine Go.Sl.kw_val rfl rfl (Go.Sl.v_move rfl) ?_
  refine Go.Sl.kw_val rfl rfl (Go.Sl.v_indexAddr_ls Try.underlying34 (rTy) rfl rfl (by assumption) rfl (by omega)) ?_
  refine Go.Sl.kw_val rfl rfl (Go.Sl.v_fieldAddr Ty.fd28_1 rfl) ?_
  refine Go.Sl.kw_val rfl rfl (Go.Sl.v_load rfl (Go.Sl.Vw.fld1 (rTy) Ty.sc23 (hL.vw hs2) (by omega) rfl)) ?_
  refine Go.Sl.kw_val rfl rfl (Go.Sl.v_load rfl (Go.Sl.Var.sub1 Ty.sc23 (by repeat (first | assumption | refine Go.Sl.Sub.there ?_)) (.head _) (Go.Sl.GetN.lit rfl))) ?_
  refine Go.Sl.kw_val rfl rfl (Go.Sl.v_geq rfl rfl) ?_
  refine Go.Sl.kw_val rfl rfl (Go.Sl.v_assign rfl) ?_
  refine Go.Sl.kw_nil ?_
  refine Go.Sl.xw_then ?_
  refine Go.Sl.cw_ret ?_
  refine Go.Sl.ret1 rfl (Go.Sl.res_tmp rfl) ?_
  exact ⟨rfl, (by first | exact Go.Sl.Cov.refl _ | (intro p; simp only [List.flatten_cons, List.flatten_nil, List.flatten_append, List.append_nil, List.nil_append, Go.Sl.cnt_append, Go.Sl.cnt_cons, Go.Sl.cnt_nil, List.set_cons_zero, List.set_cons_succ, List.length_nil, List.length_cons, Nat.zero_add, List.append]; omega))⟩
theorem behind1_c {B : Nat} {w0 : World} {G : List Hp} {m : SetM} {b b1 b2 i : Nat} {c : Hp} {n : Int} (hO : SetAt m b c) (hs : Sub c G) (h1 : Sub [(b1, .cells [Value.pointer (some ⟨b, 0, none⟩)].toArray 25 (0, 0))] G) (h2 : Sub [(b2, .cells [Value.int .u64 n].toArray 23 (0, 0))] G) (hi : i < m.l.length) :
    Go.Sl.Fn Try.prog 98 #[.int .i64 i, .pointer (some ⟨b1, 0, none⟩), .pointer (some ⟨b2, 0, none⟩)] B w0 G fun u G' => u = .bool (decide (n < m.l[i]!.b)) ∧ G' = G := by
  refine Fn.pure ?_
  obtain ⟨ao, cap, cl, rfl, hL⟩ := hO
  have hs1 := hs.left
  have hs2 := hs.right
  rw [getElem!_pos m.l i hi]
  refine fn_enter Try.func98 rfl (by kernel_rfl) Try.ntmps98 (by simp) ?_
  refine Go.Sl.cw_seq ?_
  refine Go.Sl.cw_region ?_
  refine Go.Sl.ow_val rfl rfl (Go.Sl.v_assign rfl) ?_
  refine Go.Sl.ow_nil ?_
  refine Go.Sl.xw_then ?_
  refine Go.Sl.cw_seq ?_
  refine Go.Sl.cw_quiet Ty.mixed (by decide +kernel) ?_
  refine Go.Sl.kw_val rfl rfl (Go.Sl.v_load rfl (Go.Sl.Var.sub1 Ty.sc25 (by repeat (first | assumption | refine Go.Sl.Sub.there ?_)) (.head _) (Go.Sl.GetN.lit rfl))) ?_
  refine Go.Sl.kw_val rfl rfl (Go.Sl.v_nilCheck rfl) ?_
  refine Go.Sl.kw_val rfl rfl (Go.Sl.v_fieldAddr0 Ty.fd125_1 rfl) ?_
  refine Go.Sl.kw_val rfl rfl (Go.Sl.v_load rfl (Go.Sl.Var.sub1 Ty.sc34 (by repeat (first | assumption | refine Go.Sl.Sub.there ?_)) (.head _) (Go.Sl.GetN.lit rfl))) ?_
  refine Go.Sl.kw_val rfl rfl (Go.Sl.v_move rfl) ?_
  refine Go.Sl.kw_val rfl rfl (Go.Sl.v_indexAddr_ls Try.underlying34 (rTy) rfl rfl (by assumption) rfl (by omega)) ?_
  refine Go.Sl.kw_val rfl rfl (Go.Sl.v_fieldAddr Ty.fd28_1 rfl) ?_
  refine Go.Sl.kw_val rfl rfl (Go.Sl.v_load rfl (Go.Sl.Vw.fld1 (rTy) Ty.sc23 (hL.vw hs2) (by omega) rfl)) ?_
  refine Go.Sl.kw_val rfl rfl (Go.Sl.v_load rfl (Go.Sl.Var.sub1 Ty.sc23 (by repeat (first | assumption | refine Go.Sl.Sub.there ?_)) (.head _) (Go.Sl.GetN.lit rfl))) ?_
  refine Go.Sl.kw_val rfl rfl (Go.Sl.v_gtr rfl rfl) ?_
  refine Go.Sl.kw_val rfl rfl (Go.Sl.v_assign rfl) ?_
  refine Go.Sl.kw_nil ?_
  refine Go.Sl.xw_then ?_
  refine Go.Sl.cw_ret ?_
  refine Go.Sl.ret1 rfl (Go.Sl.res_tmp rfl) ?_
  exact ⟨rfl, (by first | exact Go.Sl.Cov.refl _ | (intro p; simp only [List.flatten_cons, List.flatten_nil, List.flatten_append, List.append_nil, List.nil_append, Go.Sl.cnt_append, Go.Sl.cnt_cons, Go.Sl.cnt_nil, List.set_cons_zero, List.set_cons_succ, List.length_nil, List.length_cons, Nat.zero_add, List.append]; omega))⟩

theorem at_lo {p : Rg → Bool} {l : List Rg} : ∀ i, i < cutAt p l → p l[i]! = false := fun i hi => by
  have h := @cutAt_le p l
  rw [getElem!_pos l i (by omega)]
  have hlt : i < (l.take (cutAt p l)).length := by rw [List.length_take]; omega
  have := cutAt_pre _ (List.getElem_mem hlt)
  rwa [List.getElem_take] at this
theorem at_hi {p : Rg → Bool} {l : List Rg} (hm : l.Pairwise fun x y => p x = true → p y = true) : ∀ i, cutAt p l ≤ i → i < l.length → p l[i]! = true := fun i hi hl => by
  rw [getElem!_pos l i hl]
  refine cutAt_post hm _ ?_
  rw [List.mem_iff_getElem]
  exact ⟨i - cutAt p l, by rw [List.length_drop]; omega, by rw [List.getElem_drop]; congr 1; omega⟩

theorem ending_c {B : Nat} {w0 : World} {G : List Hp} {m : SetM} {b : Nat} {c : Hp} {n : Int} (hO : SetAt m b c) (hs : Sub c G) (hw : m.WF) :
    Go.Sl.Fn Try.prog 92 #[.pointer (some ⟨b, 0, none⟩), .int .u64 n] B w0 G fun u G' => u = .int .i64 (cutAt (fun x => decide (n ≤ x.b)) m.l) ∧ G' = G := by
  refine Fn.pure ?_
  have hO' := hO
  obtain ⟨ao, cap, cl, rfl, hL⟩ := hO
  have hs1 := hs.left
  have hs2 := hs.right
  have h2 := hw.len
  refine fn_enter Try.func92 rfl (by kernel_rfl) Try.ntmps92 (by simp) ?_
  refine Go.Sl.cw_seq ?_
  refine Go.Sl.cw_region ?_
  (refine Go.Sl.ow_box rfl rfl rfl rfl ?_; intro b2)
  (refine Go.Sl.ow_box rfl rfl rfl rfl ?_; intro b3)
  refine Go.Sl.ow_val rfl rfl (Go.Sl.v_assign rfl) ?_
  refine Go.Sl.ow_nil ?_
  refine Go.Sl.xw_then ?_
  refine Go.Sl.cw_seq ?_
  refine Go.Sl.cw_region ?_
  refine Go.Sl.ow_val rfl rfl (Go.Sl.v_load rfl (Go.Sl.Var.at1 Ty.sc25 (.there .here) (Go.Sl.GetN.lit rfl))) ?_
  refine Go.Sl.ow_val rfl rfl (Go.Sl.v_nilCheck rfl) ?_
  refine Go.Sl.ow_val rfl rfl (Go.Sl.v_fieldAddr0 Ty.fd125_1 rfl) ?_
  refine Go.Sl.ow_val rfl rfl (Go.Sl.v_load rfl (Go.Sl.Var.sub1 Ty.sc34 (by repeat (first | assumption | refine Go.Sl.Sub.there ?_)) (.head _) (Go.Sl.GetN.lit rfl))) ?_
  refine Go.Sl.ow_val rfl rfl (Go.Sl.v_len rfl Try.underlying34 rfl) ?_
  refine Go.Sl.ow_val rfl rfl (Go.Sl.v_makeFunc rfl rfl) ?_
  refine Go.Sl.ow_val rfl rfl (Go.Sl.v_call rfl rfl (search_c (k := cutAt (fun x => decide (n ≤ x.b)) m.l) (p := fun i => decide (n ≤ m.l[i]!.b)) (by omega) cutAt_le at_lo (at_hi (hw.good.ends n)) (fun i hi => ending1_c hO' hs.there.there Sub.here.there Sub.here hi))) ?_
  refine Go.Sl.ow_val rfl rfl (Go.Sl.v_assign rfl) ?_
  refine Go.Sl.ow_nil ?_
  refine Go.Sl.xw_then ?_
  refine Go.Sl.cw_ret ?_
  refine Go.Sl.ret1 rfl (Go.Sl.res_tmp rfl) ?_
  exact ⟨rfl, (by first | exact Go.Sl.Cov.refl _ | (intro p; simp only [List.flatten_cons, List.flatten_nil, List.flatten_append, List.append_nil, List.nil_append, Go.Sl.cnt_append, Go.Sl.cnt_cons, Go.Sl.cnt_nil, List.set_cons_zero, List.set_cons_succ, List.length_nil, List.length_cons, Nat.zero_add, List.append]; omega))⟩
theorem behind_c {B : Nat} {w0 : World} {G : List Hp} {m : SetM} {b : Nat} {c : Hp} {n : Int} (hO : SetAt m b c) (hs : Sub c G) (hw : m.WF) :
    Go.Sl.Fn Try.prog 74 #[.pointer (some ⟨b, 0, none⟩), .int .u64 n] B w0 G fun u G' => u = .int .i64 (cutAt (fun x => decide (n < x.b)) m.l) ∧ G' = G := by
  refine Fn.pure ?_
  have hO' := hO
  obtain ⟨ao, cap, cl, rfl, hL⟩ := hO
  have hs1 := hs.left
  have hs2 := hs.right
  have h2 := hw.len
  refine fn_enter Try.func74 rfl (by kernel_rfl) Try.ntmps74 (by simp) ?_
  refine Go.Sl.cw_seq ?_
  refine Go.Sl.cw_region ?_
  (refine Go.Sl.ow_box rfl rfl rfl rfl ?_; intro b2)
  (refine Go.Sl.ow_box rfl rfl rfl rfl ?_; intro b3)
  refine Go.Sl.ow_val rfl rfl (Go.Sl.v_assign rfl) ?_
  refine Go.Sl.ow_nil ?_
  refine Go.Sl.xw_then ?_
  refine Go.Sl.cw_seq ?_
  refine Go.Sl.cw_region ?_
  refine Go.Sl.ow_val rfl rfl (Go.Sl.v_load rfl (Go.Sl.Var.at1 Ty.sc25 (.there .here) (Go.Sl.GetN.lit rfl))) ?_
  refine Go.Sl.ow_val rfl rfl (Go.Sl.v_nilCheck rfl) ?_
  refine Go.Sl.ow_val rfl rfl (Go.Sl.v_fieldAddr0 Ty.fd125_1 rfl) ?_
  refine Go.Sl.ow_val rfl rfl (Go.Sl.v_load rfl (Go.Sl.Var.sub1 Ty.sc34 (by repeat (first | assumption | refine Go.Sl.Sub.there ?_)) (.head _) (Go.Sl.GetN.lit rfl))) ?_
  refine Go.Sl.ow_val rfl rfl (Go.Sl.v_len rfl Try.underlying34 rfl) ?_
  refine Go.Sl.ow_val rfl rfl (Go.Sl.v_makeFunc rfl rfl) ?_
  refine Go.Sl.ow_val rfl rfl (Go.Sl.v_call rfl rfl (search_c (k := cutAt (fun x => decide (n < x.b)) m.l) (p := fun i => decide (n < m.l[i]!.b)) (by omega) cutAt_le at_lo (at_hi (hw.good.behinds n)) (fun i hi => behind1_c hO' hs.there.there Sub.here.there Sub.here hi))) ?_
  refine Go.Sl.ow_val rfl rfl (Go.Sl.v_assign rfl) ?_
  refine Go.Sl.ow_nil ?_
  refine Go.Sl.xw_then ?_
  refine Go.Sl.cw_ret ?_
  refine Go.Sl.ret1 rfl (Go.Sl.res_tmp rfl) ?_
  exact ⟨rfl, (by first | exact Go.Sl.Cov.refl _ | (intro p; simp only [List.flatten_cons, List.flatten_nil, List.flatten_append, List.append_nil, List.nil_append, Go.Sl.cnt_append, Go.Sl.cnt_cons, Go.Sl.cnt_nil, List.set_cons_zero, List.set_cons_succ, List.length_nil, List.length_cons, Nat.zero_add, List.append]; omega))⟩

theorem dec_and {p q : Prop} [Decidable p] [Decidable q] : decide (p ∧ q) = (decide p && decide q) := by by_cases p <;> by_cases q <;> simp [*]
def hasR (l : List Rg) (n : Int) : Bool := l.any fun x => decide (x.a ≤ n) && decide (n < x.b)
def coversR (l : List Rg) (r : Rg) : Bool := decide (r.b ≤ r.a) || l.any fun x => decide (x.a ≤ r.a) && decide (r.b ≤ x.b)
theorem hasR_iff {l : List Rg} {n : Int} : hasR l n = true ↔ InR l n := by
  unfold hasR InR
  rw [List.any_eq_true]
  simp
theorem setHas_c {B : Nat} {w0 : World} {G : List Hp} {m : SetM} {b : Nat} {c : Hp} {n : Int} (hO : SetAt m b c) (hs : Sub c G) (hw : m.WF) :
    Go.Sl.Fn Try.prog 24 #[.pointer (some ⟨b, 0, none⟩), .int .u64 n] B w0 G fun u G' => u = .bool (hasR m.l n) ∧ G' = G := by
  refine Fn.pure ?_
  have hO' := hO
  obtain ⟨ao, cap, cl, rfl, hL⟩ := hO
  have hs1 := hs.left
  have hs2 := hs.right
  have h2 := hw.len
  have hh := has_eq hw.good (n := n)
  rw [← hasR_iff] at hh
  refine fn_enter Try.func24 rfl (by kernel_rfl) Try.ntmps24 (by simp) ?_
  refine Go.Sl.cw_seq ?_
  refine Go.Sl.cw_region ?_
  refine Go.Sl.ow_val rfl rfl (Go.Sl.v_assign rfl) ?_
  refine Go.Sl.ow_nil ?_
  refine Go.Sl.xw_then ?_
  refine Go.Sl.cw_seq ?_
  refine Go.Sl.cw_seq ?_
  refine Go.Sl.cw_region ?_
  refine Go.Sl.ow_val rfl rfl (Go.Sl.v_move rfl) ?_
  refine Go.Sl.ow_val rfl rfl (Go.Sl.v_eql_nil_some Try.underlying25 rfl) ?_
  refine Go.Sl.ow_nil ?_
  refine Go.Sl.xw_then ?_
  refine Go.Sl.cw_false rfl ?_
  refine Go.Sl.cw_skip ?_
  refine Go.Sl.xw_then ?_
  refine Go.Sl.cw_seq ?_
  refine Go.Sl.cw_region ?_
  refine Go.Sl.ow_val rfl rfl (Go.Sl.v_move rfl) ?_
  refine Go.Sl.ow_val rfl rfl (Go.Sl.v_move rfl) ?_
  refine Go.Sl.ow_val rfl rfl (Go.Sl.v_call rfl rfl (behind_c hO' hs hw)) ?_
  refine Go.Sl.ow_val rfl rfl (Go.Sl.v_assign rfl) ?_
  refine Go.Sl.ow_nil ?_
  refine Go.Sl.xw_then ?_
  refine Go.Sl.cw_seq ?_
  refine Go.Sl.cw_region ?_
  refine Go.Sl.ow_val rfl rfl (Go.Sl.v_move rfl) ?_
  refine Go.Sl.ow_val rfl rfl (Go.Sl.v_move rfl) ?_
  refine Go.Sl.ow_val rfl rfl (Go.Sl.v_nilCheck rfl) ?_
  refine Go.Sl.ow_val rfl rfl (Go.Sl.v_fieldAddr0 Ty.fd125_1 rfl) ?_
  refine Go.Sl.ow_val rfl rfl (Go.Sl.v_load rfl (Go.Sl.Var.sub1 Ty.sc34 (by repeat (first | assumption | refine Go.Sl.Sub.there ?_)) (.head _) (Go.Sl.GetN.lit rfl))) ?_
  refine Go.Sl.ow_val rfl rfl (Go.Sl.v_len rfl Try.underlying34 rfl) ?_
  refine Go.Sl.ow_val rfl rfl (Go.Sl.v_lss rfl rfl) ?_
  refine Go.Sl.ow_val rfl rfl (Go.Sl.v_move rfl) ?_
  refine Go.Sl.ow_dec 18 rfl (fun hc18 => ?_) (fun hc18 => ?_)
  refine Go.Sl.ow_val rfl rfl (Go.Sl.v_move rfl) ?_
  refine Go.Sl.ow_val rfl rfl (Go.Sl.v_nilCheck rfl) ?_
  refine Go.Sl.ow_val rfl rfl (Go.Sl.v_fieldAddr0 Ty.fd125_1 rfl) ?_
  refine Go.Sl.ow_val rfl rfl (Go.Sl.v_load rfl (Go.Sl.Var.sub1 Ty.sc34 (by repeat (first | assumption | refine Go.Sl.Sub.there ?_)) (.head _) (Go.Sl.GetN.lit rfl))) ?_
  refine Go.Sl.ow_val rfl rfl (Go.Sl.v_move rfl) ?_
  refine Go.Sl.ow_val rfl rfl (Go.Sl.v_indexAddr_ls Try.underlying34 (rTy) rfl rfl (by assumption) rfl (by omega)) ?_
  refine Go.Sl.ow_val rfl rfl (Go.Sl.v_fieldAddr Ty.fd28_0 rfl) ?_
  refine Go.Sl.ow_val rfl rfl (Go.Sl.v_load rfl (Go.Sl.Vw.fld1 (rTy) Ty.sc23 (hL.vw hs2) (by omega) rfl)) ?_
  refine Go.Sl.ow_val rfl rfl (Go.Sl.v_move rfl) ?_
  refine Go.Sl.ow_val rfl rfl (Go.Sl.v_leq rfl rfl) ?_
  refine Go.Sl.ow_val rfl rfl (Go.Sl.v_pick_true rfl rfl) ?_
  refine Go.Sl.ow_val rfl rfl (Go.Sl.v_assign rfl) ?_
  refine Go.Sl.ow_nil ?_
  refine Go.Sl.xw_then ?_
  refine Go.Sl.cw_ret ?_
  refine Go.Sl.ret1 rfl (Go.Sl.res_tmp rfl) ?_
  rotate_left
  refine Go.Sl.ow_skip rfl rfl ?_
  refine Go.Sl.ow_skip rfl rfl ?_
  refine Go.Sl.ow_skip rfl rfl ?_
  refine Go.Sl.ow_skip rfl rfl ?_
  refine Go.Sl.ow_skip rfl rfl ?_
  refine Go.Sl.ow_skip rfl rfl ?_
  refine Go.Sl.ow_skip rfl rfl ?_
  refine Go.Sl.ow_skip rfl rfl ?_
  refine Go.Sl.ow_skip rfl rfl ?_
  refine Go.Sl.ow_skip rfl rfl ?_
  refine Go.Sl.ow_val rfl rfl (Go.Sl.v_pick_false rfl rfl) ?_
  refine Go.Sl.ow_val rfl rfl (Go.Sl.v_assign rfl) ?_
  refine Go.Sl.ow_nil ?_
  refine Go.Sl.xw_then ?_
  refine Go.Sl.cw_ret ?_
  refine Go.Sl.ret1 rfl (Go.Sl.res_tmp rfl) ?_
  rotate_left
  · refine ⟨?_, (by first | exact Go.Sl.Cov.refl _ | (intro p; simp only [List.flatten_cons, List.flatten_nil, List.flatten_append, List.append_nil, List.nil_append, Go.Sl.cnt_append, Go.Sl.cnt_cons, Go.Sl.cnt_nil, List.set_cons_zero, List.set_cons_succ, List.length_nil, List.length_cons, Nat.zero_add, List.append]; omega))⟩
    congr 1
    rw [Bool.eq_iff_iff, decide_eq_true_iff, ← hh]
    exact ⟨fun h => ⟨by omega, h⟩, fun ⟨_, h⟩ => h⟩
  · refine ⟨?_, (by first | exact Go.Sl.Cov.refl _ | (intro p; simp only [List.flatten_cons, List.flatten_nil, List.flatten_append, List.append_nil, List.nil_append, Go.Sl.cnt_append, Go.Sl.cnt_cons, Go.Sl.cnt_nil, List.set_cons_zero, List.set_cons_succ, List.length_nil, List.length_cons, Nat.zero_add, List.append]; omega))⟩
    congr 1
    symm
    rw [Bool.eq_false_iff]
    intro h
    obtain ⟨h1, _⟩ := hh.2 h
    omega
theorem setCovers_c {B : Nat} {w0 : World} {G : List Hp} {m : SetM} {b : Nat} {c : Hp} {r : Rg} (hO : SetAt m b c) (hs : Sub c G) (hw : m.WF) :
    Go.Sl.Fn Try.prog 22 #[.pointer (some ⟨b, 0, none⟩), enR.val r] B w0 G fun u G' => u = .bool (coversR m.l r) ∧ G' = G := by
  refine Fn.pure ?_
  have hO' := hO
  obtain ⟨ao, cap, cl, rfl, hL⟩ := hO
  have hs1 := hs.left
  have hs2 := hs.right
  have h2 := hw.len
  refine fn_enter Try.func22 rfl (by kernel_rfl) Try.ntmps22 (by simp) ?_
  refine Go.Sl.cw_seq ?_
  refine Go.Sl.cw_region ?_
  (refine Go.Sl.ow_box rfl rfl rfl rfl ?_; intro b3)
  refine Go.Sl.ow_val rfl rfl (Go.Sl.v_assign rfl) ?_
  refine Go.Sl.ow_nil ?_
  refine Go.Sl.xw_then ?_
  refine Go.Sl.cw_seq ?_
  refine Go.Sl.cw_seq ?_
  refine Go.Sl.cw_region ?_
  refine Go.Sl.ow_val rfl rfl (Go.Sl.v_move rfl) ?_
  refine Go.Sl.ow_val rfl rfl (Go.Sl.v_eql_nil_some Try.underlying25 rfl) ?_
  refine Go.Sl.ow_nil ?_
  refine Go.Sl.xw_then ?_
  refine Go.Sl.cw_false rfl ?_
  refine Go.Sl.cw_skip ?_
  refine Go.Sl.xw_then ?_
  refine Go.Sl.cw_seq ?_
  refine Go.Sl.cw_seq ?_
  refine Go.Sl.cw_region ?_
  refine Go.Sl.ow_val rfl rfl (Go.Sl.v_load rfl (Go.Sl.Var.atN Ty.ag28 .here Go.Sl.GetN.all (by first | rfl | assumption))) ?_
  refine Go.Sl.ow_val rfl rfl (Go.Sl.v_call rfl rfl (empty_c)) ?_
  refine Go.Sl.ow_nil ?_
  refine Go.Sl.xw_then ?_
  refine Go.Sl.cw_dec rfl (fun hc9 => ?_) (fun hc9 => ?_)
  refine Go.Sl.cw_seq ?_
  refine Go.Sl.cw_region ?_
  refine Go.Sl.ow_val rfl rfl (Go.Sl.v_assign rfl) ?_
  refine Go.Sl.ow_nil ?_
  refine Go.Sl.xw_then ?_
  refine Go.Sl.cw_ret ?_
  refine Go.Sl.xw_then_ret ?_
  refine Go.Sl.ret1 rfl (Go.Sl.res_tmp rfl) ?_
  rotate_left
  refine Go.Sl.cw_skip ?_
  refine Go.Sl.xw_then ?_
  refine Go.Sl.cw_seq ?_
  refine Go.Sl.cw_region ?_
  refine Go.Sl.ow_val rfl rfl (Go.Sl.v_move rfl) ?_
  refine Go.Sl.ow_val rfl rfl (Go.Sl.v_fieldAddr0 Ty.fd28_0 rfl) ?_
  refine Go.Sl.ow_val rfl rfl (Go.Sl.v_load rfl (Go.Sl.Var.at1 Ty.sc23 .here (Go.Sl.GetN.lit rfl))) ?_
  refine Go.Sl.ow_val rfl rfl (Go.Sl.v_call rfl rfl (behind_c hO' hs.there hw)) ?_
  refine Go.Sl.ow_val rfl rfl (Go.Sl.v_assign rfl) ?_
  refine Go.Sl.ow_nil ?_
  refine Go.Sl.xw_then ?_
  refine Go.Sl.cw_seq ?_
  refine Go.Sl.cw_quiet Ty.mixed (by decide +kernel) ?_
  refine Go.Sl.kw_val rfl rfl (Go.Sl.v_move rfl) ?_
  refine Go.Sl.kw_val rfl rfl (Go.Sl.v_move rfl) ?_
  refine Go.Sl.kw_val rfl rfl (Go.Sl.v_nilCheck rfl) ?_
  refine Go.Sl.kw_val rfl rfl (Go.Sl.v_fieldAddr0 Ty.fd125_1 rfl) ?_
  refine Go.Sl.kw_val rfl rfl (Go.Sl.v_load rfl (Go.Sl.Var.sub1 Ty.sc34 (by repeat (first | assumption | refine Go.Sl.Sub.there ?_)) (.head _) (Go.Sl.GetN.lit rfl))) ?_
  refine Go.Sl.kw_val rfl rfl (Go.Sl.v_len rfl Try.underlying34 rfl) ?_
  refine Go.Sl.kw_val rfl rfl (Go.Sl.v_lss rfl rfl) ?_
  refine Go.Sl.kw_val rfl rfl (Go.Sl.v_move rfl) ?_
  refine Go.Sl.kw_dec 21 rfl (fun hc21 => ?_) (fun hc21 => ?_)
  refine Go.Sl.kw_val rfl rfl (Go.Sl.v_move rfl) ?_
  refine Go.Sl.kw_val rfl rfl (Go.Sl.v_nilCheck rfl) ?_
  refine Go.Sl.kw_val rfl rfl (Go.Sl.v_fieldAddr0 Ty.fd125_1 rfl) ?_
  refine Go.Sl.kw_val rfl rfl (Go.Sl.v_load rfl (Go.Sl.Var.sub1 Ty.sc34 (by repeat (first | assumption | refine Go.Sl.Sub.there ?_)) (.head _) (Go.Sl.GetN.lit rfl))) ?_
  refine Go.Sl.kw_val rfl rfl (Go.Sl.v_move rfl) ?_
  refine Go.Sl.kw_val rfl rfl (Go.Sl.v_indexAddr_ls Try.underlying34 (rTy) rfl rfl (by assumption) rfl (by omega)) ?_
  refine Go.Sl.kw_val rfl rfl (Go.Sl.v_fieldAddr Ty.fd28_0 rfl) ?_
  refine Go.Sl.kw_val rfl rfl (Go.Sl.v_load rfl (Go.Sl.Vw.fld1 (rTy) Ty.sc23 ((hL.vw hs2).there) (by omega) rfl)) ?_
  refine Go.Sl.kw_val rfl rfl (Go.Sl.v_fieldAddr0 Ty.fd28_0 rfl) ?_
  refine Go.Sl.kw_val rfl rfl (Go.Sl.v_load rfl (Go.Sl.Var.at1 Ty.sc23 .here (Go.Sl.GetN.lit rfl))) ?_
  refine Go.Sl.kw_val rfl rfl (Go.Sl.v_leq rfl rfl) ?_
  refine Go.Sl.kw_val rfl rfl (Go.Sl.v_pick_true rfl rfl) ?_
  refine Go.Sl.kw_val rfl rfl (Go.Sl.v_move rfl) ?_
  refine Go.Sl.kw_dec 34 rfl (fun hc34 => ?_) (fun hc34 => ?_)
  refine Go.Sl.kw_val rfl rfl (Go.Sl.v_fieldAddr0 Ty.fd28_1 rfl) ?_
  refine Go.Sl.kw_val rfl rfl (Go.Sl.v_load rfl (Go.Sl.Var.at1 Ty.sc23 .here (Go.Sl.GetN.lit rfl))) ?_
  refine Go.Sl.kw_val rfl rfl (Go.Sl.v_move rfl) ?_
  refine Go.Sl.kw_val rfl rfl (Go.Sl.v_nilCheck rfl) ?_
  refine Go.Sl.kw_val rfl rfl (Go.Sl.v_fieldAddr0 Ty.fd125_1 rfl) ?_
  refine Go.Sl.kw_val rfl rfl (Go.Sl.v_load rfl (Go.Sl.Var.sub1 Ty.sc34 (by repeat (first | assumption | refine Go.Sl.Sub.there ?_)) (.head _) (Go.Sl.GetN.lit rfl))) ?_
  refine Go.Sl.kw_val rfl rfl (Go.Sl.v_move rfl) ?_
  refine Go.Sl.kw_val rfl rfl (Go.Sl.v_indexAddr_ls Try.underlying34 (rTy) rfl rfl (by assumption) rfl (by omega)) ?_
  refine Go.Sl.kw_val rfl rfl (Go.Sl.v_fieldAddr Ty.fd28_1 rfl) ?_
  refine Go.Sl.kw_val rfl rfl (Go.Sl.v_load rfl (Go.Sl.Vw.fld1 (rTy) Ty.sc23 ((hL.vw hs2).there) (by omega) rfl)) ?_
  refine Go.Sl.kw_val rfl rfl (Go.Sl.v_leq rfl rfl) ?_
  refine Go.Sl.kw_val rfl rfl (Go.Sl.v_pick_true rfl rfl) ?_
  refine Go.Sl.kw_val rfl rfl (Go.Sl.v_assign rfl) ?_
  refine Go.Sl.kw_nil ?_
  refine Go.Sl.xw_then ?_
  refine Go.Sl.cw_ret ?_
  refine Go.Sl.ret1 rfl (Go.Sl.res_tmp rfl) ?_
  rotate_left
  refine Go.Sl.kw_skip rfl rfl ?_
  refine Go.Sl.kw_skip rfl rfl ?_
  refine Go.Sl.kw_skip rfl rfl ?_
  refine Go.Sl.kw_skip rfl rfl ?_
  refine Go.Sl.kw_skip rfl rfl ?_
  refine Go.Sl.kw_skip rfl rfl ?_
  refine Go.Sl.kw_skip rfl rfl ?_
  refine Go.Sl.kw_skip rfl rfl ?_
  refine Go.Sl.kw_skip rfl rfl ?_
  refine Go.Sl.kw_skip rfl rfl ?_
  refine Go.Sl.kw_skip rfl rfl ?_
  refine Go.Sl.kw_val rfl rfl (Go.Sl.v_pick_false rfl rfl) ?_
  refine Go.Sl.kw_val rfl rfl (Go.Sl.v_assign rfl) ?_
  refine Go.Sl.kw_nil ?_
  refine Go.Sl.xw_then ?_
  refine Go.Sl.cw_ret ?_
  refine Go.Sl.ret1 rfl (Go.Sl.res_tmp rfl) ?_
  rotate_left
  refine Go.Sl.kw_skip rfl rfl ?_
  refine Go.Sl.kw_skip rfl rfl ?_
  refine Go.Sl.kw_skip rfl rfl ?_
  refine Go.Sl.kw_skip rfl rfl ?_
  refine Go.Sl.kw_skip rfl rfl ?_
  refine Go.Sl.kw_skip rfl rfl ?_
  refine Go.Sl.kw_skip rfl rfl ?_
  refine Go.Sl.kw_skip rfl rfl ?_
  refine Go.Sl.kw_skip rfl rfl ?_
  refine Go.Sl.kw_skip rfl rfl ?_
  refine Go.Sl.kw_skip rfl rfl ?_
  refine Go.Sl.kw_val rfl rfl (Go.Sl.v_pick_false rfl rfl) ?_
  refine Go.Sl.kw_val rfl rfl (Go.Sl.v_move rfl) ?_
  refine Go.Sl.kw_skip rfl rfl ?_
  refine Go.Sl.kw_skip rfl rfl ?_
  refine Go.Sl.kw_skip rfl rfl ?_
  refine Go.Sl.kw_skip rfl rfl ?_
  refine Go.Sl.kw_skip rfl rfl ?_
  refine Go.Sl.kw_skip rfl rfl ?_
  refine Go.Sl.kw_skip rfl rfl ?_
  refine Go.Sl.kw_skip rfl rfl ?_
  refine Go.Sl.kw_skip rfl rfl ?_
  refine Go.Sl.kw_skip rfl rfl ?_
  refine Go.Sl.kw_skip rfl rfl ?_
  refine Go.Sl.kw_val rfl rfl (Go.Sl.v_pick_false rfl rfl) ?_
  refine Go.Sl.kw_val rfl rfl (Go.Sl.v_assign rfl) ?_
  refine Go.Sl.kw_nil ?_
  refine Go.Sl.xw_then ?_
  refine Go.Sl.cw_ret ?_
  refine Go.Sl.ret1 rfl (Go.Sl.res_tmp rfl) ?_
  rotate_left
  · exact ⟨by rw [coversR, decide_eq_true hc9]; rfl, (by first | exact Go.Sl.Cov.refl _ | (intro p; simp only [List.flatten_cons, List.flatten_nil, List.flatten_append, List.append_nil, List.nil_append, Go.Sl.cnt_append, Go.Sl.cnt_cons, Go.Sl.cnt_nil, List.set_cons_zero, List.set_cons_succ, List.length_nil, List.length_cons, Nat.zero_add, List.append]; omega))⟩
  all_goals
    have hcv := covers_eq hw.good (r := r) (by omega)
    have hcv2 : coversR m.l r = true ↔ ∃ x ∈ m.l, x.a ≤ r.a ∧ r.b ≤ x.b := by
      rw [coversR, decide_eq_false hc9, Bool.false_or, List.any_eq_true]
      simp
    rw [← hcv2] at hcv
    refine ⟨?_, (by first | exact Go.Sl.Cov.refl _ | (intro p; simp only [List.flatten_cons, List.flatten_nil, List.flatten_append, List.append_nil, List.nil_append, Go.Sl.cnt_append, Go.Sl.cnt_cons, Go.Sl.cnt_nil, List.set_cons_zero, List.set_cons_succ, List.length_nil, List.length_cons, Nat.zero_add, List.append]; omega))⟩
    congr 1
    rw [Bool.eq_iff_iff, ← hcv]
  · rw [decide_eq_true_iff]
    exact ⟨fun h => ⟨by omega, by omega, h⟩, fun ⟨_, _, h⟩ => h⟩
  · exact ⟨(fun h => by cases h), fun ⟨_, h, _⟩ => by omega⟩
  · exact ⟨(fun h => by cases h), fun ⟨h, _⟩ => by omega⟩

def firstR (l : List Rg) (n : Int) : Rg × Bool := if h : cutAt (fun x => decide (n < x.b)) l < l.length then (⟨max l[cutAt (fun x => decide (n < x.b)) l].a n, l[cutAt (fun x => decide (n < x.b)) l].b⟩, true) else (⟨0, 0⟩, false)
theorem setFirst_c {B : Nat} {w0 : World} {G : List Hp} {m : SetM} {b : Nat} {c : Hp} {n : Int} (hO : SetAt m b c) (hs : Sub c G) (hw : m.WF) :
    Go.Sl.Fn Try.prog 33 #[.pointer (some ⟨b, 0, none⟩), .int .u64 n] B w0 G fun u G' => u = .tuple #[enR.val (firstR m.l n).1, .bool (firstR m.l n).2] ∧ G' = G := by
  refine Fn.pure ?_
  have hO' := hO
  obtain ⟨ao, cap, cl, rfl, hL⟩ := hO
  have hs1 := hs.left
  have hs2 := hs.right
  have h2 := hw.len
  have h3 := @cutAt_le (fun x => decide (n < x.b)) m.l
  have hz := len2 _ ok_z
  have hz1 := one2 _ ok_z
  refine fn_enter Try.func33 rfl (by kernel_rfl) Try.ntmps33 (by simp) ?_
  refine Go.Sl.cw_seq ?_
  refine Go.Sl.cw_region ?_
  (refine Go.Sl.ow_alloc rfl rfl Ty.ze28 ?_; intro b4)
  refine Go.Sl.ow_val rfl rfl (Go.Sl.v_assign rfl) ?_
  refine Go.Sl.ow_nil ?_
  refine Go.Sl.xw_then ?_
  refine Go.Sl.cw_seq ?_
  refine Go.Sl.cw_seq ?_
  refine Go.Sl.cw_region ?_
  refine Go.Sl.ow_val rfl rfl (Go.Sl.v_move rfl) ?_
  refine Go.Sl.ow_val rfl rfl (Go.Sl.v_eql_nil_some Try.underlying25 rfl) ?_
  refine Go.Sl.ow_nil ?_
  refine Go.Sl.xw_then ?_
  refine Go.Sl.cw_false rfl ?_
  refine Go.Sl.cw_skip ?_
  refine Go.Sl.xw_then ?_
  refine Go.Sl.cw_seq ?_
  refine Go.Sl.cw_region ?_
  refine Go.Sl.ow_val rfl rfl (Go.Sl.v_move rfl) ?_
  refine Go.Sl.ow_val rfl rfl (Go.Sl.v_move rfl) ?_
  refine Go.Sl.ow_val rfl rfl (Go.Sl.v_call rfl rfl (behind_c hO' hs.there hw)) ?_
  refine Go.Sl.ow_val rfl rfl (Go.Sl.v_assign rfl) ?_
  refine Go.Sl.ow_nil ?_
  refine Go.Sl.xw_then ?_
  refine Go.Sl.cw_seq ?_
  refine Go.Sl.cw_seq ?_
  refine Go.Sl.cw_region ?_
  refine Go.Sl.ow_val rfl rfl (Go.Sl.v_move rfl) ?_
  refine Go.Sl.ow_val rfl rfl (Go.Sl.v_move rfl) ?_
  refine Go.Sl.ow_val rfl rfl (Go.Sl.v_nilCheck rfl) ?_
  refine Go.Sl.ow_val rfl rfl (Go.Sl.v_fieldAddr0 Ty.fd125_1 rfl) ?_
  refine Go.Sl.ow_val rfl rfl (Go.Sl.v_load rfl (Go.Sl.Var.sub1 Ty.sc34 (by repeat (first | assumption | refine Go.Sl.Sub.there ?_)) (.head _) (Go.Sl.GetN.lit rfl))) ?_
  refine Go.Sl.ow_val rfl rfl (Go.Sl.v_len rfl Try.underlying34 rfl) ?_
  refine Go.Sl.ow_val rfl rfl (Go.Sl.v_eql rfl rfl) ?_
  refine Go.Sl.ow_nil ?_
  refine Go.Sl.xw_then ?_
  refine Go.Sl.cw_dec rfl (fun hc20 => ?_) (fun hc20 => ?_)
  refine Go.Sl.cw_seq ?_
  refine Go.Sl.cw_region ?_
  refine Go.Sl.ow_val rfl rfl (Go.Sl.v_build rfl (b_rng0)) ?_
  refine Go.Sl.ow_storeE rfl (rTy) rfl rfl .here (by first | rfl | assumption) (ok_z) ?_
  refine Go.Sl.ow_val rfl rfl (Go.Sl.v_assign rfl) ?_
  refine Go.Sl.ow_nil ?_
  refine Go.Sl.xw_then ?_
  refine Go.Sl.cw_ret ?_
  refine Go.Sl.xw_then_ret ?_
  refine Go.Sl.ret2 rfl (Go.Sl.res_cell rfl (Go.Sl.Var.atN Ty.ag28 .here Go.Sl.GetN.all (by first | rfl | assumption))) (Go.Sl.res_tmp rfl) ?_
  rotate_left
  refine Go.Sl.cw_skip ?_
  refine Go.Sl.xw_then ?_
  refine Go.Sl.cw_seq ?_
  refine Go.Sl.cw_region ?_
  refine Go.Sl.ow_val rfl rfl (Go.Sl.v_move rfl) ?_
  refine Go.Sl.ow_val rfl rfl (Go.Sl.v_nilCheck rfl) ?_
  refine Go.Sl.ow_val rfl rfl (Go.Sl.v_fieldAddr0 Ty.fd125_1 rfl) ?_
  refine Go.Sl.ow_val rfl rfl (Go.Sl.v_load rfl (Go.Sl.Var.sub1 Ty.sc34 (by repeat (first | assumption | refine Go.Sl.Sub.there ?_)) (.head _) (Go.Sl.GetN.lit rfl))) ?_
  refine Go.Sl.ow_val rfl rfl (Go.Sl.v_move rfl) ?_
  refine Go.Sl.ow_val rfl rfl (Go.Sl.v_indexAddr_ls Try.underlying34 (rTy) rfl rfl (by assumption) rfl (by omega)) ?_
  refine Go.Sl.ow_val rfl rfl (Go.Sl.v_load rfl (Go.Sl.Vw.var (rTy) (Go.Sl.Ls.vw (by assumption) (by repeat (first | exact Go.Sl.Sub.here | assumption | refine Go.Sl.Sub.there ?_))) (by omega))) ?_
  (refine Go.Sl.ow_alloc rfl rfl Ty.ze28 ?_; intro b7)
  refine Go.Sl.ow_storeE rfl (rTy) rfl rfl .here (by first | rfl | assumption) (hL.ok _ (List.getElem_mem _)) ?_
  refine Go.Sl.ow_nil ?_
  refine Go.Sl.xw_then ?_
  refine Go.Sl.cw_seq ?_
  refine Go.Sl.cw_region ?_
  refine Go.Sl.ow_val rfl rfl (Go.Sl.v_fieldAddr0 Ty.fd28_0 rfl) ?_
  refine Go.Sl.ow_val rfl rfl (Go.Sl.v_load rfl (Go.Sl.Var.at1 Ty.sc23 .here (Go.Sl.GetN.lit rfl))) ?_
  refine Go.Sl.ow_val rfl rfl (Go.Sl.v_move rfl) ?_
  refine Go.Sl.ow_val rfl rfl (Go.Sl.v_max rfl rfl) ?_
  refine Go.Sl.ow_val rfl rfl (Go.Sl.v_fieldAddr0 Ty.fd28_0 rfl) ?_
  refine Go.Sl.ow_store1 rfl rfl rfl rfl Ty.sc23 .here (Go.Sl.SetN.one (by first | decide | exact Nat.le_of_ble_eq_true rfl)) ?_
  refine Go.Sl.ow_nil ?_
  refine Go.Sl.xw_then ?_
  refine Go.Sl.cw_seq ?_
  refine Go.Sl.cw_region ?_
  refine Go.Sl.ow_val rfl rfl (Go.Sl.v_load rfl (Go.Sl.Var.atN Ty.ag28 .here Go.Sl.GetN.all (by first | rfl | assumption))) ?_
  rotate_left
  · refine ⟨?_, (by first | exact Go.Sl.Cov.refl _ | (intro p; simp only [List.flatten_cons, List.flatten_nil, List.flatten_append, List.append_nil, List.nil_append, Go.Sl.cnt_append, Go.Sl.cnt_cons, Go.Sl.cnt_nil, List.set_cons_zero, List.set_cons_succ, List.length_nil, List.length_cons, Nat.zero_add, List.append]; omega))⟩
    rw [firstR, dif_neg (by omega)]
    rfl
  · simp only [enR_f, List.set_cons_zero]
    have hcc : cutAt (fun x => decide (n < x.b)) m.l < m.l.length := by omega
    have hq1 := one_lit (max (m.l[cutAt (fun x => decide (n < x.b)) m.l]'hcc).a n) (m.l[cutAt (fun x => decide (n < x.b)) m.l]'hcc).b
    refine Go.Sl.ow_storeN rfl rfl rfl Ty.ag28 (by first | rfl | assumption) (by first | assumption | simp) (.there .here) (Go.Sl.SetN.all (by first | rfl | assumption | simp_all)) ?_
    refine Go.Sl.ow_val rfl rfl (Go.Sl.v_assign rfl) ?_
    refine Go.Sl.ow_nil ?_
    refine Go.Sl.xw_then ?_
    refine Go.Sl.cw_ret ?_
    refine Go.Sl.ret2 rfl (Go.Sl.res_cell rfl (Go.Sl.Var.atN Ty.ag28 (.there .here) Go.Sl.GetN.all (by first | rfl | assumption))) (Go.Sl.res_tmp rfl) ?_
    refine ⟨?_, (by first | exact Go.Sl.Cov.refl _ | (intro p; simp only [List.flatten_cons, List.flatten_nil, List.flatten_append, List.append_nil, List.nil_append, Go.Sl.cnt_append, Go.Sl.cnt_cons, Go.Sl.cnt_nil, List.set_cons_zero, List.set_cons_succ, List.length_nil, List.length_cons, Nat.zero_add, List.append]; omega))⟩
    rw [firstR, dif_pos hcc]
    rfl

def lastR (l : List Rg) : Rg × Bool := if l.length = 0 then (⟨0, 0⟩, false) else (l[l.length - 1]!, true)
theorem setLast_c {B : Nat} {w0 : World} {G : List Hp} {m : SetM} {b : Nat} {c : Hp} (hO : SetAt m b c) (hs : Sub c G) (hw : m.WF) :
    Go.Sl.Fn Try.prog 31 #[.pointer (some ⟨b, 0, none⟩)] B w0 G fun u G' => u = .tuple #[enR.val (lastR m.l).1, .bool (lastR m.l).2] ∧ G' = G := by
  refine Fn.pure ?_
  have hO' := hO
  obtain ⟨ao, cap, cl, rfl, hL⟩ := hO
  have hs1 := hs.left
  have hs2 := hs.right
  have h2 := hw.len
  have hz := len2 _ ok_z
  have hz1 := one2 _ ok_z
  refine fn_enter Try.func31 rfl (by kernel_rfl) Try.ntmps31 (by simp) ?_
  refine Go.Sl.cw_seq ?_
  refine Go.Sl.cw_region ?_
  (refine Go.Sl.ow_alloc rfl rfl Ty.ze28 ?_; intro b2)
  refine Go.Sl.ow_val rfl rfl (Go.Sl.v_assign rfl) ?_
  refine Go.Sl.ow_nil ?_
  refine Go.Sl.xw_then ?_
  refine Go.Sl.cw_seq ?_
  refine Go.Sl.cw_seq ?_
  refine Go.Sl.cw_region ?_
  refine Go.Sl.ow_val rfl rfl (Go.Sl.v_move rfl) ?_
  refine Go.Sl.ow_val rfl rfl (Go.Sl.v_call rfl rfl (setLen_c hO' hs.there)) ?_
  refine Go.Sl.ow_val rfl rfl (Go.Sl.v_eql rfl rfl) ?_
  refine Go.Sl.ow_nil ?_
  refine Go.Sl.xw_then ?_
  refine Go.Sl.cw_dec rfl (fun hc6 => ?_) (fun hc6 => ?_)
  refine Go.Sl.cw_seq ?_
  refine Go.Sl.cw_region ?_
  refine Go.Sl.ow_val rfl rfl (Go.Sl.v_build rfl (b_rng0)) ?_
  refine Go.Sl.ow_storeE rfl (rTy) rfl rfl .here (by first | rfl | assumption) (ok_z) ?_
  refine Go.Sl.ow_val rfl rfl (Go.Sl.v_assign rfl) ?_
  refine Go.Sl.ow_nil ?_
  refine Go.Sl.xw_then ?_
  refine Go.Sl.cw_ret ?_
  refine Go.Sl.xw_then_ret ?_
  refine Go.Sl.ret2 rfl (Go.Sl.res_cell rfl (Go.Sl.Var.atN Ty.ag28 .here Go.Sl.GetN.all (by first | rfl | assumption))) (Go.Sl.res_tmp rfl) ?_
  rotate_left
  refine Go.Sl.cw_skip ?_
  refine Go.Sl.xw_then ?_
  refine Go.Sl.cw_seq ?_
  refine Go.Sl.cw_mix [] [12, 13] [0, 1, 2, 3, 4, 5, 6, 7, 8, 9, 10, 11] Ty.mixed rfl rfl rfl rfl (by decide +kernel) ?_
  refine Go.Sl.hw_pure rfl rfl (Go.Sl.v_move rfl) rfl ?_
  refine Go.Sl.hw_pure rfl rfl (Go.Sl.v_nilCheck rfl) rfl ?_
  refine Go.Sl.hw_pure rfl rfl (Go.Sl.v_fieldAddr0 Ty.fd125_1 rfl) rfl ?_
  refine Go.Sl.hw_read rfl rfl rfl (Go.Sl.v_load rfl (Go.Sl.Var.sub1 Ty.sc34 (by repeat (first | assumption | refine Go.Sl.Sub.there ?_)) (.head _) (Go.Sl.GetN.lit rfl))) ?_
  refine Go.Sl.hw_pure rfl rfl (Go.Sl.v_move rfl) rfl ?_
  refine Go.Sl.hw_pure rfl rfl (Go.Sl.v_nilCheck rfl) rfl ?_
  refine Go.Sl.hw_pure rfl rfl (Go.Sl.v_fieldAddr0 Ty.fd125_1 rfl) rfl ?_
  refine Go.Sl.hw_read rfl rfl rfl (Go.Sl.v_load rfl (Go.Sl.Var.sub1 Ty.sc34 (by repeat (first | assumption | refine Go.Sl.Sub.there ?_)) (.head _) (Go.Sl.GetN.lit rfl))) ?_
  refine Go.Sl.hw_pure rfl rfl (Go.Sl.v_len rfl Try.underlying34 rfl) rfl ?_
  refine Go.Sl.hw_pure rfl rfl (Go.Sl.v_sub rfl rfl (Go.Sl.nw_i64 (by omega) (by omega))) rfl ?_
  refine Go.Sl.hw_pure rfl rfl (Go.Sl.v_indexAddr_ls Try.underlying34 (rTy) rfl rfl (by assumption) (Int.toNat_of_nonneg (by omega)).symm (by omega)) rfl ?_
  refine Go.Sl.hw_read rfl rfl rfl (Go.Sl.v_load rfl (Go.Sl.Vw.var (rTy) ((hL.vw hs2.there)) (by omega))) ?_
  refine Go.Sl.hw_nil ?_
  refine Go.Sl.sw_nil ?_
  refine Go.Sl.ow_storeE rfl (rTy) rfl rfl .here (by first | rfl | assumption) (hL.ok _ (List.getElem_mem _)) ?_
  refine Go.Sl.ow_val rfl rfl (Go.Sl.v_assign rfl) ?_
  refine Go.Sl.ow_nil ?_
  refine Go.Sl.xw_np ?_
  refine Go.Sl.xw_then ?_
  refine Go.Sl.cw_ret ?_
  refine Go.Sl.ret2 rfl (Go.Sl.res_cell rfl (Go.Sl.Var.atN Ty.ag28 .here Go.Sl.GetN.all (by first | rfl | assumption))) (Go.Sl.res_tmp rfl) ?_
  rotate_left
  · refine ⟨?_, (by first | exact Go.Sl.Cov.refl _ | (intro p; simp only [List.flatten_cons, List.flatten_nil, List.flatten_append, List.append_nil, List.nil_append, Go.Sl.cnt_append, Go.Sl.cnt_cons, Go.Sl.cnt_nil, List.set_cons_zero, List.set_cons_succ, List.length_nil, List.length_cons, Nat.zero_add, List.append]; omega))⟩
    rw [lastR, if_pos (by omega)]
    rfl
  · refine ⟨?_, (by first | exact Go.Sl.Cov.refl _ | (intro p; simp only [List.flatten_cons, List.flatten_nil, List.flatten_append, List.append_nil, List.nil_append, Go.Sl.cnt_append, Go.Sl.cnt_cons, Go.Sl.cnt_nil, List.set_cons_zero, List.set_cons_succ, List.length_nil, List.length_cons, Nat.zero_add, List.append]; omega))⟩
    have he : ((m.l.length : Int) - 1).toNat = m.l.length - 1 := by omega
    have hl : m.l.length - 1 < m.l.length := by omega
    simp only [he]
    rw [lastR, if_neg (by omega), getElem!_pos m.l _ hl]
    rfl

theorem cntR_succ {l : List Rg} {j : Nat} (h : j < l.length) : cntR (l.take (j + 1)) = cntR (l.take j) + (l[j].b - l[j].a) := by
  rw [List.take_succ_eq_append_getElem h, cntR_append, cntR_cons]
  have : cntR [] = 0 := rfl
  omega
theorem setCount_c {B : Nat} {w0 : World} {G : List Hp} {m : SetM} {b : Nat} {c : Hp} (hO : SetAt m b c) (hs : Sub c G) (hw : m.WF) :
    Go.Sl.Fn Try.prog 23 #[.pointer (some ⟨b, 0, none⟩)] B w0 G fun u G' => u = .int .u64 (cntR m.l) ∧ G' = G := by
  refine Fn.pure ?_
  have hO' := hO
  obtain ⟨ao, cap, cl, rfl, hL⟩ := hO
  have hs1 := hs.left
  have hs2 := hs.right
  have h2 := hw.len
  refine fn_enter Try.func23 rfl (by kernel_rfl) Try.ntmps23 (by simp) ?_
  refine Go.Sl.cw_seq ?_
  refine Go.Sl.cw_region ?_
  refine Go.Sl.ow_val rfl rfl (Go.Sl.v_assign rfl) ?_
  refine Go.Sl.ow_nil ?_
  refine Go.Sl.xw_then ?_
  refine Go.Sl.cw_seq ?_
  refine Go.Sl.cw_seq ?_
  refine Go.Sl.cw_region ?_
  refine Go.Sl.ow_val rfl rfl (Go.Sl.v_move rfl) ?_
  refine Go.Sl.ow_val rfl rfl (Go.Sl.v_eql_nil_some Try.underlying25 rfl) ?_
  refine Go.Sl.ow_nil ?_
  refine Go.Sl.xw_then ?_
  refine Go.Sl.cw_false rfl ?_
  refine Go.Sl.cw_skip ?_
  refine Go.Sl.xw_then ?_
  refine Go.Sl.cw_seq ?_
  refine Go.Sl.cw_region ?_
  refine Go.Sl.ow_val rfl rfl (Go.Sl.v_assign rfl) ?_
  refine Go.Sl.ow_nil ?_
  refine Go.Sl.xw_then ?_
  refine Go.Sl.cw_seq ?_
  refine Go.Sl.cw_seq ?_
  refine Go.Sl.cw_region ?_
  refine Go.Sl.ow_val rfl rfl (Go.Sl.v_move rfl) ?_
  refine Go.Sl.ow_val rfl rfl (Go.Sl.v_nilCheck rfl) ?_
  refine Go.Sl.ow_val rfl rfl (Go.Sl.v_fieldAddr0 Ty.fd125_1 rfl) ?_
  refine Go.Sl.ow_val rfl rfl (Go.Sl.v_load rfl (Go.Sl.Var.sub1 Ty.sc34 (by repeat (first | assumption | refine Go.Sl.Sub.there ?_)) (.head _) (Go.Sl.GetN.lit rfl))) ?_
  refine Go.Sl.ow_val rfl rfl (Go.Sl.v_len rfl Try.underlying34 rfl) ?_
  refine Go.Sl.ow_val rfl rfl (Go.Sl.v_move rfl) ?_
  refine Go.Sl.ow_nil ?_
  refine Go.Sl.xw_then ?_
  refine Go.Sl.cw_block ?_
  refine Go.Sl.cw_loop2 (ι := (Nat)) [(2, _), (11, _), (12, _)] ⟨rfl, rfl, rfl, trivial⟩ ((fun j => [(3, .int .u64 (cntR (m.l.take j))), (13, .int .i64 j)])) ((fun j => j ≤ m.l.length)) ((fun j => m.l.length - j)) ((fun _ => G)) (0) (by repeat (first | exact True.intro | refine And.intro rfl ?_)) (by first | exact Go.Sl.Cov.refl _ | (intro p; simp only [List.flatten_cons, List.flatten_nil, List.flatten_append, List.append_nil, List.nil_append, Go.Sl.cnt_append, Go.Sl.cnt_cons, Go.Sl.cnt_nil, List.set_cons_zero, List.set_cons_succ, List.length_nil, List.length_cons, Nat.zero_add, List.append]; omega)) ?_ ?_
  · exact Nat.zero_le _
  rintro j hj
  refine Go.Sl.cw_seq ?_
  refine Go.Sl.cw_region ?_
  refine Go.Sl.ow_val rfl rfl (Go.Sl.v_lss rfl rfl) ?_
  refine Go.Sl.ow_nil ?_
  refine Go.Sl.xw_then ?_
  refine Go.Sl.cw_seq ?_
  refine Go.Sl.cw_dec rfl (fun hc14 => ?_) (fun hc14 => ?_)
  refine Go.Sl.cw_skip ?_
  refine Go.Sl.xw_then ?_
  refine Go.Sl.cw_seq ?_
  refine Go.Sl.cw_block ?_
  refine Go.Sl.cw_seq ?_
  refine Go.Sl.cw_region ?_
  rotate_left
  refine Go.Sl.cw_exit ?_
  refine Go.Sl.xw_then_exit ?_
  refine Go.Sl.xw_round_exit ?_
  refine Go.Sl.xw_block_exit ?_
  refine Go.Sl.xw_then ?_
  refine Go.Sl.cw_seq ?_
  refine Go.Sl.cw_region ?_
  refine Go.Sl.ow_val rfl rfl (Go.Sl.v_move rfl) ?_
  refine Go.Sl.ow_val rfl rfl (Go.Sl.v_assign rfl) ?_
  refine Go.Sl.ow_nil ?_
  refine Go.Sl.xw_then ?_
  refine Go.Sl.cw_ret ?_
  refine Go.Sl.ret1 rfl (Go.Sl.res_tmp rfl) ?_
  rotate_left
  · have hj2 : j < m.l.length := by omega
    have hokj := hL.ok _ (List.getElem_mem hj2)
    have hgj := hw.good.1 _ (List.getElem_mem hj2)
    have hcs := cntR_succ hj2
    have hg1 : Good (m.l.take (j + 1)) := by
      have h := hw.good
      rw [← List.take_append_drop (j + 1) m.l] at h
      exact (Good.append.1 h).1
    have hg0 : Good (m.l.take j) := by
      have h := hw.good
      rw [← List.take_append_drop j m.l] at h
      exact (Good.append.1 h).1
    have hm1 := cntR_max hg1
    have hm0 := cntR_max hg0
    obtain ⟨hg2, hg3, hg4⟩ := hgj
    refine Go.Sl.ow_val rfl rfl (Go.Sl.v_indexAddr_ls Try.underlying34 (rTy) rfl rfl (by assumption) rfl (by omega)) ?_
    refine Go.Sl.ow_val rfl rfl (Go.Sl.v_load rfl (Go.Sl.Vw.var (rTy) ((hL.vw hs2)) (by omega))) ?_
    (refine Go.Sl.ow_alloc rfl rfl Ty.ze28 ?_; intro b5)
    refine Go.Sl.ow_storeE rfl (rTy) rfl rfl .here (by first | rfl | assumption) (by assumption) ?_
    refine Go.Sl.ow_nil ?_
    refine Go.Sl.xw_then ?_
    refine Go.Sl.cw_region ?_
    refine Go.Sl.ow_val rfl rfl (Go.Sl.v_move rfl) ?_
    refine Go.Sl.ow_val rfl rfl (Go.Sl.v_fieldAddr0 Ty.fd28_1 rfl) ?_
    refine Go.Sl.ow_val rfl rfl (Go.Sl.v_load rfl (Go.Sl.Var.at1 Ty.sc23 .here (Go.Sl.GetN.lit rfl))) ?_
    refine Go.Sl.ow_val rfl rfl (Go.Sl.v_fieldAddr0 Ty.fd28_0 rfl) ?_
    refine Go.Sl.ow_val rfl rfl (Go.Sl.v_load rfl (Go.Sl.Var.at1 Ty.sc23 .here (Go.Sl.GetN.lit rfl))) ?_
    refine Go.Sl.ow_val rfl rfl (Go.Sl.v_sub rfl rfl (Go.Sl.nw_u64 (by omega) (by omega))) ?_
    refine Go.Sl.ow_val rfl rfl (Go.Sl.v_add rfl rfl (Go.Sl.nw_u64 (by omega) (by omega))) ?_
    refine Go.Sl.ow_val rfl rfl (Go.Sl.v_assign rfl) ?_
    refine Go.Sl.ow_nil ?_
    refine Go.Sl.xw_block ?_
    refine Go.Sl.xw_then ?_
    refine Go.Sl.cw_region ?_
    refine Go.Sl.ow_val rfl rfl (Go.Sl.v_add rfl rfl (Go.Sl.nw_i64 (by omega) (by omega))) ?_
    refine Go.Sl.ow_val rfl rfl (Go.Sl.v_move rfl) ?_
    refine Go.Sl.ow_nil ?_
    exact xw_round (j + 1) (by omega) (by omega) (by first | exact Go.Sl.Cov.refl _ | (intro p; simp only [List.flatten_cons, List.flatten_nil, List.flatten_append, List.append_nil, List.nil_append, Go.Sl.cnt_append, Go.Sl.cnt_cons, Go.Sl.cnt_nil, List.set_cons_zero, List.set_cons_succ, List.length_nil, List.length_cons, Nat.zero_add, List.append]; omega)) ⟨by rw [hcs]; rfl, (by repeat (first | exact True.intro | refine And.intro rfl ?_))⟩
  · refine ⟨?_, (by first | exact Go.Sl.Cov.refl _ | (intro p; simp only [List.flatten_cons, List.flatten_nil, List.flatten_append, List.append_nil, List.nil_append, Go.Sl.cnt_append, Go.Sl.cnt_cons, Go.Sl.cnt_nil, List.set_cons_zero, List.set_cons_succ, List.length_nil, List.length_cons, Nat.zero_add, List.append]; omega))⟩
    rw [List.take_of_length_le (by omega)]
end Go.Proofs.Ytbpnnkkbaakdjaa
