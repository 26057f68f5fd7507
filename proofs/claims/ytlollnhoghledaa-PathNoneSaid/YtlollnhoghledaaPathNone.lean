/- PathNone: whatever the input it returns true, and the input reads as it did. Conditions: none. -/
import Derived.Test.YtlollnhoghledaaPathLaw
import Derived.Test.YtlollnhoghledaaArgs
namespace Go.Proofs.Ytlollnhoghledaa.lawPathNone
open Go Go.Sl Go.Proofs Go.RowKit Go.ChangeShapes Go.WideShapes Go.ChangeAt Go.Proofs.Ytlollnhoghledaa
set_option linter.unusedVariables false
set_option linter.unusedSimpArgs false

theorem came_nil {B : Nat} {w0 : World} {s : Int} : FnC Try.prog 9 #[.pointer none, .int .i64 s] B w0 [] (R0 (.tuple #[])) := fun F => by
  have hz := by8_one zero8
  refine fn_enter Try.func9 rfl (by kernel_rfl) Try.ntmps9 (by simp) ?_
  refine Go.Sl.cw_seq ?_
  refine Go.Sl.cw_region ?_
  refine Go.Sl.ow_val rfl rfl (Go.Sl.v_move rfl) ?_
  refine Go.Sl.ow_val rfl rfl (Go.Sl.v_neq_nil_none Try.underlying24 rfl) ?_
  refine Go.Sl.ow_nil ?_
  refine Go.Sl.xw_then ?_
  refine Go.Sl.cw_false rfl ?_
  refine Go.Sl.cw_skip ?_
  refine Go.Sl.ret0n rfl ?_
  all_goals exact done0 rfl (by repeat (first | exact List.Sublist.refl _ | refine List.Sublist.cons_cons _ ?_ | refine List.Sublist.cons _ ?_))

theorem sent_nil {B : Nat} {w0 : World} {s : Int} : FnC Try.prog 11 #[.pointer none, .int .i64 s] B w0 [] (R0 (.tuple #[])) := fun F => by
  have hz := by8_one zero8
  refine fn_enter Try.func11 rfl (by kernel_rfl) Try.ntmps11 (by simp) ?_
  refine Go.Sl.cw_seq ?_
  refine Go.Sl.cw_region ?_
  refine Go.Sl.ow_val rfl rfl (Go.Sl.v_move rfl) ?_
  refine Go.Sl.ow_val rfl rfl (Go.Sl.v_neq_nil_none Try.underlying24 rfl) ?_
  refine Go.Sl.ow_nil ?_
  refine Go.Sl.xw_then ?_
  refine Go.Sl.cw_false rfl ?_
  refine Go.Sl.cw_skip ?_
  refine Go.Sl.ret0n rfl ?_
  all_goals exact done0 rfl (by repeat (first | exact List.Sublist.refl _ | refine List.Sublist.cons_cons _ ?_ | refine List.Sublist.cons _ ?_))

theorem room_nil {B : Nat} {w0 : World} : FnC Try.prog 10 #[.pointer none] B w0 [] (R0 (.int .u64 0)) := fun F => by
  have hz := by8_one zero8
  refine fn_enter Try.func10 rfl (by kernel_rfl) Try.ntmps10 (by simp) ?_
  refine Go.Sl.cw_seq ?_
  refine Go.Sl.cw_region ?_
  refine Go.Sl.ow_val rfl rfl (Go.Sl.v_assign rfl) ?_
  refine Go.Sl.ow_nil ?_
  refine Go.Sl.xw_then ?_
  refine Go.Sl.cw_seq ?_
  refine Go.Sl.cw_seq ?_
  refine Go.Sl.cw_region ?_
  refine Go.Sl.ow_val rfl rfl (Go.Sl.v_move rfl) ?_
  refine Go.Sl.ow_val rfl rfl (Go.Sl.v_eql_nil_none Try.underlying24 rfl) ?_
  refine Go.Sl.ow_nil ?_
  refine Go.Sl.xw_then ?_
  refine Go.Sl.cw_true rfl ?_
  refine Go.Sl.cw_seq ?_
  refine Go.Sl.cw_region ?_
  refine Go.Sl.ow_val rfl rfl (Go.Sl.v_assign rfl) ?_
  refine Go.Sl.ow_nil ?_
  refine Go.Sl.xw_then ?_
  refine Go.Sl.cw_ret ?_
  refine Go.Sl.xw_then_ret ?_
  refine Go.Sl.ret1 rfl (Go.Sl.res_tmp rfl) ?_
  all_goals exact done0 rfl (by repeat (first | exact List.Sublist.refl _ | refine List.Sublist.cons_cons _ ?_ | refine List.Sublist.cons _ ?_))

theorem know_nil {B : Nat} {w0 : World} : FnC Try.prog 12 #[.pointer none] B w0 [] (R0 (.tuple #[])) := fun F => by
  have hz := by8_one zero8
  refine fn_enter Try.func12 rfl (by kernel_rfl) Try.ntmps12 (by simp) ?_
  refine Go.Sl.cw_seq ?_
  refine Go.Sl.cw_region ?_
  refine Go.Sl.ow_val rfl rfl (Go.Sl.v_move rfl) ?_
  refine Go.Sl.ow_val rfl rfl (Go.Sl.v_neq_nil_none Try.underlying24 rfl) ?_
  refine Go.Sl.ow_nil ?_
  refine Go.Sl.xw_then ?_
  refine Go.Sl.cw_false rfl ?_
  refine Go.Sl.cw_skip ?_
  refine Go.Sl.ret0n rfl ?_
  all_goals exact done0 rfl (by repeat (first | exact List.Sublist.refl _ | refine List.Sublist.cons_cons _ ?_ | refine List.Sublist.cons _ ?_))

theorem ask_nil {B : Nat} {w0 : World} {word : List Int} {t : Int} : FnC Try.prog 13 #[.pointer none, .agg (by8 word).toArray, .int .u64 t] B w0 [] (R0 (.tuple #[])) := fun F => by
  have hz := by8_one zero8
  refine fn_enter Try.func13 rfl (by kernel_rfl) Try.ntmps13 (by simp) ?_
  refine Go.Sl.cw_seq ?_
  refine Go.Sl.cw_region ?_
  (refine Go.Sl.ow_box rfl rfl rfl rfl ?_; intro b4)
  refine Go.Sl.ow_nil ?_
  refine Go.Sl.xw_then ?_
  refine Go.Sl.cw_seq ?_
  refine Go.Sl.cw_seq ?_
  refine Go.Sl.cw_region ?_
  refine Go.Sl.ow_val rfl rfl (Go.Sl.v_move rfl) ?_
  refine Go.Sl.ow_val rfl rfl (Go.Sl.v_eql_nil_none Try.underlying24 rfl) ?_
  refine Go.Sl.ow_val rfl rfl (Go.Sl.v_move rfl) ?_
  refine Go.Sl.ow_skip rfl rfl ?_
  refine Go.Sl.ow_skip rfl rfl ?_
  refine Go.Sl.ow_skip rfl rfl ?_
  refine Go.Sl.ow_skip rfl rfl ?_
  refine Go.Sl.ow_skip rfl rfl ?_
  refine Go.Sl.ow_val rfl rfl (Go.Sl.v_pick_true rfl rfl) ?_
  refine Go.Sl.ow_nil ?_
  refine Go.Sl.xw_then ?_
  refine Go.Sl.cw_true rfl ?_
  refine Go.Sl.cw_ret ?_
  refine Go.Sl.xw_then_ret ?_
  refine Go.Sl.ret0 rfl ?_
  all_goals exact done0 rfl (by repeat (first | exact List.Sublist.refl _ | refine List.Sublist.cons_cons _ ?_ | refine List.Sublist.cons _ ?_))

theorem asks_nil {B : Nat} {w0 : World} : FnC Try.prog 14 #[.pointer none] B w0 [] (R0 (.tuple #[.agg (by8 zero8).toArray, .bool false])) := fun F => by
  have hz := by8_one zero8
  refine fn_enter Try.func14 rfl (by kernel_rfl) Try.ntmps14 (by simp) ?_
  refine Go.Sl.cw_seq ?_
  refine Go.Sl.cw_region ?_
  (refine Go.Sl.ow_alloc rfl rfl Ty.ze33 ?_; intro b2)
  refine Go.Sl.ow_val rfl rfl (Go.Sl.v_assign rfl) ?_
  refine Go.Sl.ow_nil ?_
  refine Go.Sl.xw_then ?_
  refine Go.Sl.cw_seq ?_
  refine Go.Sl.cw_seq ?_
  refine Go.Sl.cw_region ?_
  refine Go.Sl.ow_val rfl rfl (Go.Sl.v_move rfl) ?_
  refine Go.Sl.ow_val rfl rfl (Go.Sl.v_eql_nil_none Try.underlying24 rfl) ?_
  refine Go.Sl.ow_val rfl rfl (Go.Sl.v_move rfl) ?_
  refine Go.Sl.ow_skip rfl rfl ?_
  refine Go.Sl.ow_skip rfl rfl ?_
  refine Go.Sl.ow_skip rfl rfl ?_
  refine Go.Sl.ow_skip rfl rfl ?_
  refine Go.Sl.ow_skip rfl rfl ?_
  refine Go.Sl.ow_val rfl rfl (Go.Sl.v_pick_true rfl rfl) ?_
  refine Go.Sl.ow_val rfl rfl (Go.Sl.v_move rfl) ?_
  refine Go.Sl.ow_skip rfl rfl ?_
  refine Go.Sl.ow_skip rfl rfl ?_
  refine Go.Sl.ow_skip rfl rfl ?_
  refine Go.Sl.ow_skip rfl rfl ?_
  refine Go.Sl.ow_skip rfl rfl ?_
  refine Go.Sl.ow_val rfl rfl (Go.Sl.v_pick_true rfl rfl) ?_
  refine Go.Sl.ow_nil ?_
  refine Go.Sl.xw_then ?_
  refine Go.Sl.cw_true rfl ?_
  refine Go.Sl.cw_seq ?_
  refine Go.Sl.cw_region ?_
  refine Go.Sl.ow_val rfl rfl (Go.Sl.v_build rfl (b0)) ?_
  refine Go.Sl.ow_storeN rfl rfl rfl Ty.ag33 (by first | rfl | assumption) (by first | assumption | simp) .here (Go.Sl.SetN.all (by first | rfl | assumption | simp_all)) ?_
  refine Go.Sl.ow_val rfl rfl (Go.Sl.v_assign rfl) ?_
  refine Go.Sl.ow_nil ?_
  refine Go.Sl.xw_then ?_
  refine Go.Sl.cw_ret ?_
  refine Go.Sl.xw_then_ret ?_
  refine Go.Sl.ret2 rfl (Go.Sl.res_cell rfl (Go.Sl.Var.atN Ty.ag33 .here Go.Sl.GetN.all (by first | rfl | assumption))) (Go.Sl.res_tmp rfl) ?_
  all_goals exact done0 rfl (by repeat (first | exact List.Sublist.refl _ | refine List.Sublist.cons_cons _ ?_ | refine List.Sublist.cons _ ?_))

theorem told_nil {B : Nat} {w0 : World} : FnC Try.prog 15 #[.pointer none] B w0 [] (R0 (.tuple #[])) := fun F => by
  have hz := by8_one zero8
  refine fn_enter Try.func15 rfl (by kernel_rfl) Try.ntmps15 (by simp) ?_
  refine Go.Sl.cw_seq ?_
  refine Go.Sl.cw_region ?_
  refine Go.Sl.ow_val rfl rfl (Go.Sl.v_move rfl) ?_
  refine Go.Sl.ow_val rfl rfl (Go.Sl.v_neq_nil_none Try.underlying24 rfl) ?_
  refine Go.Sl.ow_nil ?_
  refine Go.Sl.xw_then ?_
  refine Go.Sl.cw_false rfl ?_
  refine Go.Sl.cw_skip ?_
  refine Go.Sl.ret0n rfl ?_
  all_goals exact done0 rfl (by repeat (first | exact List.Sublist.refl _ | refine List.Sublist.cons_cons _ ?_ | refine List.Sublist.cons _ ?_))

theorem challenged_nil {B : Nat} {w0 : World} {word : List Int} : FnC Try.prog 16 #[.pointer none, .agg (by8 word).toArray] B w0 [] (R0 (.tuple #[])) := fun F => by
  have hz := by8_one zero8
  refine fn_enter Try.func16 rfl (by kernel_rfl) Try.ntmps16 (by simp) ?_
  refine Go.Sl.cw_seq ?_
  refine Go.Sl.cw_region ?_
  (refine Go.Sl.ow_box rfl rfl rfl rfl ?_; intro b3)
  refine Go.Sl.ow_nil ?_
  refine Go.Sl.xw_then ?_
  refine Go.Sl.cw_seq ?_
  refine Go.Sl.cw_region ?_
  refine Go.Sl.ow_val rfl rfl (Go.Sl.v_move rfl) ?_
  refine Go.Sl.ow_val rfl rfl (Go.Sl.v_neq_nil_none Try.underlying24 rfl) ?_
  refine Go.Sl.ow_val rfl rfl (Go.Sl.v_move rfl) ?_
  refine Go.Sl.ow_skip rfl rfl ?_
  refine Go.Sl.ow_skip rfl rfl ?_
  refine Go.Sl.ow_skip rfl rfl ?_
  refine Go.Sl.ow_skip rfl rfl ?_
  refine Go.Sl.ow_skip rfl rfl ?_
  refine Go.Sl.ow_val rfl rfl (Go.Sl.v_pick_false rfl rfl) ?_
  refine Go.Sl.ow_nil ?_
  refine Go.Sl.xw_then ?_
  refine Go.Sl.cw_false rfl ?_
  refine Go.Sl.cw_skip ?_
  refine Go.Sl.ret0n rfl ?_
  all_goals exact done0 rfl (by repeat (first | exact List.Sublist.refl _ | refine List.Sublist.cons_cons _ ?_ | refine List.Sublist.cons _ ?_))

theorem answer_nil {B : Nat} {w0 : World} : FnC Try.prog 17 #[.pointer none] B w0 [] (R0 (.tuple #[.agg (by8 zero8).toArray, .bool false])) := fun F => by
  have hz := by8_one zero8
  refine fn_enter Try.func17 rfl (by kernel_rfl) Try.ntmps17 (by simp) ?_
  refine Go.Sl.cw_seq ?_
  refine Go.Sl.cw_region ?_
  (refine Go.Sl.ow_alloc rfl rfl Ty.ze33 ?_; intro b2)
  refine Go.Sl.ow_val rfl rfl (Go.Sl.v_assign rfl) ?_
  refine Go.Sl.ow_nil ?_
  refine Go.Sl.xw_then ?_
  refine Go.Sl.cw_seq ?_
  refine Go.Sl.cw_seq ?_
  refine Go.Sl.cw_region ?_
  refine Go.Sl.ow_val rfl rfl (Go.Sl.v_move rfl) ?_
  refine Go.Sl.ow_val rfl rfl (Go.Sl.v_eql_nil_none Try.underlying24 rfl) ?_
  refine Go.Sl.ow_val rfl rfl (Go.Sl.v_move rfl) ?_
  refine Go.Sl.ow_skip rfl rfl ?_
  refine Go.Sl.ow_skip rfl rfl ?_
  refine Go.Sl.ow_skip rfl rfl ?_
  refine Go.Sl.ow_skip rfl rfl ?_
  refine Go.Sl.ow_skip rfl rfl ?_
  refine Go.Sl.ow_val rfl rfl (Go.Sl.v_pick_true rfl rfl) ?_
  refine Go.Sl.ow_nil ?_
  refine Go.Sl.xw_then ?_
  refine Go.Sl.cw_true rfl ?_
  refine Go.Sl.cw_seq ?_
  refine Go.Sl.cw_region ?_
  refine Go.Sl.ow_val rfl rfl (Go.Sl.v_build rfl (b0)) ?_
  refine Go.Sl.ow_storeN rfl rfl rfl Ty.ag33 (by first | rfl | assumption) (by first | assumption | simp) .here (Go.Sl.SetN.all (by first | rfl | assumption | simp_all)) ?_
  refine Go.Sl.ow_val rfl rfl (Go.Sl.v_assign rfl) ?_
  refine Go.Sl.ow_nil ?_
  refine Go.Sl.xw_then ?_
  refine Go.Sl.cw_ret ?_
  refine Go.Sl.xw_then_ret ?_
  refine Go.Sl.ret2 rfl (Go.Sl.res_cell rfl (Go.Sl.Var.atN Ty.ag33 .here Go.Sl.GetN.all (by first | rfl | assumption))) (Go.Sl.res_tmp rfl) ?_
  all_goals exact done0 rfl (by repeat (first | exact List.Sublist.refl _ | refine List.Sublist.cons_cons _ ?_ | refine List.Sublist.cons _ ?_))

theorem answered_nil {B : Nat} {w0 : World} : FnC Try.prog 18 #[.pointer none] B w0 [] (R0 (.tuple #[])) := fun F => by
  have hz := by8_one zero8
  refine fn_enter Try.func18 rfl (by kernel_rfl) Try.ntmps18 (by simp) ?_
  refine Go.Sl.cw_seq ?_
  refine Go.Sl.cw_seq ?_
  refine Go.Sl.cw_region ?_
  refine Go.Sl.ow_val rfl rfl (Go.Sl.v_move rfl) ?_
  refine Go.Sl.ow_val rfl rfl (Go.Sl.v_eql_nil_none Try.underlying24 rfl) ?_
  refine Go.Sl.ow_val rfl rfl (Go.Sl.v_move rfl) ?_
  refine Go.Sl.ow_skip rfl rfl ?_
  refine Go.Sl.ow_skip rfl rfl ?_
  refine Go.Sl.ow_skip rfl rfl ?_
  refine Go.Sl.ow_skip rfl rfl ?_
  refine Go.Sl.ow_skip rfl rfl ?_
  refine Go.Sl.ow_val rfl rfl (Go.Sl.v_pick_true rfl rfl) ?_
  refine Go.Sl.ow_nil ?_
  refine Go.Sl.xw_then ?_
  refine Go.Sl.cw_true rfl ?_
  refine Go.Sl.cw_ret ?_
  refine Go.Sl.xw_then_ret ?_
  refine Go.Sl.ret0 rfl ?_
  all_goals exact done0 rfl (by repeat (first | exact List.Sublist.refl _ | refine List.Sublist.cons_cons _ ?_ | refine List.Sublist.cons _ ?_))

theorem response_nil {B : Nat} {w0 : World} {word : List Int} : FnC Try.prog 19 #[.pointer none, .agg (by8 word).toArray] B w0 [] (R0 (.bool false)) := fun F => by
  have hz := by8_one zero8
  refine fn_enter Try.func19 rfl (by kernel_rfl) Try.ntmps19 (by simp) ?_
  refine Go.Sl.cw_seq ?_
  refine Go.Sl.cw_region ?_
  (refine Go.Sl.ow_box rfl rfl rfl rfl ?_; intro b3)
  refine Go.Sl.ow_val rfl rfl (Go.Sl.v_assign rfl) ?_
  refine Go.Sl.ow_nil ?_
  refine Go.Sl.xw_then ?_
  refine Go.Sl.cw_seq ?_
  refine Go.Sl.cw_seq ?_
  refine Go.Sl.cw_quiet Ty.mixed (by decide +kernel) ?_
  refine Go.Sl.kw_val rfl rfl (Go.Sl.v_move rfl) ?_
  refine Go.Sl.kw_val rfl rfl (Go.Sl.v_eql_nil_none Try.underlying24 rfl) ?_
  refine Go.Sl.kw_val rfl rfl (Go.Sl.v_move rfl) ?_
  refine Go.Sl.kw_skip rfl rfl ?_
  refine Go.Sl.kw_skip rfl rfl ?_
  refine Go.Sl.kw_skip rfl rfl ?_
  refine Go.Sl.kw_skip rfl rfl ?_
  refine Go.Sl.kw_skip rfl rfl ?_
  refine Go.Sl.kw_val rfl rfl (Go.Sl.v_pick_true rfl rfl) ?_
  refine Go.Sl.kw_val rfl rfl (Go.Sl.v_move rfl) ?_
  refine Go.Sl.kw_skip rfl rfl ?_
  refine Go.Sl.kw_skip rfl rfl ?_
  refine Go.Sl.kw_skip rfl rfl ?_
  refine Go.Sl.kw_skip rfl rfl ?_
  refine Go.Sl.kw_skip rfl rfl ?_
  refine Go.Sl.kw_skip rfl rfl ?_
  refine Go.Sl.kw_val rfl rfl (Go.Sl.v_pick_true rfl rfl) ?_
  refine Go.Sl.kw_nil ?_
  refine Go.Sl.xw_then ?_
  refine Go.Sl.cw_true rfl ?_
  refine Go.Sl.cw_seq ?_
  refine Go.Sl.cw_region ?_
  refine Go.Sl.ow_val rfl rfl (Go.Sl.v_assign rfl) ?_
  refine Go.Sl.ow_nil ?_
  refine Go.Sl.xw_then ?_
  refine Go.Sl.cw_ret ?_
  refine Go.Sl.xw_then_ret ?_
  refine Go.Sl.ret1 rfl (Go.Sl.res_tmp rfl) ?_
  all_goals exact done0 rfl (by repeat (first | exact List.Sublist.refl _ | refine List.Sublist.cons_cons _ ?_ | refine List.Sublist.cons _ ?_))

theorem lost_nil {B : Nat} {w0 : World} {word : List Int} : FnC Try.prog 20 #[.pointer none, .agg (by8 word).toArray] B w0 [] (R0 (.tuple #[])) := fun F => by
  have hz := by8_one zero8
  refine fn_enter Try.func20 rfl (by kernel_rfl) Try.ntmps20 (by simp) ?_
  refine Go.Sl.cw_seq ?_
  refine Go.Sl.cw_region ?_
  (refine Go.Sl.ow_box rfl rfl rfl rfl ?_; intro b3)
  refine Go.Sl.ow_nil ?_
  refine Go.Sl.xw_then ?_
  refine Go.Sl.cw_seq ?_
  refine Go.Sl.cw_quiet Ty.mixed (by decide +kernel) ?_
  refine Go.Sl.kw_val rfl rfl (Go.Sl.v_move rfl) ?_
  refine Go.Sl.kw_val rfl rfl (Go.Sl.v_neq_nil_none Try.underlying24 rfl) ?_
  refine Go.Sl.kw_val rfl rfl (Go.Sl.v_move rfl) ?_
  refine Go.Sl.kw_skip rfl rfl ?_
  refine Go.Sl.kw_skip rfl rfl ?_
  refine Go.Sl.kw_skip rfl rfl ?_
  refine Go.Sl.kw_skip rfl rfl ?_
  refine Go.Sl.kw_skip rfl rfl ?_
  refine Go.Sl.kw_val rfl rfl (Go.Sl.v_pick_false rfl rfl) ?_
  refine Go.Sl.kw_val rfl rfl (Go.Sl.v_move rfl) ?_
  refine Go.Sl.kw_skip rfl rfl ?_
  refine Go.Sl.kw_skip rfl rfl ?_
  refine Go.Sl.kw_skip rfl rfl ?_
  refine Go.Sl.kw_skip rfl rfl ?_
  refine Go.Sl.kw_skip rfl rfl ?_
  refine Go.Sl.kw_skip rfl rfl ?_
  refine Go.Sl.kw_val rfl rfl (Go.Sl.v_pick_false rfl rfl) ?_
  refine Go.Sl.kw_nil ?_
  refine Go.Sl.xw_then ?_
  refine Go.Sl.cw_false rfl ?_
  refine Go.Sl.cw_skip ?_
  refine Go.Sl.ret0n rfl ?_
  all_goals exact done0 rfl (by repeat (first | exact List.Sublist.refl _ | refine List.Sublist.cons_cons _ ?_ | refine List.Sublist.cons _ ?_))

theorem tick_nil {B : Nat} {w0 : World} {t : Int} : FnC Try.prog 21 #[.pointer none, .int .u64 t] B w0 [] (R0 (.bool false)) := fun F => by
  have hz := by8_one zero8
  refine fn_enter Try.func21 rfl (by kernel_rfl) Try.ntmps21 (by simp) ?_
  refine Go.Sl.cw_seq ?_
  refine Go.Sl.cw_region ?_
  refine Go.Sl.ow_val rfl rfl (Go.Sl.v_assign rfl) ?_
  refine Go.Sl.ow_nil ?_
  refine Go.Sl.xw_then ?_
  refine Go.Sl.cw_seq ?_
  refine Go.Sl.cw_seq ?_
  refine Go.Sl.cw_region ?_
  refine Go.Sl.ow_val rfl rfl (Go.Sl.v_move rfl) ?_
  refine Go.Sl.ow_val rfl rfl (Go.Sl.v_eql_nil_none Try.underlying24 rfl) ?_
  refine Go.Sl.ow_val rfl rfl (Go.Sl.v_move rfl) ?_
  refine Go.Sl.ow_skip rfl rfl ?_
  refine Go.Sl.ow_skip rfl rfl ?_
  refine Go.Sl.ow_skip rfl rfl ?_
  refine Go.Sl.ow_skip rfl rfl ?_
  refine Go.Sl.ow_skip rfl rfl ?_
  refine Go.Sl.ow_val rfl rfl (Go.Sl.v_pick_true rfl rfl) ?_
  refine Go.Sl.ow_val rfl rfl (Go.Sl.v_move rfl) ?_
  refine Go.Sl.ow_skip rfl rfl ?_
  refine Go.Sl.ow_skip rfl rfl ?_
  refine Go.Sl.ow_skip rfl rfl ?_
  refine Go.Sl.ow_skip rfl rfl ?_
  refine Go.Sl.ow_skip rfl rfl ?_
  refine Go.Sl.ow_skip rfl rfl ?_
  refine Go.Sl.ow_val rfl rfl (Go.Sl.v_pick_true rfl rfl) ?_
  refine Go.Sl.ow_nil ?_
  refine Go.Sl.xw_then ?_
  refine Go.Sl.cw_true rfl ?_
  refine Go.Sl.cw_seq ?_
  refine Go.Sl.cw_region ?_
  refine Go.Sl.ow_val rfl rfl (Go.Sl.v_assign rfl) ?_
  refine Go.Sl.ow_nil ?_
  refine Go.Sl.xw_then ?_
  refine Go.Sl.cw_ret ?_
  refine Go.Sl.xw_then_ret ?_
  refine Go.Sl.ret1 rfl (Go.Sl.res_tmp rfl) ?_
  all_goals exact done0 rfl (by repeat (first | exact List.Sublist.refl _ | refine List.Sublist.cons_cons _ ?_ | refine List.Sublist.cons _ ?_))

theorem law {B : Nat} {w0 : World} {n now : Int} {word : List Int} (hw : word.length = 8) :
    FnC Try.prog 6 #[.int .i64 n, .int .u64 now, .agg (by8 word).toArray] B w0 [] (R0 (.bool true)) := fun F => by
  have hw2 : (by8 word).length = 8 := by simp [hw]
  have hz := by8_one zero8
  refine fn_enter Try.func6 rfl (by kernel_rfl) Try.ntmps6 (by simp) ?_
  refine Go.Sl.cw_seq ?_
  refine Go.Sl.cw_region ?_
  (refine Go.Sl.ow_box rfl rfl rfl rfl ?_; intro b5)
  refine Go.Sl.ow_val rfl rfl (Go.Sl.v_assign rfl) ?_
  refine Go.Sl.ow_nil ?_
  refine Go.Sl.xw_then ?_
  refine Go.Sl.cw_seq ?_
  refine Go.Sl.cw_seq ?_
  refine Go.Sl.cw_region ?_
  refine Go.Sl.ow_val rfl rfl (Go.Sl.v_call rfl rfl (Go.Sl.Fn.c0r (awake_c))) ?_
  refine Go.Sl.ow_val rfl rfl (Go.Sl.v_not_true rfl) ?_
  refine Go.Sl.ow_nil ?_
  refine Go.Sl.xw_then ?_
  refine Go.Sl.cw_false rfl ?_
  refine Go.Sl.cw_skip ?_
  refine Go.Sl.xw_then ?_
  refine Go.Sl.cw_seq ?_
  refine Go.Sl.cw_region ?_
  refine Go.Sl.ow_val rfl rfl (Go.Sl.v_assign rfl) ?_
  refine Go.Sl.ow_nil ?_
  refine Go.Sl.xw_then ?_
  refine Go.Sl.cw_seq ?_
  refine Go.Sl.cw_region ?_
  refine Go.Sl.ow_val rfl rfl (Go.Sl.v_move rfl) ?_
  refine Go.Sl.ow_val rfl rfl (Go.Sl.v_move rfl) ?_
  refine Go.Sl.ow_val rfl rfl (Go.Sl.v_call rfl rfl (Go.Sl.Fn.c0r (came_nil))) ?_
  refine Go.Sl.ow_nil ?_
  refine Go.Sl.xw_then ?_
  refine Go.Sl.cw_seq ?_
  refine Go.Sl.cw_region ?_
  refine Go.Sl.ow_val rfl rfl (Go.Sl.v_move rfl) ?_
  refine Go.Sl.ow_val rfl rfl (Go.Sl.v_move rfl) ?_
  refine Go.Sl.ow_val rfl rfl (Go.Sl.v_call rfl rfl (Go.Sl.Fn.c0r (sent_nil))) ?_
  refine Go.Sl.ow_nil ?_
  refine Go.Sl.xw_then ?_
  refine Go.Sl.cw_seq ?_
  refine Go.Sl.cw_region ?_
  refine Go.Sl.ow_val rfl rfl (Go.Sl.v_move rfl) ?_
  refine Go.Sl.ow_val rfl rfl (Go.Sl.v_load rfl (Go.Sl.Var.atN Ty.ag33 .here Go.Sl.GetN.all (by first | rfl | assumption))) ?_
  refine Go.Sl.ow_val rfl rfl (Go.Sl.v_move rfl) ?_
  refine Go.Sl.ow_val rfl rfl (Go.Sl.v_call rfl rfl (Go.Sl.Fn.c0r (ask_nil))) ?_
  refine Go.Sl.ow_nil ?_
  refine Go.Sl.xw_then ?_
  refine Go.Sl.cw_seq ?_
  refine Go.Sl.cw_region ?_
  refine Go.Sl.ow_val rfl rfl (Go.Sl.v_move rfl) ?_
  refine Go.Sl.ow_val rfl rfl (Go.Sl.v_call rfl rfl (Go.Sl.Fn.c0r (told_nil))) ?_
  refine Go.Sl.ow_nil ?_
  refine Go.Sl.xw_then ?_
  refine Go.Sl.cw_seq ?_
  refine Go.Sl.cw_region ?_
  refine Go.Sl.ow_val rfl rfl (Go.Sl.v_move rfl) ?_
  refine Go.Sl.ow_val rfl rfl (Go.Sl.v_load rfl (Go.Sl.Var.atN Ty.ag33 .here Go.Sl.GetN.all (by first | rfl | assumption))) ?_
  refine Go.Sl.ow_val rfl rfl (Go.Sl.v_call rfl rfl (Go.Sl.Fn.c0r (lost_nil))) ?_
  refine Go.Sl.ow_nil ?_
  refine Go.Sl.xw_then ?_
  refine Go.Sl.cw_seq ?_
  refine Go.Sl.cw_region ?_
  refine Go.Sl.ow_val rfl rfl (Go.Sl.v_move rfl) ?_
  refine Go.Sl.ow_val rfl rfl (Go.Sl.v_load rfl (Go.Sl.Var.atN Ty.ag33 .here Go.Sl.GetN.all (by first | rfl | assumption))) ?_
  refine Go.Sl.ow_val rfl rfl (Go.Sl.v_call rfl rfl (Go.Sl.Fn.c0r (challenged_nil))) ?_
  refine Go.Sl.ow_nil ?_
  refine Go.Sl.xw_then ?_
  refine Go.Sl.cw_seq ?_
  refine Go.Sl.cw_region ?_
  refine Go.Sl.ow_val rfl rfl (Go.Sl.v_move rfl) ?_
  refine Go.Sl.ow_val rfl rfl (Go.Sl.v_call rfl rfl (Go.Sl.Fn.c0r (answered_nil))) ?_
  refine Go.Sl.ow_nil ?_
  refine Go.Sl.xw_then ?_
  refine Go.Sl.cw_seq ?_
  refine Go.Sl.cw_region ?_
  refine Go.Sl.ow_val rfl rfl (Go.Sl.v_move rfl) ?_
  refine Go.Sl.ow_val rfl rfl (Go.Sl.v_call rfl rfl (Go.Sl.Fn.c0r (know_nil))) ?_
  refine Go.Sl.ow_nil ?_
  refine Go.Sl.xw_then ?_
  refine Go.Sl.cw_seq ?_
  refine Go.Sl.cw_region ?_
  refine Go.Sl.ow_val rfl rfl (Go.Sl.v_move rfl) ?_
  refine Go.Sl.ow_val rfl rfl (Go.Sl.v_call rfl rfl (Go.Sl.Fn.c0r (asks_nil))) ?_
  refine Go.Sl.ow_val rfl rfl (Go.Sl.v_move rfl) ?_
  refine Go.Sl.ow_val rfl rfl (Go.Sl.v_extract rfl rfl) ?_
  refine Go.Sl.ow_val rfl rfl (Go.Sl.v_extract rfl rfl) ?_
  (refine Go.Sl.ow_alloc rfl rfl Ty.ze33 ?_; intro b8)
  refine Go.Sl.ow_storeN rfl rfl rfl Ty.ag33 (by first | rfl | assumption) (by first | assumption | simp) .here (Go.Sl.SetN.all (by first | rfl | assumption | simp_all)) ?_
  refine Go.Sl.ow_val rfl rfl (Go.Sl.v_assign rfl) ?_
  refine Go.Sl.ow_nil ?_
  refine Go.Sl.xw_then ?_
  refine Go.Sl.cw_seq ?_
  refine Go.Sl.cw_region ?_
  refine Go.Sl.ow_val rfl rfl (Go.Sl.v_move rfl) ?_
  refine Go.Sl.ow_val rfl rfl (Go.Sl.v_call rfl rfl (Go.Sl.Fn.c0r (answer_nil))) ?_
  refine Go.Sl.ow_val rfl rfl (Go.Sl.v_move rfl) ?_
  refine Go.Sl.ow_val rfl rfl (Go.Sl.v_extract rfl rfl) ?_
  refine Go.Sl.ow_val rfl rfl (Go.Sl.v_extract rfl rfl) ?_
  (refine Go.Sl.ow_alloc rfl rfl Ty.ze33 ?_; intro b10)
  refine Go.Sl.ow_storeN rfl rfl rfl Ty.ag33 (by first | rfl | assumption) (by first | assumption | simp) .here (Go.Sl.SetN.all (by first | rfl | assumption | simp_all)) ?_
  refine Go.Sl.ow_val rfl rfl (Go.Sl.v_assign rfl) ?_
  refine Go.Sl.ow_nil ?_
  refine Go.Sl.xw_then ?_
  refine Go.Sl.cw_seq ?_
  refine Go.Sl.cw_region ?_
  refine Go.Sl.ow_val rfl rfl (Go.Sl.v_move rfl) ?_
  refine Go.Sl.ow_val rfl rfl (Go.Sl.v_call rfl rfl (Go.Sl.Fn.c0r (room_nil))) ?_
  refine Go.Sl.ow_val rfl rfl (Go.Sl.v_eql rfl rfl) ?_
  refine Go.Sl.ow_val rfl rfl (Go.Sl.v_move rfl) ?_
  refine Go.Sl.ow_dec 49 rfl (fun hc49 => ?_) (fun hc49 => ?_)
  rotate_left; (exfalso; omega); rotate_right
  refine Go.Sl.ow_val rfl rfl (Go.Sl.v_move rfl) ?_
  refine Go.Sl.ow_val rfl rfl (Go.Sl.v_not_false rfl) ?_
  refine Go.Sl.ow_val rfl rfl (Go.Sl.v_pick_true rfl rfl) ?_
  refine Go.Sl.ow_val rfl rfl (Go.Sl.v_move rfl) ?_
  refine Go.Sl.ow_val rfl rfl (Go.Sl.v_move rfl) ?_
  refine Go.Sl.ow_val rfl rfl (Go.Sl.v_not_false rfl) ?_
  refine Go.Sl.ow_val rfl rfl (Go.Sl.v_pick_true rfl rfl) ?_
  refine Go.Sl.ow_val rfl rfl (Go.Sl.v_move rfl) ?_
  refine Go.Sl.ow_val rfl rfl (Go.Sl.v_move rfl) ?_
  refine Go.Sl.ow_val rfl rfl (Go.Sl.v_load rfl (Go.Sl.Var.atN Ty.ag33 (.there (.there .here)) Go.Sl.GetN.all (by first | rfl | assumption))) ?_
  refine Go.Sl.ow_val rfl rfl (Go.Sl.v_call rfl rfl (Go.Sl.Fn.c0r (response_nil))) ?_
  refine Go.Sl.ow_val rfl rfl (Go.Sl.v_not_false rfl) ?_
  refine Go.Sl.ow_val rfl rfl (Go.Sl.v_pick_true rfl rfl) ?_
  refine Go.Sl.ow_val rfl rfl (Go.Sl.v_move rfl) ?_
  refine Go.Sl.ow_val rfl rfl (Go.Sl.v_move rfl) ?_
  refine Go.Sl.ow_val rfl rfl (Go.Sl.v_move rfl) ?_
  refine Go.Sl.ow_val rfl rfl (Go.Sl.v_call rfl rfl (Go.Sl.Fn.c0r (tick_nil))) ?_
  refine Go.Sl.ow_val rfl rfl (Go.Sl.v_not_false rfl) ?_
  refine Go.Sl.ow_val rfl rfl (Go.Sl.v_pick_true rfl rfl) ?_
  refine Go.Sl.ow_val rfl rfl (Go.Sl.v_assign rfl) ?_
  refine Go.Sl.ow_nil ?_
  refine Go.Sl.xw_then ?_
  refine Go.Sl.cw_ret ?_
  refine Go.Sl.ret1 rfl (Go.Sl.res_tmp rfl) ?_
  all_goals exact done0 rfl (by repeat (first | exact List.Sublist.refl _ | refine List.Sublist.cons_cons _ ?_ | refine List.Sublist.cons _ ?_))

theorem walk {H : Type} {enc : TypeId × Value → H} (W : World) (base : Nat) (args : Array Value) (ds : List (DataW H)) (p : List MemPlace)
    (hval : ∀ (j : Nat) t v, Try.f6.params[j]? = some t → args[j]? = some v → Value.okWide Try.prog W .any base t v)
    (hA : DataW.TrodAll enc Try.prog W 0 (fun _ => true) true Try.f6.params.toList args.toList ds p) :
    Calls Try.prog 6 args W fun e w' => e = .returned (.bool true) ∧ Below W.heap.size W w' := by
  rw [Try.params6] at hA hval
  obtain ⟨v0, vs0, d0, ds0, p0, q0, hargs, rfl, rfl, h0, r0⟩ := trodAll_cons hA
  obtain ⟨v1, vs1, d1, ds1, p1, q1, rfl, rfl, rfl, h1, r1⟩ := trodAll_cons r0
  obtain ⟨v2, vs2, d2, ds2, p2, q2, rfl, rfl, rfl, h2, r2⟩ := trodAll_cons r1
  obtain ⟨rfl, rfl, rfl⟩ := trodAll_nil r2
  obtain rfl : args = #[v0, v1, v2] := by cases args; simp_all
  obtain ⟨n, rfl, rfl, rfl, _⟩ := open_int Try.underlying3 (hval 0 3 v0 rfl rfl) h0
  obtain ⟨now, rfl, rfl, rfl, _⟩ := open_int Try.underlying26 (hval 1 26 v1 rfl rfl) h1
  obtain ⟨word, rfl, hw, _⟩ := open_ints8 (hval 2 33 v2 rfl rfl) h2
  exact (law hw []).call

theorem own : ownKnob Try.prog.godebug = none := by kernel_rfl
theorem laidOut : laidOutB Try.prog = true := by kernel_rfl
theorem reads : ∀ t ∈ Try.f6.params.toList, Try.prog.readableRec t = true ∧ t < Try.prog.types.size := by
  rw [Try.params6]
  intro t ht
  simp only [List.mem_cons, List.not_mem_nil, or_false] at ht
  rcases ht with rfl | rfl | rfl
  · exact ⟨by kernel_rfl, of_decide_eq_true (by kernel_rfl)⟩
  · exact ⟨by kernel_rfl, of_decide_eq_true (by kernel_rfl)⟩
  · exact ⟨by kernel_rfl, of_decide_eq_true (by kernel_rfl)⟩

set_option maxRecDepth 100000 in
theorem lifted (os : Os) (started : os.Started) (H : Type) (enc : TypeId × Value → H) :
    ReturnsInHanded {} Try.checked os 6 .any (Rows.pathNoneSpec.pre6 enc Try.prog Try.f6 Rows.pathNoneRow.domain false) (Rows.pathNoneSpec.post enc Try.prog Try.f6 false true false false) := by
  refine returnsInHanded_of_change (C := Try.checked) own started (by kernel_rfl) Try.func6
    (ChangeSpec.witness6 (enc := enc) (C := Try.checked) false ⟨#[], #[.int .i64 0, .int .u64 0, .agg #[.int .u8 0, .int .u8 0, .int .u8 0, .int .u8 0, .int .u8 0, .int .u8 0, .int .u8 0, .int .u8 0]], []⟩ 8 (by kernel_rfl) (by kernel_rfl) (by kernel_rfl) (by kernel_rfl)) ?_
  intro W base args ds gs before hval hW _ _
  have hW' := hW
  obtain ⟨p, q, hA0, hV, rfl, _, _⟩ := hW
  obtain ⟨rfl, rfl⟩ := trodVars_none hV
  have hA : DataW.TrodAll enc Try.prog W 0 (fun _ => true) true Try.f6.params.toList args.toList ds p := hA0
  have hlen := trodAll_len hA
  refine (walk W base args ds p hval hA).mono fun e W' ⟨he, bel⟩ => ?_
  subst he
  rw [Try.params6] at hlen
  match ds, hlen.2, hA, hW' with
  | [d0, d1, d2], _, hA, hW' => exact ⟨_, rfl, _, _, _, [], _, [], hW', trodAll_mk1 (shut_bool Try.underlying4 _), trodAll_stays laidOut bel reads hA, rfl, bel.frame _, fun h => by cases h⟩

theorem over : Rows.pathNoneRow.holds Try.pinned (OpenSpec.ofChange Rows.pathNoneSpec) :=
  OpenClaim.holds_of_wide 6 Try.f6 rfl rfl rfl rfl rfl rfl rfl ⟨rfl, rfl, rfl, rfl, rfl⟩ rfl rfl rfl rfl rfl (by kernel_rfl) Try.func6 (by kernel_rfl)
    (of_decide_eq_true (by kernel_rfl)) (by unfold Func.isWrapper; first | (rw [if_pos (by decide +kernel)]; kernel_rfl) | (rw [if_neg (by decide +kernel)]; exact ⟨rfl, rfl⟩))
    (fun os started H enc _ => lifted os started H enc)

theorem proved : Rows.PathNoneSaid := over

end Go.Proofs.Ytlollnhoghledaa.lawPathNone
