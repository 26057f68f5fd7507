/- Package vint: lengths, marks, and a reader. Conditions: none. -/
import Derived.Test.YtckdhelnafjddaaSpanLaw
import Derived.Test.YtckdhelnafjddaaBytes
namespace Go.Proofs.Ytckdhelnafjddaa
open Go Go.Sl Go.Proofs Go.RowKit Go.ChangeShapes Go.WideShapes Go.ChangeAt
set_option maxRecDepth 20000
set_option linter.unusedVariables false
set_option linter.unusedSimpArgs false

theorem vbTy : EncTy Try.prog 5 enB := enB_ty Ty.sc5
/-- how many bytes a number takes -/
def vlen (n : Int) : Nat := if n < 64 then 1 else if n < 16384 then 2 else if n < 1073741824 then 4 else if n < 4611686018427387904 then 8 else 0
theorem vintLen_c {B : Nat} {w0 : World} {G : List Hp} {n : Int} :
    Go.Sl.Fn Try.prog 92 #[.int .u64 n] B w0 G fun u G' => u = .int .i64 (vlen n : Nat) ∧ G' = G := by
  refine Fn.pure ?_
  refine fn_enter Try.func92 rfl (by kernel_rfl) Try.ntmps92 (by simp) ?_
  unfold vlen
  refine Go.Sl.cw_seq ?_
  refine Go.Sl.cw_region ?_
  refine Go.Sl.ow_val rfl rfl (Go.Sl.v_assign rfl) ?_
  refine Go.Sl.ow_nil ?_
  refine Go.Sl.xw_then ?_
  refine Go.Sl.cw_seq ?_
  refine Go.Sl.cw_block ?_
  refine Go.Sl.cw_seq ?_
  refine Go.Sl.cw_region ?_
  refine Go.Sl.ow_val rfl rfl (Go.Sl.v_move rfl) ?_
  refine Go.Sl.ow_val rfl rfl (Go.Sl.v_lss rfl rfl) ?_
  refine Go.Sl.ow_val rfl rfl (Go.Sl.v_assign rfl) ?_
  refine Go.Sl.ow_nil ?_
  refine Go.Sl.xw_then ?_
  refine Go.Sl.cw_dec rfl (fun hc3 => ?_) (fun hc3 => ?_)
  refine Go.Sl.cw_seq ?_
  refine Go.Sl.cw_region ?_
  refine Go.Sl.ow_val rfl rfl (Go.Sl.v_assign rfl) ?_
  refine Go.Sl.ow_nil ?_
  refine Go.Sl.xw_then ?_
  refine Go.Sl.cw_ret ?_
  refine Go.Sl.xw_block_ret ?_
  refine Go.Sl.xw_then_ret ?_
  refine Go.Sl.ret1 rfl (Go.Sl.res_tmp rfl) ?_
  rotate_left
  refine Go.Sl.cw_seq ?_
  refine Go.Sl.cw_region ?_
  refine Go.Sl.ow_val rfl rfl (Go.Sl.v_move rfl) ?_
  refine Go.Sl.ow_val rfl rfl (Go.Sl.v_lss rfl rfl) ?_
  refine Go.Sl.ow_val rfl rfl (Go.Sl.v_assign rfl) ?_
  refine Go.Sl.ow_nil ?_
  refine Go.Sl.xw_then ?_
  refine Go.Sl.cw_dec rfl (fun hc6 => ?_) (fun hc6 => ?_)
  refine Go.Sl.cw_seq ?_
  refine Go.Sl.cw_region ?_
  refine Go.Sl.ow_val rfl rfl (Go.Sl.v_assign rfl) ?_
  refine Go.Sl.ow_nil ?_
  refine Go.Sl.xw_then ?_
  refine Go.Sl.cw_ret ?_
  refine Go.Sl.xw_block_ret ?_
  refine Go.Sl.xw_then_ret ?_
  refine Go.Sl.ret1 rfl (Go.Sl.res_tmp rfl) ?_
  rotate_left
  refine Go.Sl.cw_seq ?_
  refine Go.Sl.cw_region ?_
  refine Go.Sl.ow_val rfl rfl (Go.Sl.v_move rfl) ?_
  refine Go.Sl.ow_val rfl rfl (Go.Sl.v_lss rfl rfl) ?_
  refine Go.Sl.ow_val rfl rfl (Go.Sl.v_assign rfl) ?_
  refine Go.Sl.ow_nil ?_
  refine Go.Sl.xw_then ?_
  refine Go.Sl.cw_dec rfl (fun hc9 => ?_) (fun hc9 => ?_)
  refine Go.Sl.cw_seq ?_
  refine Go.Sl.cw_region ?_
  refine Go.Sl.ow_val rfl rfl (Go.Sl.v_assign rfl) ?_
  refine Go.Sl.ow_nil ?_
  refine Go.Sl.xw_then ?_
  refine Go.Sl.cw_ret ?_
  refine Go.Sl.xw_block_ret ?_
  refine Go.Sl.xw_then_ret ?_
  refine Go.Sl.ret1 rfl (Go.Sl.res_tmp rfl) ?_
  rotate_left
  refine Go.Sl.cw_seq ?_
  refine Go.Sl.cw_region ?_
  refine Go.Sl.ow_val rfl rfl (Go.Sl.v_move rfl) ?_
  refine Go.Sl.ow_val rfl rfl (Go.Sl.v_lss rfl rfl) ?_
  refine Go.Sl.ow_val rfl rfl (Go.Sl.v_assign rfl) ?_
  refine Go.Sl.ow_nil ?_
  refine Go.Sl.xw_then ?_
  refine Go.Sl.cw_dec rfl (fun hc12 => ?_) (fun hc12 => ?_)
  refine Go.Sl.cw_seq ?_
  refine Go.Sl.cw_region ?_
  refine Go.Sl.ow_val rfl rfl (Go.Sl.v_assign rfl) ?_
  refine Go.Sl.ow_nil ?_
  refine Go.Sl.xw_then ?_
  refine Go.Sl.cw_ret ?_
  refine Go.Sl.xw_block_ret ?_
  refine Go.Sl.xw_then_ret ?_
  refine Go.Sl.ret1 rfl (Go.Sl.res_tmp rfl) ?_
  rotate_left
  refine Go.Sl.cw_skip ?_
  refine Go.Sl.xw_block ?_
  refine Go.Sl.xw_then ?_
  refine Go.Sl.cw_seq ?_
  refine Go.Sl.cw_region ?_
  refine Go.Sl.ow_val rfl rfl (Go.Sl.v_assign rfl) ?_
  refine Go.Sl.ow_nil ?_
  refine Go.Sl.xw_then ?_
  refine Go.Sl.cw_ret ?_
  refine Go.Sl.ret1 rfl (Go.Sl.res_tmp rfl) ?_
  rotate_left
  · exact ⟨by rw [if_pos hc3]; rfl, (by first | exact Go.Sl.Cov.refl _ | (intro p; simp only [List.flatten_cons, List.flatten_nil, List.flatten_append, List.append_nil, List.nil_append, Go.Sl.cnt_append, Go.Sl.cnt_cons, Go.Sl.cnt_nil, List.set_cons_zero, List.set_cons_succ, List.length_nil, List.length_cons, Nat.zero_add, List.append]; omega))⟩
  · exact ⟨by rw [if_neg hc3, if_pos hc6]; rfl, (by first | exact Go.Sl.Cov.refl _ | (intro p; simp only [List.flatten_cons, List.flatten_nil, List.flatten_append, List.append_nil, List.nil_append, Go.Sl.cnt_append, Go.Sl.cnt_cons, Go.Sl.cnt_nil, List.set_cons_zero, List.set_cons_succ, List.length_nil, List.length_cons, Nat.zero_add, List.append]; omega))⟩
  · exact ⟨by rw [if_neg hc3, if_neg hc6, if_pos hc9]; rfl, (by first | exact Go.Sl.Cov.refl _ | (intro p; simp only [List.flatten_cons, List.flatten_nil, List.flatten_append, List.append_nil, List.nil_append, Go.Sl.cnt_append, Go.Sl.cnt_cons, Go.Sl.cnt_nil, List.set_cons_zero, List.set_cons_succ, List.length_nil, List.length_cons, Nat.zero_add, List.append]; omega))⟩
  · exact ⟨by rw [if_neg hc3, if_neg hc6, if_neg hc9, if_pos hc12]; rfl, (by first | exact Go.Sl.Cov.refl _ | (intro p; simp only [List.flatten_cons, List.flatten_nil, List.flatten_append, List.append_nil, List.nil_append, Go.Sl.cnt_append, Go.Sl.cnt_cons, Go.Sl.cnt_nil, List.set_cons_zero, List.set_cons_succ, List.length_nil, List.length_cons, Nat.zero_add, List.append]; omega))⟩
  · exact ⟨by rw [if_neg hc3, if_neg hc6, if_neg hc9, if_neg hc12]; rfl, (by first | exact Go.Sl.Cov.refl _ | (intro p; simp only [List.flatten_cons, List.flatten_nil, List.flatten_append, List.append_nil, List.nil_append, Go.Sl.cnt_append, Go.Sl.cnt_cons, Go.Sl.cnt_nil, List.set_cons_zero, List.set_cons_succ, List.length_nil, List.length_cons, Nat.zero_add, List.append]; omega))⟩
/-- the two upper bits of the first byte -/
def vmark (k : Int) : Int := if k = 2 then 64 else if k = 4 then 128 else if k = 8 then 192 else 0
theorem vintMark_c {B : Nat} {w0 : World} {G : List Hp} {k : Int} (h : k = 1 ∨ k = 2 ∨ k = 4 ∨ k = 8) :
    Go.Sl.Fn Try.prog 141 #[.int .i64 k] B w0 G fun u G' => u = .tuple #[.int .u8 (vmark k), .bool true] ∧ G' = G := by
  refine Fn.pure ?_
  rcases h with rfl | rfl | rfl | rfl
  all_goals skip
  · refine fn_enter Try.func141 rfl (by kernel_rfl) Try.ntmps141 (by simp) ?_
    refine Go.Sl.cw_seq ?_
    refine Go.Sl.cw_region ?_
    refine Go.Sl.ow_val rfl rfl (Go.Sl.v_assign rfl) ?_
    refine Go.Sl.ow_val rfl rfl (Go.Sl.v_assign rfl) ?_
    refine Go.Sl.ow_nil ?_
    refine Go.Sl.xw_then ?_
    refine Go.Sl.cw_seq ?_
    refine Go.Sl.cw_seq ?_
    refine Go.Sl.cw_region ?_
    refine Go.Sl.ow_val rfl rfl (Go.Sl.v_move rfl) ?_
    refine Go.Sl.ow_nil ?_
    refine Go.Sl.xw_then ?_
    refine Go.Sl.cw_block ?_
    refine Go.Sl.cw_seq ?_
    refine Go.Sl.cw_region ?_
    refine Go.Sl.ow_val rfl rfl (Go.Sl.v_eql rfl rfl) ?_
    refine Go.Sl.ow_val rfl rfl (Go.Sl.v_assign rfl) ?_
    refine Go.Sl.ow_nil ?_
    refine Go.Sl.xw_then ?_
    refine Go.Sl.cw_true rfl ?_
    refine Go.Sl.cw_seq ?_
    refine Go.Sl.cw_region ?_
    refine Go.Sl.ow_val rfl rfl (Go.Sl.v_assign rfl) ?_
    refine Go.Sl.ow_val rfl rfl (Go.Sl.v_assign rfl) ?_
    refine Go.Sl.ow_nil ?_
    refine Go.Sl.xw_then ?_
    refine Go.Sl.cw_ret ?_
    refine Go.Sl.xw_block_ret ?_
    refine Go.Sl.xw_then_ret ?_
    refine Go.Sl.ret2 rfl (Go.Sl.res_tmp rfl) (Go.Sl.res_tmp rfl) ?_
    exact ⟨rfl, (by first | exact Go.Sl.Cov.refl _ | (intro p; simp only [List.flatten_cons, List.flatten_nil, List.flatten_append, List.append_nil, List.nil_append, Go.Sl.cnt_append, Go.Sl.cnt_cons, Go.Sl.cnt_nil, List.set_cons_zero, List.set_cons_succ, List.length_nil, List.length_cons, Nat.zero_add, List.append]; omega))⟩
  · refine fn_enter Try.func141 rfl (by kernel_rfl) Try.ntmps141 (by simp) ?_
    refine Go.Sl.cw_seq ?_
    refine Go.Sl.cw_region ?_
    refine Go.Sl.ow_val rfl rfl (Go.Sl.v_assign rfl) ?_
    refine Go.Sl.ow_val rfl rfl (Go.Sl.v_assign rfl) ?_
    refine Go.Sl.ow_nil ?_
    refine Go.Sl.xw_then ?_
    refine Go.Sl.cw_seq ?_
    refine Go.Sl.cw_seq ?_
    refine Go.Sl.cw_region ?_
    refine Go.Sl.ow_val rfl rfl (Go.Sl.v_move rfl) ?_
    refine Go.Sl.ow_nil ?_
    refine Go.Sl.xw_then ?_
    refine Go.Sl.cw_block ?_
    refine Go.Sl.cw_seq ?_
    refine Go.Sl.cw_region ?_
    refine Go.Sl.ow_val rfl rfl (Go.Sl.v_eql rfl rfl) ?_
    refine Go.Sl.ow_val rfl rfl (Go.Sl.v_assign rfl) ?_
    refine Go.Sl.ow_nil ?_
    refine Go.Sl.xw_then ?_
    refine Go.Sl.cw_false rfl ?_
    refine Go.Sl.cw_seq ?_
    refine Go.Sl.cw_region ?_
    refine Go.Sl.ow_val rfl rfl (Go.Sl.v_eql rfl rfl) ?_
    refine Go.Sl.ow_val rfl rfl (Go.Sl.v_assign rfl) ?_
    refine Go.Sl.ow_nil ?_
    refine Go.Sl.xw_then ?_
    refine Go.Sl.cw_true rfl ?_
    refine Go.Sl.cw_seq ?_
    refine Go.Sl.cw_region ?_
    refine Go.Sl.ow_val rfl rfl (Go.Sl.v_assign rfl) ?_
    refine Go.Sl.ow_val rfl rfl (Go.Sl.v_assign rfl) ?_
    refine Go.Sl.ow_nil ?_
    refine Go.Sl.xw_then ?_
    refine Go.Sl.cw_ret ?_
    refine Go.Sl.xw_block_ret ?_
    refine Go.Sl.xw_then_ret ?_
    refine Go.Sl.ret2 rfl (Go.Sl.res_tmp rfl) (Go.Sl.res_tmp rfl) ?_
    exact ⟨rfl, (by first | exact Go.Sl.Cov.refl _ | (intro p; simp only [List.flatten_cons, List.flatten_nil, List.flatten_append, List.append_nil, List.nil_append, Go.Sl.cnt_append, Go.Sl.cnt_cons, Go.Sl.cnt_nil, List.set_cons_zero, List.set_cons_succ, List.length_nil, List.length_cons, Nat.zero_add, List.append]; omega))⟩
  · refine fn_enter Try.func141 rfl (by kernel_rfl) Try.ntmps141 (by simp) ?_
    refine Go.Sl.cw_seq ?_
    refine Go.Sl.cw_region ?_
    refine Go.Sl.ow_val rfl rfl (Go.Sl.v_assign rfl) ?_
    refine Go.Sl.ow_val rfl rfl (Go.Sl.v_assign rfl) ?_
    refine Go.Sl.ow_nil ?_
    refine Go.Sl.xw_then ?_
    refine Go.Sl.cw_seq ?_
    refine Go.Sl.cw_seq ?_
    refine Go.Sl.cw_region ?_
    refine Go.Sl.ow_val rfl rfl (Go.Sl.v_move rfl) ?_
    refine Go.Sl.ow_nil ?_
    refine Go.Sl.xw_then ?_
    refine Go.Sl.cw_block ?_
    refine Go.Sl.cw_seq ?_
    refine Go.Sl.cw_region ?_
    refine Go.Sl.ow_val rfl rfl (Go.Sl.v_eql rfl rfl) ?_
    refine Go.Sl.ow_val rfl rfl (Go.Sl.v_assign rfl) ?_
    refine Go.Sl.ow_nil ?_
    refine Go.Sl.xw_then ?_
    refine Go.Sl.cw_false rfl ?_
    refine Go.Sl.cw_seq ?_
    refine Go.Sl.cw_region ?_
    refine Go.Sl.ow_val rfl rfl (Go.Sl.v_eql rfl rfl) ?_
    refine Go.Sl.ow_val rfl rfl (Go.Sl.v_assign rfl) ?_
    refine Go.Sl.ow_nil ?_
    refine Go.Sl.xw_then ?_
    refine Go.Sl.cw_false rfl ?_
    refine Go.Sl.cw_seq ?_
    refine Go.Sl.cw_region ?_
    refine Go.Sl.ow_val rfl rfl (Go.Sl.v_eql rfl rfl) ?_
    refine Go.Sl.ow_val rfl rfl (Go.Sl.v_assign rfl) ?_
    refine Go.Sl.ow_nil ?_
    refine Go.Sl.xw_then ?_
    refine Go.Sl.cw_true rfl ?_
    refine Go.Sl.cw_seq ?_
    refine Go.Sl.cw_region ?_
    refine Go.Sl.ow_val rfl rfl (Go.Sl.v_assign rfl) ?_
    refine Go.Sl.ow_val rfl rfl (Go.Sl.v_assign rfl) ?_
    refine Go.Sl.ow_nil ?_
    refine Go.Sl.xw_then ?_
    refine Go.Sl.cw_ret ?_
    refine Go.Sl.xw_block_ret ?_
    refine Go.Sl.xw_then_ret ?_
    refine Go.Sl.ret2 rfl (Go.Sl.res_tmp rfl) (Go.Sl.res_tmp rfl) ?_
    exact ⟨rfl, (by first | exact Go.Sl.Cov.refl _ | (intro p; simp only [List.flatten_cons, List.flatten_nil, List.flatten_append, List.append_nil, List.nil_append, Go.Sl.cnt_append, Go.Sl.cnt_cons, Go.Sl.cnt_nil, List.set_cons_zero, List.set_cons_succ, List.length_nil, List.length_cons, Nat.zero_add, List.append]; omega))⟩
  · refine fn_enter Try.func141 rfl (by kernel_rfl) Try.ntmps141 (by simp) ?_
    refine Go.Sl.cw_seq ?_
    refine Go.Sl.cw_region ?_
    refine Go.Sl.ow_val rfl rfl (Go.Sl.v_assign rfl) ?_
    refine Go.Sl.ow_val rfl rfl (Go.Sl.v_assign rfl) ?_
    refine Go.Sl.ow_nil ?_
    refine Go.Sl.xw_then ?_
    refine Go.Sl.cw_seq ?_
    refine Go.Sl.cw_seq ?_
    refine Go.Sl.cw_region ?_
    refine Go.Sl.ow_val rfl rfl (Go.Sl.v_move rfl) ?_
    refine Go.Sl.ow_nil ?_
    refine Go.Sl.xw_then ?_
    refine Go.Sl.cw_block ?_
    refine Go.Sl.cw_seq ?_
    refine Go.Sl.cw_region ?_
    refine Go.Sl.ow_val rfl rfl (Go.Sl.v_eql rfl rfl) ?_
    refine Go.Sl.ow_val rfl rfl (Go.Sl.v_assign rfl) ?_
    refine Go.Sl.ow_nil ?_
    refine Go.Sl.xw_then ?_
    refine Go.Sl.cw_false rfl ?_
    refine Go.Sl.cw_seq ?_
    refine Go.Sl.cw_region ?_
    refine Go.Sl.ow_val rfl rfl (Go.Sl.v_eql rfl rfl) ?_
    refine Go.Sl.ow_val rfl rfl (Go.Sl.v_assign rfl) ?_
    refine Go.Sl.ow_nil ?_
    refine Go.Sl.xw_then ?_
    refine Go.Sl.cw_false rfl ?_
    refine Go.Sl.cw_seq ?_
    refine Go.Sl.cw_region ?_
    refine Go.Sl.ow_val rfl rfl (Go.Sl.v_eql rfl rfl) ?_
    refine Go.Sl.ow_val rfl rfl (Go.Sl.v_assign rfl) ?_
    refine Go.Sl.ow_nil ?_
    refine Go.Sl.xw_then ?_
    refine Go.Sl.cw_false rfl ?_
    refine Go.Sl.cw_seq ?_
    refine Go.Sl.cw_region ?_
    refine Go.Sl.ow_val rfl rfl (Go.Sl.v_eql rfl rfl) ?_
    refine Go.Sl.ow_val rfl rfl (Go.Sl.v_assign rfl) ?_
    refine Go.Sl.ow_nil ?_
    refine Go.Sl.xw_then ?_
    refine Go.Sl.cw_true rfl ?_
    refine Go.Sl.cw_seq ?_
    refine Go.Sl.cw_region ?_
    refine Go.Sl.ow_val rfl rfl (Go.Sl.v_assign rfl) ?_
    refine Go.Sl.ow_val rfl rfl (Go.Sl.v_assign rfl) ?_
    refine Go.Sl.ow_nil ?_
    refine Go.Sl.xw_then ?_
    refine Go.Sl.cw_ret ?_
    refine Go.Sl.xw_block_ret ?_
    refine Go.Sl.xw_then_ret ?_
    refine Go.Sl.ret2 rfl (Go.Sl.res_tmp rfl) (Go.Sl.res_tmp rfl) ?_
    exact ⟨rfl, (by first | exact Go.Sl.Cov.refl _ | (intro p; simp only [List.flatten_cons, List.flatten_nil, List.flatten_append, List.append_nil, List.nil_append, Go.Sl.cnt_append, Go.Sl.cnt_cons, Go.Sl.cnt_nil, List.set_cons_zero, List.set_cons_succ, List.length_nil, List.length_cons, Nat.zero_add, List.append]; omega))⟩

/-! ### A reader -/
def RdAt (l : List UInt8) (e : Int) (b : Nat) (c : Hp) : Prop := ∃ ao cap cd, c = [(b, .cells [.slice ao l.length cap, .int .i64 e].toArray 142 (0, 0))] ++ cd ∧ Ls enB 5 (.slice ao l.length cap) cd l
theorem rdErr_c {B : Nat} {w0 : World} {G : List Hp} {l : List UInt8} {e : Int} {b : Nat} {c : Hp} (hO : RdAt l e b c) (hs : Sub c G) :
    Go.Sl.Fn Try.prog 45 #[.pointer (some ⟨b, 0, none⟩)] B w0 G fun u G' => u = .int .i64 e ∧ G' = G := by
  refine Fn.pure ?_
  obtain ⟨ao, cap, cd, rfl, hL⟩ := hO
  have hs1 := hs.left
  refine fn_enter Try.func45 rfl (by kernel_rfl) Try.ntmps45 (by simp) ?_
  refine Go.Sl.cw_seq ?_
  refine Go.Sl.cw_region ?_
  refine Go.Sl.ow_val rfl rfl (Go.Sl.v_assign rfl) ?_
  refine Go.Sl.ow_nil ?_
  refine Go.Sl.xw_then ?_
  refine Go.Sl.cw_seq ?_
  refine Go.Sl.cw_seq ?_
  refine Go.Sl.cw_region ?_
  refine Go.Sl.ow_val rfl rfl (Go.Sl.v_move rfl) ?_
  refine Go.Sl.ow_val rfl rfl (Go.Sl.v_eql_nil_some Try.underlying105 rfl) ?_
  refine Go.Sl.ow_nil ?_
  refine Go.Sl.xw_then ?_
  refine Go.Sl.cw_false rfl ?_
  refine Go.Sl.cw_skip ?_
  refine Go.Sl.xw_then ?_
  refine Go.Sl.cw_seq ?_
  refine Go.Sl.cw_region ?_
  refine Go.Sl.ow_val rfl rfl (Go.Sl.v_move rfl) ?_
  refine Go.Sl.ow_val rfl rfl (Go.Sl.v_nilCheck rfl) ?_
  refine Go.Sl.ow_val rfl rfl (Go.Sl.v_fieldAddr0 Ty.fd142_1 rfl) ?_
  refine Go.Sl.ow_val rfl rfl (Go.Sl.v_load rfl (Go.Sl.Var.sub1 Ty.sc37 (by repeat (first | assumption | refine Go.Sl.Sub.there ?_)) (.head _) (Go.Sl.GetN.lit rfl))) ?_
  refine Go.Sl.ow_val rfl rfl (Go.Sl.v_assign rfl) ?_
  refine Go.Sl.ow_nil ?_
  refine Go.Sl.xw_then ?_
  refine Go.Sl.cw_ret ?_
  refine Go.Sl.ret1 rfl (Go.Sl.res_tmp rfl) ?_
  exact ⟨rfl, (by first | exact Go.Sl.Cov.refl _ | (intro p; simp only [List.flatten_cons, List.flatten_nil, List.flatten_append, List.append_nil, List.nil_append, Go.Sl.cnt_append, Go.Sl.cnt_cons, Go.Sl.cnt_nil, List.set_cons_zero, List.set_cons_succ, List.length_nil, List.length_cons, Nat.zero_add, List.append]; omega))⟩
theorem rdLeft_c {B : Nat} {w0 : World} {G : List Hp} {l : List UInt8} {e : Int} {b : Nat} {c : Hp} (hO : RdAt l e b c) (hs : Sub c G) :
    Go.Sl.Fn Try.prog 43 #[.pointer (some ⟨b, 0, none⟩)] B w0 G fun u G' => u = .int .i64 l.length ∧ G' = G := by
  refine Fn.pure ?_
  obtain ⟨ao, cap, cd, rfl, hL⟩ := hO
  have hs1 := hs.left
  refine fn_enter Try.func43 rfl (by kernel_rfl) Try.ntmps43 (by simp) ?_
  refine Go.Sl.cw_seq ?_
  refine Go.Sl.cw_region ?_
  refine Go.Sl.ow_val rfl rfl (Go.Sl.v_assign rfl) ?_
  refine Go.Sl.ow_nil ?_
  refine Go.Sl.xw_then ?_
  refine Go.Sl.cw_seq ?_
  refine Go.Sl.cw_seq ?_
  refine Go.Sl.cw_region ?_
  refine Go.Sl.ow_val rfl rfl (Go.Sl.v_move rfl) ?_
  refine Go.Sl.ow_val rfl rfl (Go.Sl.v_eql_nil_some Try.underlying105 rfl) ?_
  refine Go.Sl.ow_nil ?_
  refine Go.Sl.xw_then ?_
  refine Go.Sl.cw_false rfl ?_
  refine Go.Sl.cw_skip ?_
  refine Go.Sl.xw_then ?_
  refine Go.Sl.cw_seq ?_
  refine Go.Sl.cw_region ?_
  refine Go.Sl.ow_val rfl rfl (Go.Sl.v_move rfl) ?_
  refine Go.Sl.ow_val rfl rfl (Go.Sl.v_nilCheck rfl) ?_
  refine Go.Sl.ow_val rfl rfl (Go.Sl.v_fieldAddr0 Ty.fd142_0 rfl) ?_
  refine Go.Sl.ow_val rfl rfl (Go.Sl.v_load rfl (Go.Sl.Var.sub1 Ty.sc23 (by repeat (first | assumption | refine Go.Sl.Sub.there ?_)) (.head _) (Go.Sl.GetN.lit rfl))) ?_
  refine Go.Sl.ow_val rfl rfl (Go.Sl.v_len rfl Try.underlying23 rfl) ?_
  refine Go.Sl.ow_val rfl rfl (Go.Sl.v_assign rfl) ?_
  refine Go.Sl.ow_nil ?_
  refine Go.Sl.xw_then ?_
  refine Go.Sl.cw_ret ?_
  refine Go.Sl.ret1 rfl (Go.Sl.res_tmp rfl) ?_
  exact ⟨rfl, (by first | exact Go.Sl.Cov.refl _ | (intro p; simp only [List.flatten_cons, List.flatten_nil, List.flatten_append, List.append_nil, List.nil_append, Go.Sl.cnt_append, Go.Sl.cnt_cons, Go.Sl.cnt_nil, List.set_cons_zero, List.set_cons_succ, List.length_nil, List.length_cons, Nat.zero_add, List.append]; omega))⟩
theorem rdFail_c {B : Nat} {w0 : World} {G : List Hp} {R : Hp → List Hp} {l : List UInt8} {e k : Int} {b : Nat} {c : Hp} (hsel : Sel G c R) (hO : RdAt l e b c) :
    Go.Sl.Fn Try.prog 68 #[.pointer (some ⟨b, 0, none⟩), .int .i64 k] B w0 G fun u G' => ∃ c' : Hp, u = .tuple #[] ∧ RdAt (if k = 0 ∨ e ≠ 0 then l else []) (if k = 0 ∨ e ≠ 0 then e else k) b c' ∧ G' = R c' := by
  refine Fn.sel0 hsel fun F hR hF => ?_
  obtain ⟨ao, cap, cd, rfl, hL⟩ := hO
  refine fn_enter Try.func68 rfl (by kernel_rfl) Try.ntmps68 (by simp) ?_
  refine cw_split ?_
  refine Go.Sl.cw_seq ?_
  refine Go.Sl.cw_seq ?_
  refine Go.Sl.cw_region ?_
  refine Go.Sl.ow_val rfl rfl (Go.Sl.v_move rfl) ?_
  refine Go.Sl.ow_val rfl rfl (Go.Sl.v_eql_nil_some Try.underlying105 rfl) ?_
  refine Go.Sl.ow_val rfl rfl (Go.Sl.v_move rfl) ?_
  refine Go.Sl.ow_val rfl rfl (Go.Sl.v_move rfl) ?_
  refine Go.Sl.ow_val rfl rfl (Go.Sl.v_eql rfl rfl) ?_
  refine Go.Sl.ow_val rfl rfl (Go.Sl.v_pick_false rfl rfl) ?_
  refine Go.Sl.ow_val rfl rfl (Go.Sl.v_move rfl) ?_
  refine Go.Sl.ow_dec 10 rfl (fun hc10 => ?_) (fun hc10 => ?_)
  refine Go.Sl.ow_skip rfl rfl ?_
  refine Go.Sl.ow_skip rfl rfl ?_
  refine Go.Sl.ow_skip rfl rfl ?_
  refine Go.Sl.ow_skip rfl rfl ?_
  refine Go.Sl.ow_skip rfl rfl ?_
  refine Go.Sl.ow_val rfl rfl (Go.Sl.v_pick_true rfl rfl) ?_
  refine Go.Sl.ow_nil ?_
  refine Go.Sl.xw_then ?_
  refine Go.Sl.cw_true rfl ?_
  refine Go.Sl.cw_ret ?_
  refine Go.Sl.xw_then_ret ?_
  refine Go.Sl.ret0 rfl ?_
  rotate_left
  refine Go.Sl.ow_val rfl rfl (Go.Sl.v_move rfl) ?_
  refine Go.Sl.ow_val rfl rfl (Go.Sl.v_nilCheck rfl) ?_
  refine Go.Sl.ow_val rfl rfl (Go.Sl.v_fieldAddr0 Ty.fd142_1 rfl) ?_
  refine Go.Sl.ow_val rfl rfl (Go.Sl.v_load rfl (Go.Sl.Var.at1 Ty.sc37 .here (Go.Sl.GetN.lit rfl))) ?_
  refine Go.Sl.ow_val rfl rfl (Go.Sl.v_neq rfl rfl) ?_
  refine Go.Sl.ow_val rfl rfl (Go.Sl.v_pick_false rfl rfl) ?_
  refine Go.Sl.ow_nil ?_
  refine Go.Sl.xw_then ?_
  refine Go.Sl.cw_dec rfl (fun hc16 => ?_) (fun hc16 => ?_)
  refine Go.Sl.cw_ret ?_
  refine Go.Sl.xw_then_ret ?_
  refine Go.Sl.ret0 rfl ?_
  rotate_left
  refine Go.Sl.cw_skip ?_
  refine Go.Sl.xw_then ?_
  refine Go.Sl.cw_seq ?_
  refine Go.Sl.cw_region ?_
  refine Go.Sl.ow_val rfl rfl (Go.Sl.v_move rfl) ?_
  refine Go.Sl.ow_val rfl rfl (Go.Sl.v_move rfl) ?_
  refine Go.Sl.ow_val rfl rfl (Go.Sl.v_nilCheck rfl) ?_
  refine Go.Sl.ow_val rfl rfl (Go.Sl.v_fieldAddr0 Ty.fd142_1 rfl) ?_
  refine Go.Sl.ow_store1 rfl rfl rfl rfl Ty.sc37 .here (Go.Sl.SetN.one (by first | decide | exact Nat.le_of_ble_eq_true rfl)) ?_
  refine Go.Sl.ow_nil ?_
  refine Go.Sl.xw_then ?_
  refine Go.Sl.cw_region ?_
  refine Go.Sl.ow_val rfl rfl (Go.Sl.v_move rfl) ?_
  refine Go.Sl.ow_val rfl rfl (Go.Sl.v_nilCheck rfl) ?_
  refine Go.Sl.ow_val rfl rfl (Go.Sl.v_fieldAddr0 Ty.fd142_0 rfl) ?_
  refine Go.Sl.ow_store1 rfl rfl rfl rfl Ty.sc23 .here (Go.Sl.SetN.one (by first | decide | exact Nat.le_of_ble_eq_true rfl)) ?_
  refine Go.Sl.ow_nil ?_
  refine Go.Sl.ret0n rfl ?_
  rotate_left
  · exact ⟨_, rfl, by rw [if_pos (.inl hc10), if_pos (.inl hc10)]; exact ⟨ao, cap, cd, rfl, hL⟩, (by first | exact Go.Sl.Cov.refl _ | (intro p; simp only [List.flatten_cons, List.flatten_nil, List.flatten_append, List.append_nil, List.nil_append, Go.Sl.cnt_append, Go.Sl.cnt_cons, Go.Sl.cnt_nil, List.set_cons_zero, List.set_cons_succ, List.length_nil, List.length_cons, Nat.zero_add, List.append]; omega))⟩
  · exact ⟨_, rfl, by rw [if_pos (.inr hc16), if_pos (.inr hc16)]; exact ⟨ao, cap, cd, rfl, hL⟩, (by first | exact Go.Sl.Cov.refl _ | (intro p; simp only [List.flatten_cons, List.flatten_nil, List.flatten_append, List.append_nil, List.nil_append, Go.Sl.cnt_append, Go.Sl.cnt_cons, Go.Sl.cnt_nil, List.set_cons_zero, List.set_cons_succ, List.length_nil, List.length_cons, Nat.zero_add, List.append]; omega))⟩
  · have hn : ¬ (k = 0 ∨ e ≠ 0) := fun h => h.elim hc10 hc16
    exact ⟨[(b, .cells [.slice none 0 0, .int .i64 k].toArray 142 (0, 0))] ++ [], rfl, by rw [if_neg hn, if_neg hn]; exact ⟨none, 0, [], rfl, Ls.nil⟩, (by first | exact Go.Sl.Cov.refl _ | (intro p; simp only [List.flatten_cons, List.flatten_nil, List.flatten_append, List.append_nil, List.nil_append, Go.Sl.cnt_append, Go.Sl.cnt_cons, Go.Sl.cnt_nil, List.set_cons_zero, List.set_cons_succ, List.length_nil, List.length_cons, Nat.zero_add, List.append]; omega))⟩
theorem b_rd {ao : Option Addr} {n cap : Nat} : Build Try.prog 142 #[(0, .slice ao n cap)] (.agg [Value.slice ao n cap, .int .i64 0].toArray) := fun w => by kernel_rfl
theorem vintRead_c {B : Nat} {w0 : World} {G : List Hp} {ao : Option Addr} {n cap : Nat} {l : List UInt8} (hV : Vw enB (St B w0 G) (.slice ao n cap) l) (hb : l.length ≤ 100000000) :
    Go.Sl.Fn Try.prog 42 #[.slice ao n cap] B w0 G fun u G' => ∃ x : Nat × Hp, u = .pointer (some ⟨x.1, 0, none⟩) ∧ RdAt l 0 x.1 x.2 ∧ G' = [x.2] ++ G := by
  refine Fn.new ?_
  refine fn_enter Try.func42 rfl (by kernel_rfl) Try.ntmps42 (by simp) ?_
  have hN : Ls enB 5 (.slice none 0 0) [] [] := Ls.nil
  have hl := hV.len
  refine cw_flat ([] :: G) (.of_eq (by simp)) ?_
  refine Go.Sl.cw_seq ?_
  refine Go.Sl.cw_region ?_
  refine Go.Sl.ow_val rfl rfl (Go.Sl.v_assign rfl) ?_
  refine Go.Sl.ow_nil ?_
  refine Go.Sl.xw_then ?_
  refine Go.Sl.cw_seq ?_
  refine Go.Sl.cw_region ?_
  refine Go.Sl.ow_val rfl rfl (Go.Sl.v_move rfl) ?_
  (refine Go.Sl.ow_appendL rfl rfl Try.underlying23 Try.underlying23 Ty.em23 (vbTy) rfl rfl (by assumption) (by repeat (first | exact Go.Sl.Sel.here | apply Go.Sl.Sel.there)) (hV.mono (fun w h => h.cov (by first | exact Go.Sl.Cov.refl _ | (intro p; simp only [List.flatten_cons, List.flatten_nil, List.flatten_append, List.append_nil, List.nil_append, Go.Sl.cnt_append, Go.Sl.cnt_cons, Go.Sl.cnt_nil, List.set_cons_zero, List.set_cons_succ, List.length_nil, List.length_cons, Nat.zero_add, List.append]; omega)))) (by first | omega | (simp only [List.length_append, List.length_take, List.length_drop, List.length_nil, List.length_cons]; omega)) (by first | omega | (simp only [List.length_append, List.length_take, List.length_drop, List.length_nil, List.length_cons]; omega)) ?_; intro ao4 cap4 c4 hL4)
  refine Go.Sl.ow_val rfl rfl (Go.Sl.v_build rfl (b_rd)) ?_
  (refine Go.Sl.ow_box rfl rfl rfl rfl ?_; intro b6)
  refine Go.Sl.ow_val rfl rfl (Go.Sl.v_assign rfl) ?_
  refine Go.Sl.ow_nil ?_
  refine Go.Sl.xw_then ?_
  refine Go.Sl.cw_ret ?_
  refine Go.Sl.ret1 rfl (Go.Sl.res_tmp rfl) ?_
  simp only [List.nil_append] at hL4 ⊢
  exact ⟨(b6, [(b6, .cells [Value.slice ao4 l.length cap4, .int .i64 0].toArray 142 (0, 0))] ++ c4), rfl, ⟨ao4, cap4, c4, rfl, hL4⟩, (by first | exact Go.Sl.Cov.refl _ | (intro p; simp only [List.flatten_cons, List.flatten_nil, List.flatten_append, List.append_nil, List.nil_append, Go.Sl.cnt_append, Go.Sl.cnt_cons, Go.Sl.cnt_nil, List.set_cons_zero, List.set_cons_succ, List.length_nil, List.length_cons, Nat.zero_add, List.append]; omega))⟩

/-! ### A number that is read -/
def vsize (x : UInt8) : Nat := 2 ^ (x.toNat / 64)
def vfold (x : UInt8) (t : List UInt8) : Nat := t.foldl (fun v b => v * 256 + b.toNat) (x.toNat % 64)
/-- value, size, error -/
def takeV : List UInt8 → Int × Int × Int
  | [] => (0, 0, 3)
  | x :: t => if t.length + 1 < vsize x then (0, 0, 3) else ((vfold x (t.take (vsize x - 1)) : Nat), (vsize x : Nat), 0)
theorem vsize_le (x : UInt8) : 1 ≤ vsize x ∧ vsize x ≤ 8 := by
  have := x.toNat_lt
  have h : x.toNat / 64 = 0 ∨ x.toNat / 64 = 1 ∨ x.toNat / 64 = 2 ∨ x.toNat / 64 = 3 := by omega
  unfold vsize
  rcases h with h | h | h | h <;> rw [h] <;> decide
theorem vfold_lt (x : UInt8) (t : List UInt8) : vfold x t < 64 * 256 ^ t.length := by
  unfold vfold
  have h : ∀ (t : List UInt8) (a k : Nat), a < k → t.foldl (fun v b => v * 256 + b.toNat) a < k * 256 ^ t.length := by
    intro t
    induction t with
    | nil => intro a k h; simpa using h
    | cons b t ih =>
      intro a k h
      have hb := b.toNat_lt
      have := ih (a * 256 + b.toNat) (k * 256) (by omega)
      rw [List.foldl_cons, List.length_cons, Nat.pow_succ]
      rwa [Nat.mul_assoc, Nat.mul_comm 256] at this
  exact h t _ 64 (by omega)
theorem vfold_succ {x : UInt8} {t : List UInt8} {j : Nat} (h : j < t.length) : vfold x (t.take (j + 1)) = vfold x (t.take j) * 256 + (t[j]).toNat := by
  unfold vfold
  rw [List.take_succ_eq_append_getElem h, List.foldl_append]
  rfl
theorem shr6 (x : UInt8) : Int.fdiv (x.toNat : Int) (2 ^ min (Int.toNat 6) (IntKind.bits .u8)) = ((x.toNat / 64 : Nat) : Int) := by
  show Int.fdiv (x.toNat : Int) 64 = _
  rw [Int.fdiv_eq_ediv_of_nonneg _ (by decide)]
  omega
theorem shl1 (x : UInt8) : IntKind.wrap .i64 (1 * 2 ^ min (Int.toNat ((x.toNat / 64 : Nat) : Int)) (IntKind.bits .i64)) = ((vsize x : Nat) : Int) := by
  have := x.toNat_lt
  have h : x.toNat / 64 = 0 ∨ x.toNat / 64 = 1 ∨ x.toNat / 64 = 2 ∨ x.toNat / 64 = 3 := by omega
  unfold vsize
  rcases h with h | h | h | h <;> rw [h] <;> decide
theorem and63 (x : UInt8) : bitsOf .and .u8 (x.toNat : Int) 63 = ((x.toNat % 64 : Nat) : Int) := by
  revert x
  have : ∀ n : Fin 256, bitsOf .and .u8 (n.val : Int) 63 = ((n.val % 64 : Nat) : Int) := by decide +kernel
  intro x
  exact this ⟨x.toNat, x.toNat_lt⟩
theorem shlor {v : Nat} {b : UInt8} (h : v < 72057594037927936) : bitsOf .or .u64 (IntKind.wrap .u64 ((v : Int) * 2 ^ min (Int.toNat 8) (IntKind.bits .u64))) (b.toNat : Int) = ((v * 256 + b.toNat : Nat) : Int) := by
  have hb := b.toNat_lt
  have h1 : IntKind.wrap .u64 ((v : Int) * 2 ^ min (Int.toNat 8) (IntKind.bits .u64)) = ((v * 256 : Nat) : Int) := by
    show IntKind.wrap .u64 ((v : Int) * 256) = _
    simp [IntKind.wrap, IntKind.signed, IntKind.bits]
    omega
  rw [h1]
  unfold bitsOf
  show IntKind.wrap .u64 (((BitVec.ofInt 64 ((v * 256 : Nat) : Int)) ||| (BitVec.ofInt 64 (b.toNat : Int))).toNat : Int) = _
  have h2 : ((BitVec.ofInt 64 ((v * 256 : Nat) : Int)) ||| (BitVec.ofInt 64 (b.toNat : Int))).toNat = v * 256 + b.toNat := by
    rw [BitVec.toNat_or, BitVec.ofInt_natCast, BitVec.ofInt_natCast, BitVec.toNat_ofNat, BitVec.toNat_ofNat, Nat.mod_eq_of_lt (by omega), Nat.mod_eq_of_lt (by omega)]
    have := Nat.two_pow_add_eq_or_of_lt (i := 8) (b := b.toNat) (by omega) v
    rw [show v * 256 = 2 ^ 8 * v from by omega, ← this]
  rw [h2]
  simp [IntKind.wrap, IntKind.signed, IntKind.bits]
  omega
set_option maxHeartbeats 2000000 in
theorem vintTake_c {B : Nat} {w0 : World} {G : List Hp} {ao : Option Addr} {n cap : Nat} {l : List UInt8} (hV : Vw enB (St B w0 G) (.slice ao n cap) l) (hb : l.length ≤ 100000000) :
    Go.Sl.Fn Try.prog 122 #[.slice ao n cap] B w0 G fun u G' => u = .tuple #[.int .u64 (takeV l).1, .int .i64 (takeV l).2.1, .int .i64 (takeV l).2.2] ∧ G' = G := by
  refine Fn.pure ?_
  have hl := hV.len
  refine fn_enter Try.func122 rfl (by kernel_rfl) Try.ntmps122 (by simp) ?_
  cases l with
  | nil =>
    have hn0 : n = 0 := hl
    subst hn0
    refine Go.Sl.cw_seq ?_
    refine Go.Sl.cw_region ?_
    refine Go.Sl.ow_val rfl rfl (Go.Sl.v_assign rfl) ?_
    refine Go.Sl.ow_val rfl rfl (Go.Sl.v_assign rfl) ?_
    refine Go.Sl.ow_val rfl rfl (Go.Sl.v_assign rfl) ?_
    refine Go.Sl.ow_nil ?_
    refine Go.Sl.xw_then ?_
    refine Go.Sl.cw_seq ?_
    refine Go.Sl.cw_seq ?_
    refine Go.Sl.cw_region ?_
    refine Go.Sl.ow_val rfl rfl (Go.Sl.v_move rfl) ?_
    refine Go.Sl.ow_val rfl rfl (Go.Sl.v_len rfl Try.underlying23 rfl) ?_
    refine Go.Sl.ow_val rfl rfl (Go.Sl.v_eql rfl rfl) ?_
    refine Go.Sl.ow_nil ?_
    refine Go.Sl.xw_then ?_
    refine Go.Sl.cw_true rfl ?_
    refine Go.Sl.cw_seq ?_
    refine Go.Sl.cw_region ?_
    refine Go.Sl.ow_val rfl rfl (Go.Sl.v_assign rfl) ?_
    refine Go.Sl.ow_val rfl rfl (Go.Sl.v_assign rfl) ?_
    refine Go.Sl.ow_val rfl rfl (Go.Sl.v_assign rfl) ?_
    refine Go.Sl.ow_nil ?_
    refine Go.Sl.xw_then ?_
    refine Go.Sl.cw_ret ?_
    refine Go.Sl.xw_then_ret ?_
    refine Go.Sl.ret3 rfl (Go.Sl.res_tmp rfl) (Go.Sl.res_tmp rfl) (Go.Sl.res_tmp rfl) ?_
    exact ⟨rfl, (by first | exact Go.Sl.Cov.refl _ | (intro p; simp only [List.flatten_cons, List.flatten_nil, List.flatten_append, List.append_nil, List.nil_append, Go.Sl.cnt_append, Go.Sl.cnt_cons, Go.Sl.cnt_nil, List.set_cons_zero, List.set_cons_succ, List.length_nil, List.length_cons, Nat.zero_add, List.append]; omega))⟩
  | cons x t =>
    have hz := vsize_le x
    have hxl := x.toNat_lt
    rw [List.length_cons] at hl hb
    have hlc : (x :: t).length = t.length + 1 := rfl
    have h6 := shr6 x
    have h1 := shl1 x
    refine Go.Sl.cw_seq ?_
    refine Go.Sl.cw_region ?_
    refine Go.Sl.ow_val rfl rfl (Go.Sl.v_assign rfl) ?_
    refine Go.Sl.ow_val rfl rfl (Go.Sl.v_assign rfl) ?_
    refine Go.Sl.ow_val rfl rfl (Go.Sl.v_assign rfl) ?_
    refine Go.Sl.ow_nil ?_
    refine Go.Sl.xw_then ?_
    refine Go.Sl.cw_seq ?_
    refine Go.Sl.cw_seq ?_
    refine Go.Sl.cw_region ?_
    refine Go.Sl.ow_val rfl rfl (Go.Sl.v_move rfl) ?_
    refine Go.Sl.ow_val rfl rfl (Go.Sl.v_len rfl Try.underlying23 rfl) ?_
    refine Go.Sl.ow_val rfl rfl (Go.Sl.v_eql rfl rfl) ?_
    refine Go.Sl.ow_nil ?_
    refine Go.Sl.xw_then ?_
    refine Go.Sl.cw_dec rfl (fun hc10 => ?_) (fun hc10 => ?_)
    (exfalso; omega)
    refine Go.Sl.cw_skip ?_
    refine Go.Sl.xw_then ?_
    refine Go.Sl.cw_seq ?_
    refine Go.Sl.cw_region ?_
    refine Go.Sl.ow_val rfl rfl (Go.Sl.v_move rfl) ?_
    refine Go.Sl.ow_val rfl rfl (Go.Sl.v_indexAddr_vw (i := 0) Try.underlying23 (vbTy) rfl rfl (by assumption) rfl (by omega)) ?_
    refine Go.Sl.ow_val rfl rfl (Go.Sl.v_load rfl (Go.Sl.Vw.var (vbTy) (hV) (by omega))) ?_
    refine Go.Sl.ow_val rfl rfl (Go.Sl.v_shr rfl rfl (by omega) rfl) ?_
    rw [show (Int.fdiv ((((x :: t)[0]).toNat : Nat) : Int) (2 ^ min (Int.toNat 6) (IntKind.bits .u8))) = _ from h6]
    refine Go.Sl.ow_val rfl rfl (Go.Sl.v_shl (r := ((vsize x : Nat) : Int)) rfl rfl (by omega) h1) ?_
    have hcp : n ≤ cap := by
      obtain ⟨a', c', e', h'⟩ := hV.view
      injection e' with e1 e2 e3
      omega
    have h2 : IntKind.wrap .u64 (bitsOf .and .u8 ((((x :: t)[0]).toNat : Nat) : Int) 63) = ((vfold x ((t.take (vsize x - 1)).take 0) : Nat) : Int) := by
      rw [show bitsOf .and .u8 ((((x :: t)[0]).toNat : Nat) : Int) 63 = _ from and63 x]
      simp [IntKind.wrap, IntKind.signed, IntKind.bits, vfold]
      omega
    refine Go.Sl.ow_val rfl rfl (Go.Sl.v_assign rfl) ?_
    refine Go.Sl.ow_nil ?_
    refine Go.Sl.xw_then ?_
    refine Go.Sl.cw_seq ?_
    refine Go.Sl.cw_seq ?_
    refine Go.Sl.cw_region ?_
    refine Go.Sl.ow_val rfl rfl (Go.Sl.v_move rfl) ?_
    refine Go.Sl.ow_val rfl rfl (Go.Sl.v_len rfl Try.underlying23 rfl) ?_
    refine Go.Sl.ow_val rfl rfl (Go.Sl.v_move rfl) ?_
    refine Go.Sl.ow_val rfl rfl (Go.Sl.v_lss rfl rfl) ?_
    refine Go.Sl.ow_nil ?_
    refine Go.Sl.xw_then ?_
    refine Go.Sl.cw_dec rfl (fun hc19 => ?_) (fun hc19 => ?_)
    refine Go.Sl.cw_seq ?_
    refine Go.Sl.cw_region ?_
    refine Go.Sl.ow_val rfl rfl (Go.Sl.v_assign rfl) ?_
    refine Go.Sl.ow_val rfl rfl (Go.Sl.v_assign rfl) ?_
    refine Go.Sl.ow_val rfl rfl (Go.Sl.v_assign rfl) ?_
    refine Go.Sl.ow_nil ?_
    refine Go.Sl.xw_then ?_
    refine Go.Sl.cw_ret ?_
    refine Go.Sl.xw_then_ret ?_
    refine Go.Sl.ret3 rfl (Go.Sl.res_tmp rfl) (Go.Sl.res_tmp rfl) (Go.Sl.res_tmp rfl) ?_
    rotate_left
    refine Go.Sl.cw_skip ?_
    refine Go.Sl.xw_then ?_
    rotate_left
    · exact ⟨by rw [takeV, if_pos (by omega)], (by first | exact Go.Sl.Cov.refl _ | (intro p; simp only [List.flatten_cons, List.flatten_nil, List.flatten_append, List.append_nil, List.nil_append, Go.Sl.cnt_append, Go.Sl.cnt_cons, Go.Sl.cnt_nil, List.set_cons_zero, List.set_cons_succ, List.length_nil, List.length_cons, Nat.zero_add, List.append]; omega))⟩
    have hs1 : vsize x ≤ (x :: t).length := by omega
    have hU := (hV.sub1 vbTy hs1).sub2 vbTy (m := 1) (by rw [List.length_take]; omega)
    rw [show ((x :: t).take (vsize x)).drop 1 = t.take (vsize x - 1) from by rw [List.drop_take]; rfl] at hU
    have hul : (t.take (vsize x - 1)).length = vsize x - 1 := by rw [List.length_take]; omega
    generalize hu : t.take (vsize x - 1) = u at hU hul h2
    refine Go.Sl.cw_seq ?_
    refine Go.Sl.cw_region ?_
    refine Go.Sl.ow_val rfl rfl (Go.Sl.v_move rfl) ?_
    refine Go.Sl.ow_val rfl rfl (Go.Sl.v_indexAddr_vw (i := 0) Try.underlying23 (vbTy) rfl rfl (by assumption) rfl (by omega)) ?_
    refine Go.Sl.ow_val rfl rfl (Go.Sl.v_load rfl (Go.Sl.Vw.var (vbTy) (hV) (by omega))) ?_
    refine Go.Sl.ow_val rfl rfl (Go.Sl.v_and rfl rfl rfl) ?_
    refine Go.Sl.ow_val rfl rfl (Go.Sl.v_convert Try.underlying5 Try.underlying22 rfl rfl) ?_
    refine Go.Sl.ow_val rfl rfl (Go.Sl.v_assign rfl) ?_
    refine Go.Sl.ow_nil ?_
    refine Go.Sl.xw_then ?_
    refine Go.Sl.cw_seq ?_
    refine Go.Sl.cw_seq ?_
    refine Go.Sl.cw_region ?_
    refine Go.Sl.ow_val rfl rfl (Go.Sl.v_move rfl) ?_
    refine Go.Sl.ow_val rfl rfl (Go.Sl.v_move rfl) ?_
    refine Go.Sl.ow_val rfl rfl (Go.Sl.v_slice_lh (l := 1) Try.underlying23 Ty.el23 rfl rfl rfl rfl rfl (by omega) (by omega)) ?_
    refine Go.Sl.ow_val rfl rfl (Go.Sl.v_len rfl Try.underlying23 rfl) ?_
    refine Go.Sl.ow_val rfl rfl (Go.Sl.v_move rfl) ?_
    refine Go.Sl.ow_nil ?_
    refine Go.Sl.xw_then ?_
    refine Go.Sl.cw_block ?_
    rw [h2]
    refine Go.Sl.cw_loop2 (ι := (Nat)) [(3, _), (4, _), (5, _), (27, _), (28, _)] ⟨rfl, rfl, rfl, rfl, rfl, trivial⟩ ((fun j => [(2, .int .u64 (vfold x (u.take j) : Nat)), (29, .int .i64 j)])) ((fun j => j ≤ u.length)) ((fun j => u.length - j)) ((fun _ => G)) (0) (by repeat (first | exact True.intro | refine And.intro rfl ?_)) (by first | exact Go.Sl.Cov.refl _ | (intro p; simp only [List.flatten_cons, List.flatten_nil, List.flatten_append, List.append_nil, List.nil_append, Go.Sl.cnt_append, Go.Sl.cnt_cons, Go.Sl.cnt_nil, List.set_cons_zero, List.set_cons_succ, List.length_nil, List.length_cons, Nat.zero_add, List.append]; omega)) ?_ ?_
    · exact Nat.zero_le _
    rintro j hj
    refine Go.Sl.cw_seq ?_
    refine Go.Sl.cw_region ?_
    refine Go.Sl.ow_val rfl rfl (Go.Sl.v_lss rfl rfl) ?_
    refine Go.Sl.ow_nil ?_
    refine Go.Sl.xw_then ?_
    refine Go.Sl.cw_seq ?_
    refine Go.Sl.cw_dec rfl (fun hc30 => ?_) (fun hc30 => ?_)
    refine Go.Sl.cw_skip ?_
    refine Go.Sl.xw_then ?_
    rotate_left
    refine Go.Sl.cw_exit ?_
    refine Go.Sl.xw_then_exit ?_
    refine Go.Sl.xw_round_exit ?_
    refine Go.Sl.xw_block_exit ?_
    refine Go.Sl.xw_then ?_
    refine Go.Sl.cw_seq ?_
    refine Go.Sl.cw_region ?_
    refine Go.Sl.ow_val rfl rfl (Go.Sl.v_move rfl) ?_
    refine Go.Sl.ow_val rfl rfl (Go.Sl.v_move rfl) ?_
    refine Go.Sl.ow_val rfl rfl (Go.Sl.v_assign rfl) ?_
    refine Go.Sl.ow_val rfl rfl (Go.Sl.v_assign rfl) ?_
    refine Go.Sl.ow_val rfl rfl (Go.Sl.v_assign rfl) ?_
    refine Go.Sl.ow_nil ?_
    refine Go.Sl.xw_then ?_
    refine Go.Sl.cw_ret ?_
    refine Go.Sl.ret3 rfl (Go.Sl.res_tmp rfl) (Go.Sl.res_tmp rfl) (Go.Sl.res_tmp rfl) ?_
    rotate_left
    · have hj2 : j < u.length := by omega
      have hbt := (u[j]).toNat_lt
      have hvl := vfold_lt x (u.take j)
      have hvl2 : vfold x (u.take j) < 72057594037927936 := by
        rw [List.length_take, Nat.min_eq_left (by omega)] at hvl
        have := Nat.pow_le_pow_right (n := 256) (by omega) (show j ≤ 6 by omega)
        omega
      have hsh := shlor (b := u[j]) hvl2
      rw [← vfold_succ hj2] at hsh
      refine Go.Sl.cw_seq ?_
      refine Go.Sl.cw_block ?_
      refine Go.Sl.cw_seq ?_
      refine Go.Sl.cw_region ?_
      refine Go.Sl.ow_val rfl rfl (Go.Sl.v_indexAddr_vw Try.underlying23 (vbTy) rfl rfl (by assumption) rfl (by omega)) ?_
      refine Go.Sl.ow_val rfl rfl (Go.Sl.v_load rfl (Go.Sl.Vw.var (vbTy) (hU) (by omega))) ?_
      refine Go.Sl.ow_val rfl rfl (Go.Sl.v_assign rfl) ?_
      refine Go.Sl.ow_nil ?_
      refine Go.Sl.xw_then ?_
      refine Go.Sl.cw_region ?_
      refine Go.Sl.ow_val rfl rfl (Go.Sl.v_move rfl) ?_
      refine Go.Sl.ow_val rfl rfl (Go.Sl.v_shl rfl rfl (by omega) rfl) ?_
      refine Go.Sl.ow_val rfl rfl (Go.Sl.v_move rfl) ?_
      refine Go.Sl.ow_val rfl rfl (Go.Sl.v_convert Try.underlying5 Try.underlying22 rfl (Go.Sl.nw_u64 (by omega) (by omega))) ?_
      refine Go.Sl.ow_val rfl rfl (Go.Sl.v_or rfl rfl rfl) ?_
      refine Go.Sl.ow_val rfl rfl (Go.Sl.v_assign rfl) ?_
      refine Go.Sl.ow_nil ?_
      refine Go.Sl.xw_block ?_
      refine Go.Sl.xw_then ?_
      refine Go.Sl.cw_region ?_
      refine Go.Sl.ow_val rfl rfl (Go.Sl.v_add rfl rfl (Go.Sl.nw_i64 (by omega) (by omega))) ?_
      refine Go.Sl.ow_val rfl rfl (Go.Sl.v_move rfl) ?_
      refine Go.Sl.ow_nil ?_
      exact xw_round (j + 1) (by omega) (by omega) (by first | exact Go.Sl.Cov.refl _ | (intro p; simp only [List.flatten_cons, List.flatten_nil, List.flatten_append, List.append_nil, List.nil_append, Go.Sl.cnt_append, Go.Sl.cnt_cons, Go.Sl.cnt_nil, List.set_cons_zero, List.set_cons_succ, List.length_nil, List.length_cons, Nat.zero_add, List.append]; omega)) ⟨congrArg (fun z => some (Value.int .u64 z)) hsh, (by repeat (first | exact True.intro | refine And.intro rfl ?_))⟩
    · have hju : u.take j = u := List.take_of_length_le (by omega)
      rw [hju]
      skip
      exact ⟨by rw [takeV, if_neg (by omega), hu], (by first | exact Go.Sl.Cov.refl _ | (intro p; simp only [List.flatten_cons, List.flatten_nil, List.flatten_append, List.append_nil, List.nil_append, Go.Sl.cnt_append, Go.Sl.cnt_cons, Go.Sl.cnt_nil, List.set_cons_zero, List.set_cons_succ, List.length_nil, List.length_cons, Nat.zero_add, List.append]; omega))⟩

/-! ### What a reader yields -/
theorem RdAt.of {l : List UInt8} {e : Int} {b n cap : Nat} {ao : Option Addr} {cd : Hp} (hL : Ls enB 5 (.slice ao n cap) cd l) : RdAt l e b ([(b, .cells [.slice ao n cap, .int .i64 e].toArray 142 (0, 0))] ++ cd) := by
  have hn := hL.len
  subst hn
  exact ⟨ao, cap, cd, rfl, hL⟩
/-- a number: value, size, whether there was one, what is left, error -/
structure NextM where
  v : Int
  size : Int
  ok : Bool
  l : List UInt8
  e : Int
def nextM (l : List UInt8) (e : Int) : NextM := if e ≠ 0 then ⟨0, 0, false, l, e⟩ else if (takeV l).2.2 ≠ 0 then ⟨0, 0, false, [], (takeV l).2.2⟩ else ⟨(takeV l).1, (takeV l).2.1, true, l.drop (takeV l).2.1.toNat, 0⟩
theorem takeV_ok {l : List UInt8} (h : (takeV l).2.2 = 0) : 1 ≤ (takeV l).2.1 ∧ (takeV l).2.1 ≤ 8 ∧ (takeV l).2.1 ≤ l.length ∧ 0 ≤ (takeV l).1 ∧ (takeV l).1 < 4611686018427387904 := by
  cases l with
  | nil => cases h
  | cons x t =>
    have hz := vsize_le x
    by_cases h1 : t.length + 1 < vsize x
    · rw [takeV, if_pos h1] at h; cases h
    · rw [takeV, if_neg h1]
      have hv := vfold_lt x (t.take (vsize x - 1))
      have := Nat.pow_le_pow_right (n := 256) (by omega) (show (t.take (vsize x - 1)).length ≤ 7 by rw [List.length_take]; omega)
      dsimp only
      rw [List.length_cons]
      refine ⟨by omega, by omega, by omega, by omega, by omega⟩
theorem takeV_err (l : List UInt8) : (takeV l).2.2 = 0 ∨ (takeV l).2.2 = 3 := by
  cases l with
  | nil => exact .inr rfl
  | cons x t =>
    rw [takeV]
    split
    · exact .inr rfl
    · exact .inl rfl
set_option maxHeartbeats 2000000 in
theorem rdNext_c {B : Nat} {w0 : World} {G : List Hp} {R : Hp → List Hp} {l : List UInt8} {e : Int} {b : Nat} {c : Hp} (hsel : Sel G c R) (hO : RdAt l e b c) (hb : l.length ≤ 100000000) :
    Go.Sl.Fn Try.prog 91 #[.pointer (some ⟨b, 0, none⟩)] B w0 G fun u G' => ∃ c' : Hp, u = .tuple #[.int .u64 (nextM l e).v, .int .i64 (nextM l e).size, .bool (nextM l e).ok] ∧ RdAt (nextM l e).l (nextM l e).e b c' ∧ G' = R c' := by
  refine Fn.sel0 hsel fun F hR hF => ?_
  have hO' := hO
  obtain ⟨ao, cap, cd, rfl, hL⟩ := hO
  have htk := takeV_ok (l := l)
  have hte := takeV_err l
  refine fn_enter Try.func91 rfl (by kernel_rfl) Try.ntmps91 (by simp) ?_
  refine cw_split ?_
  refine Go.Sl.cw_seq ?_
  refine Go.Sl.cw_region ?_
  refine Go.Sl.ow_val rfl rfl (Go.Sl.v_assign rfl) ?_
  refine Go.Sl.ow_val rfl rfl (Go.Sl.v_assign rfl) ?_
  refine Go.Sl.ow_val rfl rfl (Go.Sl.v_assign rfl) ?_
  refine Go.Sl.ow_nil ?_
  refine Go.Sl.xw_then ?_
  refine Go.Sl.cw_seq ?_
  refine Go.Sl.cw_seq ?_
  refine Go.Sl.cw_region ?_
  refine Go.Sl.ow_val rfl rfl (Go.Sl.v_move rfl) ?_
  refine Go.Sl.ow_val rfl rfl (Go.Sl.v_eql_nil_some Try.underlying105 rfl) ?_
  refine Go.Sl.ow_val rfl rfl (Go.Sl.v_move rfl) ?_
  refine Go.Sl.ow_val rfl rfl (Go.Sl.v_move rfl) ?_
  refine Go.Sl.ow_val rfl rfl (Go.Sl.v_nilCheck rfl) ?_
  refine Go.Sl.ow_val rfl rfl (Go.Sl.v_fieldAddr0 Ty.fd142_1 rfl) ?_
  refine Go.Sl.ow_val rfl rfl (Go.Sl.v_load rfl (Go.Sl.Var.at1 Ty.sc37 .here (Go.Sl.GetN.lit rfl))) ?_
  refine Go.Sl.ow_val rfl rfl (Go.Sl.v_neq rfl rfl) ?_
  refine Go.Sl.ow_val rfl rfl (Go.Sl.v_pick_false rfl rfl) ?_
  refine Go.Sl.ow_nil ?_
  refine Go.Sl.xw_then ?_
  refine Go.Sl.cw_dec rfl (fun hc16 => ?_) (fun hc16 => ?_)
  refine Go.Sl.cw_seq ?_
  refine Go.Sl.cw_region ?_
  refine Go.Sl.ow_val rfl rfl (Go.Sl.v_assign rfl) ?_
  refine Go.Sl.ow_val rfl rfl (Go.Sl.v_assign rfl) ?_
  refine Go.Sl.ow_val rfl rfl (Go.Sl.v_assign rfl) ?_
  refine Go.Sl.ow_nil ?_
  refine Go.Sl.xw_then ?_
  refine Go.Sl.cw_ret ?_
  refine Go.Sl.xw_then_ret ?_
  refine Go.Sl.ret3 rfl (Go.Sl.res_tmp rfl) (Go.Sl.res_tmp rfl) (Go.Sl.res_tmp rfl) ?_
  rotate_left
  refine Go.Sl.cw_skip ?_
  refine Go.Sl.xw_then ?_
  rotate_left
  · exact ⟨[(b, .cells [.slice ao l.length cap, .int .i64 e].toArray 142 (0, 0))] ++ cd, by rw [nextM, if_pos hc16], by rw [nextM, if_pos hc16]; exact RdAt.of hL, (by first | exact Go.Sl.Cov.refl _ | (intro p; simp only [List.flatten_cons, List.flatten_nil, List.flatten_append, List.append_nil, List.nil_append, Go.Sl.cnt_append, Go.Sl.cnt_cons, Go.Sl.cnt_nil, List.set_cons_zero, List.set_cons_succ, List.length_nil, List.length_cons, Nat.zero_add, List.append]; omega))⟩
  have he : e = 0 := Decidable.not_not.1 hc16
  subst he
  refine Go.Sl.cw_seq ?_
  refine Go.Sl.cw_region ?_
  refine Go.Sl.ow_val rfl rfl (Go.Sl.v_move rfl) ?_
  refine Go.Sl.ow_val rfl rfl (Go.Sl.v_nilCheck rfl) ?_
  refine Go.Sl.ow_val rfl rfl (Go.Sl.v_fieldAddr0 Ty.fd142_0 rfl) ?_
  refine Go.Sl.ow_val rfl rfl (Go.Sl.v_load rfl (Go.Sl.Var.at1 Ty.sc23 .here (Go.Sl.GetN.lit rfl))) ?_
  refine Go.Sl.ow_val rfl rfl (Go.Sl.v_call rfl rfl (vintTake_c (hL.vw (by repeat (first | exact Go.Sl.Sub.here | assumption | refine Go.Sl.Sub.there ?_))) hb)) ?_
  refine Go.Sl.ow_val rfl rfl (Go.Sl.v_move rfl) ?_
  refine Go.Sl.ow_val rfl rfl (Go.Sl.v_extract rfl rfl) ?_
  refine Go.Sl.ow_val rfl rfl (Go.Sl.v_extract rfl rfl) ?_
  refine Go.Sl.ow_val rfl rfl (Go.Sl.v_extract rfl rfl) ?_
  refine Go.Sl.ow_val rfl rfl (Go.Sl.v_assign rfl) ?_
  refine Go.Sl.ow_val rfl rfl (Go.Sl.v_assign rfl) ?_
  refine Go.Sl.ow_val rfl rfl (Go.Sl.v_assign rfl) ?_
  refine Go.Sl.ow_nil ?_
  refine Go.Sl.xw_then ?_
  refine Go.Sl.cw_seq ?_
  refine Go.Sl.cw_seq ?_
  refine Go.Sl.cw_region ?_
  refine Go.Sl.ow_val rfl rfl (Go.Sl.v_move rfl) ?_
  refine Go.Sl.ow_val rfl rfl (Go.Sl.v_neq rfl rfl) ?_
  refine Go.Sl.ow_nil ?_
  refine Go.Sl.xw_then ?_
  refine Go.Sl.cw_dec rfl (fun hc27 => ?_) (fun hc27 => ?_)
  rotate_left
  refine Go.Sl.cw_skip ?_
  refine Go.Sl.xw_then ?_
  rotate_left
  · have hfl : ∀ {G : List Hp} {R : Hp → List Hp}, Sel G ([(b, .cells [.slice ao l.length cap, .int .i64 0].toArray 142 (0, 0))] ++ cd) R → Go.Sl.Fn Try.prog 68 #[.pointer (some ⟨b, 0, none⟩), .int .i64 (takeV l).2.2] B w0 G fun u G' => ∃ c' : Hp, u = .tuple #[] ∧ RdAt [] (takeV l).2.2 b c' ∧ G' = R c' := fun hs => by
      have h := rdFail_c (B := B) (w0 := w0) (k := (takeV l).2.2) hs (RdAt.of (e := 0) hL)
      rw [if_neg (by omega), if_neg (by omega)] at h
      exact h
    refine cw_flat (([(b, .cells [.slice ao l.length cap, .int .i64 0].toArray 142 (0, 0))] ++ cd) :: F) (.of_eq (by simp)) ?_
    refine Go.Sl.cw_seq ?_
    refine Go.Sl.cw_region ?_
    refine Go.Sl.ow_val rfl rfl (Go.Sl.v_move rfl) ?_
    refine Go.Sl.ow_val rfl rfl (Go.Sl.v_move rfl) ?_
    (refine Go.Sl.ow_call rfl rfl rfl rfl (hfl (by repeat (first | exact Go.Sl.Sel.here | apply Go.Sl.Sel.there))) ?_; rintro _ _ ⟨x30, rfl, hq30, rfl⟩)
    refine Go.Sl.ow_nil ?_
    refine Go.Sl.xw_then ?_
    refine Go.Sl.cw_seq ?_
    refine Go.Sl.cw_region ?_
    refine Go.Sl.ow_val rfl rfl (Go.Sl.v_assign rfl) ?_
    refine Go.Sl.ow_val rfl rfl (Go.Sl.v_assign rfl) ?_
    refine Go.Sl.ow_val rfl rfl (Go.Sl.v_assign rfl) ?_
    refine Go.Sl.ow_nil ?_
    refine Go.Sl.xw_then ?_
    refine Go.Sl.cw_ret ?_
    refine Go.Sl.xw_then_ret ?_
    refine Go.Sl.ret3 rfl (Go.Sl.res_tmp rfl) (Go.Sl.res_tmp rfl) (Go.Sl.res_tmp rfl) ?_
    exact ⟨x30, by rw [nextM, if_neg (by decide), if_pos hc27], by rw [nextM, if_neg (by decide), if_pos hc27]; exact hq30, (by first | exact Go.Sl.Cov.refl _ | (intro p; simp only [List.flatten_cons, List.flatten_nil, List.flatten_append, List.append_nil, List.nil_append, Go.Sl.cnt_append, Go.Sl.cnt_cons, Go.Sl.cnt_nil, List.set_cons_zero, List.set_cons_succ, List.length_nil, List.length_cons, Nat.zero_add, List.append]; omega))⟩
  · have h0 : (takeV l).2.2 = 0 := Decidable.not_not.1 hc27
    obtain ⟨t1, t2, t3, t4, t5⟩ := htk h0
    refine Go.Sl.cw_seq ?_
    refine Go.Sl.cw_region ?_
    refine Go.Sl.ow_val rfl rfl (Go.Sl.v_move rfl) ?_
    refine Go.Sl.ow_val rfl rfl (Go.Sl.v_move rfl) ?_
    refine Go.Sl.ow_val rfl rfl (Go.Sl.v_nilCheck rfl) ?_
    refine Go.Sl.ow_val rfl rfl (Go.Sl.v_fieldAddr0 Ty.fd142_0 rfl) ?_
    refine Go.Sl.ow_val rfl rfl (Go.Sl.v_load rfl (Go.Sl.Var.at1 Ty.sc23 .here (Go.Sl.GetN.lit rfl))) ?_
    refine Go.Sl.ow_val rfl rfl (Go.Sl.v_move rfl) ?_
    refine Go.Sl.ow_val rfl rfl (Go.Sl.v_slice_ln Try.underlying23 Ty.el23 rfl rfl (Int.toNat_of_nonneg (by omega)).symm (by omega)) ?_
    refine Go.Sl.ow_val rfl rfl (Go.Sl.v_nilCheck rfl) ?_
    refine Go.Sl.ow_val rfl rfl (Go.Sl.v_fieldAddr0 Ty.fd142_0 rfl) ?_
    refine Go.Sl.ow_store1 rfl rfl rfl rfl Ty.sc23 .here (Go.Sl.SetN.one (by first | decide | exact Nat.le_of_ble_eq_true rfl)) ?_
    refine Go.Sl.ow_nil ?_
    refine Go.Sl.xw_then ?_
    refine Go.Sl.cw_seq ?_
    refine Go.Sl.cw_region ?_
    refine Go.Sl.ow_val rfl rfl (Go.Sl.v_move rfl) ?_
    refine Go.Sl.ow_val rfl rfl (Go.Sl.v_move rfl) ?_
    refine Go.Sl.ow_val rfl rfl (Go.Sl.v_assign rfl) ?_
    refine Go.Sl.ow_val rfl rfl (Go.Sl.v_assign rfl) ?_
    refine Go.Sl.ow_val rfl rfl (Go.Sl.v_assign rfl) ?_
    refine Go.Sl.ow_nil ?_
    refine Go.Sl.xw_then ?_
    refine Go.Sl.cw_ret ?_
    refine Go.Sl.ret3 rfl (Go.Sl.res_tmp rfl) (Go.Sl.res_tmp rfl) (Go.Sl.res_tmp rfl) ?_
    have hLd := hL.drop vbTy (m := (takeV l).2.1.toNat) (by omega)
    exact ⟨[(b, .cells [.slice (cutA ao cap (takeV l).2.1.toNat 1) (l.length - (takeV l).2.1.toNat) (cap - (takeV l).2.1.toNat), .int .i64 0].toArray 142 (0, 0))] ++ cd, by rw [nextM, if_neg (by decide), if_neg hc27]; rfl, by rw [nextM, if_neg (by decide), if_neg hc27]; exact RdAt.of hLd, (by first | exact Go.Sl.Cov.refl _ | (intro p; simp only [List.flatten_cons, List.flatten_nil, List.flatten_append, List.append_nil, List.nil_append, Go.Sl.cnt_append, Go.Sl.cnt_cons, Go.Sl.cnt_nil, List.set_cons_zero, List.set_cons_succ, List.length_nil, List.length_cons, Nat.zero_add, List.append]; omega))⟩
theorem rdInt_c {B : Nat} {w0 : World} {G : List Hp} {R : Hp → List Hp} {l : List UInt8} {e : Int} {b : Nat} {c : Hp} (hsel : Sel G c R) (hO : RdAt l e b c) (hb : l.length ≤ 100000000) :
    Go.Sl.Fn Try.prog 93 #[.pointer (some ⟨b, 0, none⟩)] B w0 G fun u G' => ∃ c' : Hp, u = .int .u64 (nextM l e).v ∧ RdAt (nextM l e).l (nextM l e).e b c' ∧ G' = R c' := by
  refine Fn.sel0 hsel fun F hR hF => ?_
  refine fn_enter Try.func93 rfl (by kernel_rfl) Try.ntmps93 (by simp) ?_
  refine Go.Sl.cw_seq ?_
  refine Go.Sl.cw_region ?_
  refine Go.Sl.ow_val rfl rfl (Go.Sl.v_assign rfl) ?_
  refine Go.Sl.ow_nil ?_
  refine Go.Sl.xw_then ?_
  refine Go.Sl.cw_seq ?_
  refine Go.Sl.cw_region ?_
  refine Go.Sl.ow_val rfl rfl (Go.Sl.v_move rfl) ?_
  (refine Go.Sl.ow_call rfl rfl rfl rfl (rdNext_c (by repeat (first | exact Go.Sl.Sel.here | apply Go.Sl.Sel.there)) hO hb) ?_; rintro _ _ ⟨x8, rfl, hq8, rfl⟩)
  refine Go.Sl.ow_val rfl rfl (Go.Sl.v_move rfl) ?_
  refine Go.Sl.ow_val rfl rfl (Go.Sl.v_extract rfl rfl) ?_
  refine Go.Sl.ow_val rfl rfl (Go.Sl.v_extract rfl rfl) ?_
  refine Go.Sl.ow_val rfl rfl (Go.Sl.v_extract rfl rfl) ?_
  refine Go.Sl.ow_val rfl rfl (Go.Sl.v_assign rfl) ?_
  refine Go.Sl.ow_val rfl rfl (Go.Sl.v_assign rfl) ?_
  refine Go.Sl.ow_val rfl rfl (Go.Sl.v_assign rfl) ?_
  refine Go.Sl.ow_nil ?_
  refine Go.Sl.xw_then ?_
  refine Go.Sl.cw_seq ?_
  refine Go.Sl.cw_region ?_
  refine Go.Sl.ow_val rfl rfl (Go.Sl.v_move rfl) ?_
  refine Go.Sl.ow_val rfl rfl (Go.Sl.v_assign rfl) ?_
  refine Go.Sl.ow_nil ?_
  refine Go.Sl.xw_then ?_
  refine Go.Sl.cw_ret ?_
  refine Go.Sl.ret1 rfl (Go.Sl.res_tmp rfl) ?_
  exact ⟨x8, rfl, hq8, (by first | exact Go.Sl.Cov.refl _ | (intro p; simp only [List.flatten_cons, List.flatten_nil, List.flatten_append, List.append_nil, List.nil_append, Go.Sl.cnt_append, Go.Sl.cnt_cons, Go.Sl.cnt_nil, List.set_cons_zero, List.set_cons_succ, List.length_nil, List.length_cons, Nat.zero_add, List.append]; omega))⟩
/-- some bytes: what they are, what is left, error -/
def bytesM (l : List UInt8) (e n : Int) : List UInt8 × List UInt8 × Int := if e ≠ 0 then ([], l, e) else if n < 0 ∨ (l.length : Int) < n then ([], [], 3) else (l.take n.toNat, l.drop n.toNat, 0)
set_option maxHeartbeats 2000000 in
theorem rdBytes_c {B : Nat} {w0 : World} {G : List Hp} {R : Hp → List Hp} {l : List UInt8} {e n : Int} {b : Nat} {c : Hp} (hsel : Sel G c R) (hO : RdAt l e b c) (hb : l.length ≤ 100000000) :
    Go.Sl.Fn Try.prog 95 #[.pointer (some ⟨b, 0, none⟩), .int .i64 n] B w0 G fun u G' => ∃ x : Option Addr × Nat × Hp × Hp, u = .slice x.1 (bytesM l e n).1.length x.2.1 ∧ (Ls enB 5 (.slice x.1 (bytesM l e n).1.length x.2.1) x.2.2.1 (bytesM l e n).1 ∧ RdAt (bytesM l e n).2.1 (bytesM l e n).2.2 b x.2.2.2) ∧ G' = [x.2.2.1] ++ R x.2.2.2 := by
  refine Fn.sel (Γ := fun x : Option Addr × Nat × Hp × Hp => x.2.2.2) (Nw := fun x => [x.2.2.1]) hsel fun F hR hF => ?_
  obtain ⟨ao, cap, cd, rfl, hL⟩ := hO
  have hN : Ls enB 5 (.slice none 0 0) [] [] := Ls.nil
  have hcp : l.length ≤ cap := by
    obtain ⟨a', c', e', h'⟩ := hL.view
    injection e' with e1 e2 e3
    omega
  refine fn_enter Try.func95 rfl (by kernel_rfl) Try.ntmps95 (by simp) ?_
  refine cw_flat ([] :: [(b, .cells [.slice ao l.length cap, .int .i64 e].toArray 142 (0, 0))] :: cd :: F) (.of_eq (by simp)) ?_
  refine Go.Sl.cw_seq ?_
  refine Go.Sl.cw_region ?_
  refine Go.Sl.ow_val rfl rfl (Go.Sl.v_assign rfl) ?_
  refine Go.Sl.ow_nil ?_
  refine Go.Sl.xw_then ?_
  refine Go.Sl.cw_seq ?_
  refine Go.Sl.cw_seq ?_
  refine Go.Sl.cw_region ?_
  refine Go.Sl.ow_val rfl rfl (Go.Sl.v_move rfl) ?_
  refine Go.Sl.ow_val rfl rfl (Go.Sl.v_eql_nil_some Try.underlying105 rfl) ?_
  refine Go.Sl.ow_val rfl rfl (Go.Sl.v_move rfl) ?_
  refine Go.Sl.ow_val rfl rfl (Go.Sl.v_move rfl) ?_
  refine Go.Sl.ow_val rfl rfl (Go.Sl.v_nilCheck rfl) ?_
  refine Go.Sl.ow_val rfl rfl (Go.Sl.v_fieldAddr0 Ty.fd142_1 rfl) ?_
  refine Go.Sl.ow_val rfl rfl (Go.Sl.v_load rfl (Go.Sl.Var.at1 Ty.sc37 (.there .here) (Go.Sl.GetN.lit rfl))) ?_
  refine Go.Sl.ow_val rfl rfl (Go.Sl.v_neq rfl rfl) ?_
  refine Go.Sl.ow_val rfl rfl (Go.Sl.v_pick_false rfl rfl) ?_
  refine Go.Sl.ow_nil ?_
  refine Go.Sl.xw_then ?_
  refine Go.Sl.cw_dec rfl (fun hc14 => ?_) (fun hc14 => ?_)
  refine Go.Sl.cw_seq ?_
  refine Go.Sl.cw_region ?_
  refine Go.Sl.ow_val rfl rfl (Go.Sl.v_assign rfl) ?_
  refine Go.Sl.ow_nil ?_
  refine Go.Sl.xw_then ?_
  refine Go.Sl.cw_ret ?_
  refine Go.Sl.xw_then_ret ?_
  refine Go.Sl.ret1 rfl (Go.Sl.res_tmp rfl) ?_
  rotate_left
  refine Go.Sl.cw_skip ?_
  refine Go.Sl.xw_then ?_
  rotate_left
  · exact ⟨(none, 0, [], [(b, .cells [.slice ao l.length cap, .int .i64 e].toArray 142 (0, 0))] ++ cd), by rw [bytesM, if_pos hc14]; rfl, ⟨by rw [bytesM, if_pos hc14]; exact Ls.nil, by rw [bytesM, if_pos hc14]; exact RdAt.of hL⟩, (by first | exact Go.Sl.Cov.refl _ | (intro p; simp only [List.flatten_cons, List.flatten_nil, List.flatten_append, List.append_nil, List.nil_append, Go.Sl.cnt_append, Go.Sl.cnt_cons, Go.Sl.cnt_nil, List.set_cons_zero, List.set_cons_succ, List.length_nil, List.length_cons, Nat.zero_add, List.append]; omega))⟩
  have he : e = 0 := Decidable.not_not.1 hc14
  subst he
  have hfl : ∀ {G : List Hp} {R : Hp → List Hp}, Sel G ([(b, .cells [.slice ao l.length cap, .int .i64 0].toArray 142 (0, 0))] ++ cd) R → Go.Sl.Fn Try.prog 68 #[.pointer (some ⟨b, 0, none⟩), .int .i64 3] B w0 G fun u G' => ∃ c' : Hp, u = .tuple #[] ∧ RdAt [] 3 b c' ∧ G' = R c' := fun hs => by
    have h := rdFail_c (B := B) (w0 := w0) (k := 3) hs (RdAt.of (e := 0) hL)
    rw [if_neg (by omega), if_neg (by omega)] at h
    exact h
  refine Go.Sl.cw_seq ?_
  refine Go.Sl.cw_seq ?_
  refine Go.Sl.cw_region ?_
  refine Go.Sl.ow_val rfl rfl (Go.Sl.v_move rfl) ?_
  refine Go.Sl.ow_val rfl rfl (Go.Sl.v_lss rfl rfl) ?_
  refine Go.Sl.ow_val rfl rfl (Go.Sl.v_move rfl) ?_
  refine Go.Sl.ow_dec 17 rfl (fun hc17 => ?_) (fun hc17 => ?_)
  refine Go.Sl.ow_skip rfl rfl ?_
  refine Go.Sl.ow_skip rfl rfl ?_
  refine Go.Sl.ow_skip rfl rfl ?_
  refine Go.Sl.ow_skip rfl rfl ?_
  refine Go.Sl.ow_skip rfl rfl ?_
  refine Go.Sl.ow_skip rfl rfl ?_
  refine Go.Sl.ow_skip rfl rfl ?_
  refine Go.Sl.ow_val rfl rfl (Go.Sl.v_pick_true rfl rfl) ?_
  refine Go.Sl.ow_nil ?_
  refine Go.Sl.xw_then ?_
  refine Go.Sl.cw_true rfl ?_
  rotate_left
  refine Go.Sl.ow_val rfl rfl (Go.Sl.v_move rfl) ?_
  refine Go.Sl.ow_val rfl rfl (Go.Sl.v_move rfl) ?_
  refine Go.Sl.ow_val rfl rfl (Go.Sl.v_nilCheck rfl) ?_
  refine Go.Sl.ow_val rfl rfl (Go.Sl.v_fieldAddr0 Ty.fd142_0 rfl) ?_
  refine Go.Sl.ow_val rfl rfl (Go.Sl.v_load rfl (Go.Sl.Var.at1 Ty.sc23 (.there .here) (Go.Sl.GetN.lit rfl))) ?_
  refine Go.Sl.ow_val rfl rfl (Go.Sl.v_len rfl Try.underlying23 rfl) ?_
  refine Go.Sl.ow_val rfl rfl (Go.Sl.v_gtr rfl rfl) ?_
  refine Go.Sl.ow_val rfl rfl (Go.Sl.v_pick_false rfl rfl) ?_
  refine Go.Sl.ow_nil ?_
  refine Go.Sl.xw_then ?_
  refine Go.Sl.cw_dec rfl (fun hc25 => ?_) (fun hc25 => ?_)
  rotate_left
  refine Go.Sl.cw_skip ?_
  refine Go.Sl.xw_then ?_
  rotate_left
  · refine cw_flat (([(b, .cells [.slice ao l.length cap, .int .i64 0].toArray 142 (0, 0))] ++ cd) :: F) (.of_eq (by simp)) ?_
    refine Go.Sl.cw_seq ?_
    refine Go.Sl.cw_region ?_
    refine Go.Sl.ow_val rfl rfl (Go.Sl.v_move rfl) ?_
    (refine Go.Sl.ow_call rfl rfl rfl rfl (hfl (by repeat (first | exact Go.Sl.Sel.here | apply Go.Sl.Sel.there))) ?_; rintro _ _ ⟨x27, rfl, hq27, rfl⟩)
    refine Go.Sl.ow_nil ?_
    refine Go.Sl.xw_then ?_
    refine Go.Sl.cw_seq ?_
    refine Go.Sl.cw_region ?_
    refine Go.Sl.ow_val rfl rfl (Go.Sl.v_assign rfl) ?_
    refine Go.Sl.ow_nil ?_
    refine Go.Sl.xw_then ?_
    refine Go.Sl.cw_ret ?_
    refine Go.Sl.xw_then_ret ?_
    refine Go.Sl.ret1 rfl (Go.Sl.res_tmp rfl) ?_
    have hb : n < 0 ∨ (l.length : Int) < n := by omega
    exact ⟨(none, 0, [], x27), by rw [bytesM, if_neg (by decide), if_pos hb]; rfl, ⟨by rw [bytesM, if_neg (by decide), if_pos hb]; exact Ls.nil, by rw [bytesM, if_neg (by decide), if_pos hb]; exact hq27⟩, (by first | exact Go.Sl.Cov.refl _ | (intro p; simp only [List.flatten_cons, List.flatten_nil, List.flatten_append, List.append_nil, List.nil_append, Go.Sl.cnt_append, Go.Sl.cnt_cons, Go.Sl.cnt_nil, List.set_cons_zero, List.set_cons_succ, List.length_nil, List.length_cons, Nat.zero_add, List.append]; omega))⟩
  · refine cw_flat (([(b, .cells [.slice ao l.length cap, .int .i64 0].toArray 142 (0, 0))] ++ cd) :: F) (.of_eq (by simp)) ?_
    refine Go.Sl.cw_seq ?_
    refine Go.Sl.cw_region ?_
    refine Go.Sl.ow_val rfl rfl (Go.Sl.v_move rfl) ?_
    (refine Go.Sl.ow_call rfl rfl rfl rfl (hfl (by repeat (first | exact Go.Sl.Sel.here | apply Go.Sl.Sel.there))) ?_; rintro _ _ ⟨x27, rfl, hq27, rfl⟩)
    refine Go.Sl.ow_nil ?_
    refine Go.Sl.xw_then ?_
    refine Go.Sl.cw_seq ?_
    refine Go.Sl.cw_region ?_
    refine Go.Sl.ow_val rfl rfl (Go.Sl.v_assign rfl) ?_
    refine Go.Sl.ow_nil ?_
    refine Go.Sl.xw_then ?_
    refine Go.Sl.cw_ret ?_
    refine Go.Sl.xw_then_ret ?_
    refine Go.Sl.ret1 rfl (Go.Sl.res_tmp rfl) ?_
    have hb : n < 0 ∨ (l.length : Int) < n := by omega
    exact ⟨(none, 0, [], x27), by rw [bytesM, if_neg (by decide), if_pos hb]; rfl, ⟨by rw [bytesM, if_neg (by decide), if_pos hb]; exact Ls.nil, by rw [bytesM, if_neg (by decide), if_pos hb]; exact hq27⟩, (by first | exact Go.Sl.Cov.refl _ | (intro p; simp only [List.flatten_cons, List.flatten_nil, List.flatten_append, List.append_nil, List.nil_append, Go.Sl.cnt_append, Go.Sl.cnt_cons, Go.Sl.cnt_nil, List.set_cons_zero, List.set_cons_succ, List.length_nil, List.length_cons, Nat.zero_add, List.append]; omega))⟩
  · have hb2 : ¬ (n < 0 ∨ (l.length : Int) < n) := by omega
    have hm : n.toNat ≤ l.length := by omega
    have hlt : (l.take n.toNat).length = n.toNat := by rw [List.length_take]; omega
    have hT := hL.take vbTy hm
    have hLd := hL.drop vbTy hm
    refine Go.Sl.cw_seq ?_
    refine Go.Sl.cw_region ?_
    refine Go.Sl.ow_val rfl rfl (Go.Sl.v_move rfl) ?_
    refine Go.Sl.ow_val rfl rfl (Go.Sl.v_nilCheck rfl) ?_
    refine Go.Sl.ow_val rfl rfl (Go.Sl.v_fieldAddr0 Ty.fd142_0 rfl) ?_
    refine Go.Sl.ow_val rfl rfl (Go.Sl.v_load rfl (Go.Sl.Var.at1 Ty.sc23 (.there .here) (Go.Sl.GetN.lit rfl))) ?_
    refine Go.Sl.ow_val rfl rfl (Go.Sl.v_move rfl) ?_
    refine Go.Sl.ow_val rfl rfl (Go.Sl.v_slice_nh Try.underlying23 Ty.el23 rfl rfl (Int.toNat_of_nonneg (by omega)).symm (by omega)) ?_
    (refine Go.Sl.ow_appendL rfl rfl Try.underlying23 Try.underlying23 Ty.em23 (vbTy) rfl rfl (by assumption) (by repeat (first | exact Go.Sl.Sel.here | apply Go.Sl.Sel.there)) (hT.vw (by repeat (first | exact Go.Sl.Sub.here | assumption | refine Go.Sl.Sub.there ?_))) (by first | omega | (simp only [List.length_append, List.length_take, List.length_drop, List.length_nil, List.length_cons]; omega)) (by first | omega | (simp only [List.length_append, List.length_take, List.length_drop, List.length_nil, List.length_cons]; omega)) ?_; intro ao34 cap34 c34 hL34)
    refine Go.Sl.ow_val rfl rfl (Go.Sl.v_assign rfl) ?_
    refine Go.Sl.ow_nil ?_
    refine Go.Sl.xw_then ?_
    refine Go.Sl.cw_seq ?_
    refine Go.Sl.cw_region ?_
    refine Go.Sl.ow_val rfl rfl (Go.Sl.v_move rfl) ?_
    refine Go.Sl.ow_val rfl rfl (Go.Sl.v_move rfl) ?_
    refine Go.Sl.ow_val rfl rfl (Go.Sl.v_nilCheck rfl) ?_
    refine Go.Sl.ow_val rfl rfl (Go.Sl.v_fieldAddr0 Ty.fd142_0 rfl) ?_
    refine Go.Sl.ow_val rfl rfl (Go.Sl.v_load rfl (Go.Sl.Var.at1 Ty.sc23 (.there .here) (Go.Sl.GetN.lit rfl))) ?_
    refine Go.Sl.ow_val rfl rfl (Go.Sl.v_move rfl) ?_
    refine Go.Sl.ow_val rfl rfl (Go.Sl.v_slice_ln Try.underlying23 Ty.el23 rfl rfl (Int.toNat_of_nonneg (by omega)).symm (by omega)) ?_
    refine Go.Sl.ow_val rfl rfl (Go.Sl.v_nilCheck rfl) ?_
    refine Go.Sl.ow_val rfl rfl (Go.Sl.v_fieldAddr0 Ty.fd142_0 rfl) ?_
    refine Go.Sl.ow_store1 rfl rfl rfl rfl Ty.sc23 (.there .here) (Go.Sl.SetN.one (by first | decide | exact Nat.le_of_ble_eq_true rfl)) ?_
    refine Go.Sl.ow_nil ?_
    refine Go.Sl.xw_then ?_
    refine Go.Sl.cw_seq ?_
    refine Go.Sl.cw_region ?_
    refine Go.Sl.ow_val rfl rfl (Go.Sl.v_move rfl) ?_
    refine Go.Sl.ow_val rfl rfl (Go.Sl.v_assign rfl) ?_
    refine Go.Sl.ow_nil ?_
    refine Go.Sl.xw_then ?_
    refine Go.Sl.cw_ret ?_
    refine Go.Sl.ret1 rfl (Go.Sl.res_tmp rfl) ?_
    rw [List.nil_append] at hL34 ⊢
    exact ⟨(ao34, cap34, c34, [(b, .cells [.slice (cutA ao cap n.toNat 1) (l.length - n.toNat) (cap - n.toNat), .int .i64 0].toArray 142 (0, 0))] ++ cd), by rw [bytesM, if_neg (by decide), if_neg hb2], ⟨by rw [bytesM, if_neg (by decide), if_neg hb2]; exact hL34, by rw [bytesM, if_neg (by decide), if_neg hb2]; exact RdAt.of hLd⟩, (by first | exact Go.Sl.Cov.refl _ | (intro p; simp only [List.flatten_cons, List.flatten_nil, List.flatten_append, List.append_nil, List.nil_append, Go.Sl.cnt_append, Go.Sl.cnt_cons, Go.Sl.cnt_nil, List.set_cons_zero, List.set_cons_succ, List.length_nil, List.length_cons, Nat.zero_add, List.append]; omega))⟩
theorem bytesM_le {l : List UInt8} {e n : Int} : (bytesM l e n).1.length ≤ l.length ∧ (bytesM l e n).2.1.length ≤ l.length := by
  unfold bytesM
  split
  · simp
  · split
    · simp
    · simp [List.length_take, List.length_drop]; omega
theorem nextM_ok {l : List UInt8} {e : Int} (h : (nextM l e).ok = true) : (nextM l e).e = 0 ∧ 1 ≤ (nextM l e).size ∧ (nextM l e).size ≤ 8 ∧ 0 ≤ (nextM l e).v ∧ (nextM l e).v < 4611686018427387904 := by
  unfold nextM at h ⊢
  split
  · rename_i h1; rw [if_pos h1] at h; cases h
  · rename_i h1
    rw [if_neg h1] at h
    split
    · rename_i h2; rw [if_pos h2] at h; cases h
    · rename_i h2
      obtain ⟨t1, t2, t3, t4, t5⟩ := takeV_ok (Decidable.not_not.1 h2)
      exact ⟨rfl, t1, t2, t4, t5⟩
theorem nextM_le {l : List UInt8} {e : Int} : (nextM l e).l.length ≤ l.length := by
  unfold nextM
  split
  · simp
  · split
    · simp
    · simp [List.length_drop]
theorem rdByte_c {B : Nat} {w0 : World} {G : List Hp} {R : Hp → List Hp} {l : List UInt8} {e : Int} {b : Nat} {c : Hp} (hsel : Sel G c R) (hO : RdAt l e b c) (hb : l.length ≤ 100000000) :
    Go.Sl.Fn Try.prog 125 #[.pointer (some ⟨b, 0, none⟩)] B w0 G fun u G' => ∃ c' : Hp, u = .int .u8 ((bytesM l e 1).1.headD 0).toNat ∧ RdAt (bytesM l e 1).2.1 (bytesM l e 1).2.2 b c' ∧ G' = R c' := by
  refine Fn.sel0 hsel fun F hR hF => ?_
  refine fn_enter Try.func125 rfl (by kernel_rfl) Try.ntmps125 (by simp) ?_
  have hle := bytesM_le (l := l) (e := e) (n := 1)
  refine Go.Sl.cw_seq ?_
  refine Go.Sl.cw_region ?_
  refine Go.Sl.ow_val rfl rfl (Go.Sl.v_assign rfl) ?_
  refine Go.Sl.ow_nil ?_
  refine Go.Sl.xw_then ?_
  refine Go.Sl.cw_seq ?_
  refine Go.Sl.cw_region ?_
  refine Go.Sl.ow_val rfl rfl (Go.Sl.v_move rfl) ?_
  (refine Go.Sl.ow_call rfl rfl rfl rfl (rdBytes_c (by repeat (first | exact Go.Sl.Sel.here | apply Go.Sl.Sel.there)) hO hb) ?_; rintro _ _ ⟨x5, rfl, hq5, rfl⟩)
  refine Go.Sl.ow_val rfl rfl (Go.Sl.v_assign rfl) ?_
  refine Go.Sl.ow_nil ?_
  refine Go.Sl.xw_then ?_
  obtain ⟨ao5, cap5, c5, cr⟩ := x5
  obtain ⟨hL5, hO5⟩ := hq5
  dsimp only at hL5 hO5 ⊢
  generalize bytesM l e 1 = m at *
  obtain ⟨bs, l', e'⟩ := m
  dsimp only at hle hL5 hO5 ⊢
  cases bs with
  | nil =>
    refine Go.Sl.cw_seq ?_
    refine Go.Sl.cw_seq ?_
    refine Go.Sl.cw_region ?_
    refine Go.Sl.ow_val rfl rfl (Go.Sl.v_move rfl) ?_
    refine Go.Sl.ow_val rfl rfl (Go.Sl.v_len rfl Try.underlying23 rfl) ?_
    refine Go.Sl.ow_val rfl rfl (Go.Sl.v_eql rfl rfl) ?_
    refine Go.Sl.ow_nil ?_
    refine Go.Sl.xw_then ?_
    refine Go.Sl.cw_true rfl ?_
    refine Go.Sl.cw_seq ?_
    refine Go.Sl.cw_region ?_
    refine Go.Sl.ow_val rfl rfl (Go.Sl.v_assign rfl) ?_
    refine Go.Sl.ow_nil ?_
    refine Go.Sl.xw_then ?_
    refine Go.Sl.cw_ret ?_
    refine Go.Sl.xw_then_ret ?_
    refine Go.Sl.ret1 rfl (Go.Sl.res_tmp rfl) ?_
    exact ⟨cr, rfl, hO5, (by first | exact Go.Sl.Cov.refl _ | (intro p; simp only [List.flatten_cons, List.flatten_nil, List.flatten_append, List.append_nil, List.nil_append, Go.Sl.cnt_append, Go.Sl.cnt_cons, Go.Sl.cnt_nil, List.set_cons_zero, List.set_cons_succ, List.length_nil, List.length_cons, Nat.zero_add, List.append]; omega))⟩
  | cons x t =>
    have hlc : (x :: t).length = t.length + 1 := rfl
    refine Go.Sl.cw_seq ?_
    refine Go.Sl.cw_seq ?_
    refine Go.Sl.cw_region ?_
    refine Go.Sl.ow_val rfl rfl (Go.Sl.v_move rfl) ?_
    refine Go.Sl.ow_val rfl rfl (Go.Sl.v_len rfl Try.underlying23 rfl) ?_
    refine Go.Sl.ow_val rfl rfl (Go.Sl.v_eql rfl rfl) ?_
    refine Go.Sl.ow_nil ?_
    refine Go.Sl.xw_then ?_
    refine Go.Sl.cw_false rfl ?_
    refine Go.Sl.cw_skip ?_
    refine Go.Sl.xw_then ?_
    refine Go.Sl.cw_seq ?_
    refine Go.Sl.cw_region ?_
    refine Go.Sl.ow_val rfl rfl (Go.Sl.v_move rfl) ?_
    refine Go.Sl.ow_val rfl rfl (Go.Sl.v_indexAddr_ls (i := 0) Try.underlying23 (vbTy) rfl rfl (by assumption) rfl (by omega)) ?_
    refine Go.Sl.ow_val rfl rfl (Go.Sl.v_load rfl (Go.Sl.Vw.var (vbTy) (Go.Sl.Ls.vw (by assumption) (by repeat (first | exact Go.Sl.Sub.here | assumption | refine Go.Sl.Sub.there ?_))) (by omega))) ?_
    refine Go.Sl.ow_val rfl rfl (Go.Sl.v_assign rfl) ?_
    refine Go.Sl.ow_nil ?_
    refine Go.Sl.xw_then ?_
    refine Go.Sl.cw_ret ?_
    refine Go.Sl.ret1 rfl (Go.Sl.res_tmp rfl) ?_
    exact ⟨cr, rfl, hO5, (by first | exact Go.Sl.Cov.refl _ | (intro p; simp only [List.flatten_cons, List.flatten_nil, List.flatten_append, List.append_nil, List.nil_append, Go.Sl.cnt_append, Go.Sl.cnt_cons, Go.Sl.cnt_nil, List.set_cons_zero, List.set_cons_succ, List.length_nil, List.length_cons, Nat.zero_add, List.append]; omega))⟩
/-- a number that is not above k -/
def countM (l : List UInt8) (e k : Int) : Int × List UInt8 × Int := if (nextM l e).ok = true then (if max k 0 < (nextM l e).v then (0, [], 2) else ((nextM l e).v, (nextM l e).l, (nextM l e).e)) else (0, (nextM l e).l, (nextM l e).e)
theorem rdCount_c {B : Nat} {w0 : World} {G : List Hp} {R : Hp → List Hp} {l : List UInt8} {e k : Int} {b : Nat} {c : Hp} (hsel : Sel G c R) (hO : RdAt l e b c) (hb : l.length ≤ 100000000) (hk : -9223372036854775808 ≤ k ∧ k ≤ 9223372036854775807) :
    Go.Sl.Fn Try.prog 98 #[.pointer (some ⟨b, 0, none⟩), .int .i64 k] B w0 G fun u G' => ∃ c' : Hp, u = .int .i64 (countM l e k).1 ∧ RdAt (countM l e k).2.1 (countM l e k).2.2 b c' ∧ G' = R c' := by
  refine Fn.sel0 hsel fun F hR hF => ?_
  have hnk := nextM_ok (l := l) (e := e)
  refine fn_enter Try.func98 rfl (by kernel_rfl) Try.ntmps98 (by simp) ?_
  refine Go.Sl.cw_seq ?_
  refine Go.Sl.cw_region ?_
  refine Go.Sl.ow_val rfl rfl (Go.Sl.v_assign rfl) ?_
  refine Go.Sl.ow_nil ?_
  refine Go.Sl.xw_then ?_
  refine Go.Sl.cw_seq ?_
  refine Go.Sl.cw_region ?_
  refine Go.Sl.ow_val rfl rfl (Go.Sl.v_move rfl) ?_
  (refine Go.Sl.ow_call rfl rfl rfl rfl (rdNext_c (by repeat (first | exact Go.Sl.Sel.here | apply Go.Sl.Sel.there)) hO hb) ?_; rintro _ _ ⟨x10, rfl, hq10, rfl⟩)
  refine Go.Sl.ow_val rfl rfl (Go.Sl.v_move rfl) ?_
  refine Go.Sl.ow_val rfl rfl (Go.Sl.v_extract rfl rfl) ?_
  refine Go.Sl.ow_val rfl rfl (Go.Sl.v_extract rfl rfl) ?_
  refine Go.Sl.ow_val rfl rfl (Go.Sl.v_extract rfl rfl) ?_
  refine Go.Sl.ow_val rfl rfl (Go.Sl.v_assign rfl) ?_
  refine Go.Sl.ow_val rfl rfl (Go.Sl.v_assign rfl) ?_
  refine Go.Sl.ow_val rfl rfl (Go.Sl.v_assign rfl) ?_
  refine Go.Sl.ow_nil ?_
  refine Go.Sl.xw_then ?_
  refine Go.Sl.cw_seq ?_
  refine Go.Sl.cw_seq ?_
  refine Go.Sl.cw_region ?_
  refine Go.Sl.ow_val rfl rfl (Go.Sl.v_move rfl) ?_
  refine Go.Sl.ow_val rfl rfl (Go.Sl.v_not_bool rfl) ?_
  refine Go.Sl.ow_nil ?_
  refine Go.Sl.xw_then ?_
  refine Go.Sl.cw_bool rfl (fun hc15 => ?_) (fun hc15 => ?_)
  refine Go.Sl.cw_seq ?_
  refine Go.Sl.cw_region ?_
  refine Go.Sl.ow_val rfl rfl (Go.Sl.v_assign rfl) ?_
  refine Go.Sl.ow_nil ?_
  refine Go.Sl.xw_then ?_
  refine Go.Sl.cw_ret ?_
  refine Go.Sl.xw_then_ret ?_
  refine Go.Sl.ret1 rfl (Go.Sl.res_tmp rfl) ?_
  rotate_left
  refine Go.Sl.cw_skip ?_
  refine Go.Sl.xw_then ?_
  rotate_left
  · have hno : ¬ (nextM l e).ok = true := by
      intro h
      rw [h] at hc15
      cases hc15
    exact ⟨x10, by rw [countM, if_neg hno], by rw [countM, if_neg hno]; exact hq10, (by first | exact Go.Sl.Cov.refl _ | (intro p; simp only [List.flatten_cons, List.flatten_nil, List.flatten_append, List.append_nil, List.nil_append, Go.Sl.cnt_append, Go.Sl.cnt_cons, Go.Sl.cnt_nil, List.set_cons_zero, List.set_cons_succ, List.length_nil, List.length_cons, Nat.zero_add, List.append]; omega))⟩
  have hyes : (nextM l e).ok = true := by
    cases h : (nextM l e).ok with
    | true => rfl
    | false => rw [h] at hc15; cases hc15
  obtain ⟨t0, t1, t2, t3, t4⟩ := hnk hyes
  unfold countM
  rw [if_pos hyes]
  generalize nextM l e = q at *
  obtain ⟨v, sz, ok, l', e'⟩ := q
  dsimp only at t0 t1 t2 t3 t4 hyes hq10 ⊢
  subst t0
  have hfl : ∀ {G : List Hp} {R : Hp → List Hp}, Sel G x10 R → Go.Sl.Fn Try.prog 68 #[.pointer (some ⟨b, 0, none⟩), .int .i64 2] B w0 G fun u G' => ∃ c' : Hp, u = .tuple #[] ∧ RdAt [] 2 b c' ∧ G' = R c' := fun hs => by
    have h := rdFail_c (B := B) (w0 := w0) (k := 2) hs hq10
    rw [if_neg (by omega), if_neg (by omega)] at h
    exact h
  refine Go.Sl.cw_seq ?_
  refine Go.Sl.cw_seq ?_
  refine Go.Sl.cw_region ?_
  refine Go.Sl.ow_val rfl rfl (Go.Sl.v_move rfl) ?_
  refine Go.Sl.ow_val rfl rfl (Go.Sl.v_move rfl) ?_
  refine Go.Sl.ow_val rfl rfl (Go.Sl.v_max rfl rfl) ?_
  refine Go.Sl.ow_val rfl rfl (Go.Sl.v_convert Try.underlying3 Try.underlying22 rfl (Go.Sl.nw_u64 (by omega) (by omega))) ?_
  refine Go.Sl.ow_val rfl rfl (Go.Sl.v_gtr rfl rfl) ?_
  refine Go.Sl.ow_nil ?_
  refine Go.Sl.xw_then ?_
  refine Go.Sl.cw_dec rfl (fun hc20 => ?_) (fun hc20 => ?_)
  refine Go.Sl.cw_seq ?_
  refine Go.Sl.cw_region ?_
  refine Go.Sl.ow_val rfl rfl (Go.Sl.v_move rfl) ?_
  (refine Go.Sl.ow_call rfl rfl rfl rfl (hfl (by repeat (first | exact Go.Sl.Sel.here | apply Go.Sl.Sel.there))) ?_; rintro _ _ ⟨x22, rfl, hq22, rfl⟩)
  refine Go.Sl.ow_nil ?_
  refine Go.Sl.xw_then ?_
  refine Go.Sl.cw_seq ?_
  refine Go.Sl.cw_region ?_
  refine Go.Sl.ow_val rfl rfl (Go.Sl.v_assign rfl) ?_
  refine Go.Sl.ow_nil ?_
  refine Go.Sl.xw_then ?_
  refine Go.Sl.cw_ret ?_
  refine Go.Sl.xw_then_ret ?_
  refine Go.Sl.ret1 rfl (Go.Sl.res_tmp rfl) ?_
  rotate_left
  refine Go.Sl.cw_skip ?_
  refine Go.Sl.xw_then ?_
  refine Go.Sl.cw_seq ?_
  refine Go.Sl.cw_region ?_
  refine Go.Sl.ow_val rfl rfl (Go.Sl.v_move rfl) ?_
  refine Go.Sl.ow_val rfl rfl (Go.Sl.v_convert Try.underlying22 Try.underlying3 rfl (Go.Sl.nw_i64 (by omega) (by omega))) ?_
  refine Go.Sl.ow_val rfl rfl (Go.Sl.v_assign rfl) ?_
  refine Go.Sl.ow_nil ?_
  refine Go.Sl.xw_then ?_
  refine Go.Sl.cw_ret ?_
  refine Go.Sl.ret1 rfl (Go.Sl.res_tmp rfl) ?_
  rotate_left
  · rw [if_pos hc20]
    exact ⟨x22, rfl, hq22, (by first | exact Go.Sl.Cov.refl _ | (intro p; simp only [List.flatten_cons, List.flatten_nil, List.flatten_append, List.append_nil, List.nil_append, Go.Sl.cnt_append, Go.Sl.cnt_cons, Go.Sl.cnt_nil, List.set_cons_zero, List.set_cons_succ, List.length_nil, List.length_cons, Nat.zero_add, List.append]; omega))⟩
  · rw [if_neg hc20]
    exact ⟨x10, rfl, hq10, (by first | exact Go.Sl.Cov.refl _ | (intro p; simp only [List.flatten_cons, List.flatten_nil, List.flatten_append, List.append_nil, List.nil_append, Go.Sl.cnt_append, Go.Sl.cnt_cons, Go.Sl.cnt_nil, List.set_cons_zero, List.set_cons_succ, List.length_nil, List.length_cons, Nat.zero_add, List.append]; omega))⟩
/-- a number in the fewest bytes -/
def leastM (l : List UInt8) (e : Int) : Int × List UInt8 × Int := if (nextM l e).ok = true then (if (nextM l e).size ≠ (vlen (nextM l e).v : Nat) then (0, [], 4) else ((nextM l e).v, (nextM l e).l, (nextM l e).e)) else (0, (nextM l e).l, (nextM l e).e)
theorem rdLeast_c {B : Nat} {w0 : World} {G : List Hp} {R : Hp → List Hp} {l : List UInt8} {e : Int} {b : Nat} {c : Hp} (hsel : Sel G c R) (hO : RdAt l e b c) (hb : l.length ≤ 100000000) :
    Go.Sl.Fn Try.prog 66 #[.pointer (some ⟨b, 0, none⟩)] B w0 G fun u G' => ∃ c' : Hp, u = .int .u64 (leastM l e).1 ∧ RdAt (leastM l e).2.1 (leastM l e).2.2 b c' ∧ G' = R c' := by
  refine Fn.sel0 hsel fun F hR hF => ?_
  have hnk := nextM_ok (l := l) (e := e)
  refine fn_enter Try.func66 rfl (by kernel_rfl) Try.ntmps66 (by simp) ?_
  refine Go.Sl.cw_seq ?_
  refine Go.Sl.cw_region ?_
  refine Go.Sl.ow_val rfl rfl (Go.Sl.v_assign rfl) ?_
  refine Go.Sl.ow_nil ?_
  refine Go.Sl.xw_then ?_
  refine Go.Sl.cw_seq ?_
  refine Go.Sl.cw_region ?_
  refine Go.Sl.ow_val rfl rfl (Go.Sl.v_move rfl) ?_
  (refine Go.Sl.ow_call rfl rfl rfl rfl (rdNext_c (by repeat (first | exact Go.Sl.Sel.here | apply Go.Sl.Sel.there)) hO hb) ?_; rintro _ _ ⟨x8, rfl, hq8, rfl⟩)
  refine Go.Sl.ow_val rfl rfl (Go.Sl.v_move rfl) ?_
  refine Go.Sl.ow_val rfl rfl (Go.Sl.v_extract rfl rfl) ?_
  refine Go.Sl.ow_val rfl rfl (Go.Sl.v_extract rfl rfl) ?_
  refine Go.Sl.ow_val rfl rfl (Go.Sl.v_extract rfl rfl) ?_
  refine Go.Sl.ow_val rfl rfl (Go.Sl.v_assign rfl) ?_
  refine Go.Sl.ow_val rfl rfl (Go.Sl.v_assign rfl) ?_
  refine Go.Sl.ow_val rfl rfl (Go.Sl.v_assign rfl) ?_
  refine Go.Sl.ow_nil ?_
  refine Go.Sl.xw_then ?_
  refine Go.Sl.cw_seq ?_
  refine Go.Sl.cw_seq ?_
  refine Go.Sl.cw_region ?_
  refine Go.Sl.ow_val rfl rfl (Go.Sl.v_move rfl) ?_
  refine Go.Sl.ow_val rfl rfl (Go.Sl.v_not_bool rfl) ?_
  refine Go.Sl.ow_nil ?_
  refine Go.Sl.xw_then ?_
  refine Go.Sl.cw_bool rfl (fun hc13 => ?_) (fun hc13 => ?_)
  refine Go.Sl.cw_seq ?_
  refine Go.Sl.cw_region ?_
  refine Go.Sl.ow_val rfl rfl (Go.Sl.v_assign rfl) ?_
  refine Go.Sl.ow_nil ?_
  refine Go.Sl.xw_then ?_
  refine Go.Sl.cw_ret ?_
  refine Go.Sl.xw_then_ret ?_
  refine Go.Sl.ret1 rfl (Go.Sl.res_tmp rfl) ?_
  rotate_left
  refine Go.Sl.cw_skip ?_
  refine Go.Sl.xw_then ?_
  rotate_left
  · have hno : ¬ (nextM l e).ok = true := by
      intro h
      rw [h] at hc13
      cases hc13
    exact ⟨x8, by rw [leastM, if_neg hno], by rw [leastM, if_neg hno]; exact hq8, (by first | exact Go.Sl.Cov.refl _ | (intro p; simp only [List.flatten_cons, List.flatten_nil, List.flatten_append, List.append_nil, List.nil_append, Go.Sl.cnt_append, Go.Sl.cnt_cons, Go.Sl.cnt_nil, List.set_cons_zero, List.set_cons_succ, List.length_nil, List.length_cons, Nat.zero_add, List.append]; omega))⟩
  have hyes : (nextM l e).ok = true := by
    cases h : (nextM l e).ok with
    | true => rfl
    | false => rw [h] at hc13; cases hc13
  obtain ⟨t0, t1, t2, t3, t4⟩ := hnk hyes
  unfold leastM
  rw [if_pos hyes]
  generalize nextM l e = q at *
  obtain ⟨v, sz, ok, l', e'⟩ := q
  dsimp only at t0 t1 t2 t3 t4 hyes hq8 ⊢
  subst t0
  have hfl : ∀ {G : List Hp} {R : Hp → List Hp}, Sel G x8 R → Go.Sl.Fn Try.prog 68 #[.pointer (some ⟨b, 0, none⟩), .int .i64 4] B w0 G fun u G' => ∃ c' : Hp, u = .tuple #[] ∧ RdAt [] 4 b c' ∧ G' = R c' := fun hs => by
    have h := rdFail_c (B := B) (w0 := w0) (k := 4) hs hq8
    rw [if_neg (by omega), if_neg (by omega)] at h
    exact h
  refine Go.Sl.cw_seq ?_
  refine Go.Sl.cw_seq ?_
  refine Go.Sl.cw_region ?_
  refine Go.Sl.ow_val rfl rfl (Go.Sl.v_move rfl) ?_
  refine Go.Sl.ow_val rfl rfl (Go.Sl.v_move rfl) ?_
  refine Go.Sl.ow_val rfl rfl (Go.Sl.v_call rfl rfl (vintLen_c)) ?_
  refine Go.Sl.ow_val rfl rfl (Go.Sl.v_neq rfl rfl) ?_
  refine Go.Sl.ow_nil ?_
  refine Go.Sl.xw_then ?_
  refine Go.Sl.cw_dec rfl (fun hc17 => ?_) (fun hc17 => ?_)
  refine Go.Sl.cw_seq ?_
  refine Go.Sl.cw_region ?_
  refine Go.Sl.ow_val rfl rfl (Go.Sl.v_move rfl) ?_
  (refine Go.Sl.ow_call rfl rfl rfl rfl (hfl (by repeat (first | exact Go.Sl.Sel.here | apply Go.Sl.Sel.there))) ?_; rintro _ _ ⟨x19, rfl, hq19, rfl⟩)
  refine Go.Sl.ow_nil ?_
  refine Go.Sl.xw_then ?_
  refine Go.Sl.cw_seq ?_
  refine Go.Sl.cw_region ?_
  refine Go.Sl.ow_val rfl rfl (Go.Sl.v_assign rfl) ?_
  refine Go.Sl.ow_nil ?_
  refine Go.Sl.xw_then ?_
  refine Go.Sl.cw_ret ?_
  refine Go.Sl.xw_then_ret ?_
  refine Go.Sl.ret1 rfl (Go.Sl.res_tmp rfl) ?_
  rotate_left
  refine Go.Sl.cw_skip ?_
  refine Go.Sl.xw_then ?_
  refine Go.Sl.cw_seq ?_
  refine Go.Sl.cw_region ?_
  refine Go.Sl.ow_val rfl rfl (Go.Sl.v_move rfl) ?_
  refine Go.Sl.ow_val rfl rfl (Go.Sl.v_assign rfl) ?_
  refine Go.Sl.ow_nil ?_
  refine Go.Sl.xw_then ?_
  refine Go.Sl.cw_ret ?_
  refine Go.Sl.ret1 rfl (Go.Sl.res_tmp rfl) ?_
  rotate_left
  · rw [if_pos hc17]
    exact ⟨x19, rfl, hq19, (by first | exact Go.Sl.Cov.refl _ | (intro p; simp only [List.flatten_cons, List.flatten_nil, List.flatten_append, List.append_nil, List.nil_append, Go.Sl.cnt_append, Go.Sl.cnt_cons, Go.Sl.cnt_nil, List.set_cons_zero, List.set_cons_succ, List.length_nil, List.length_cons, Nat.zero_add, List.append]; omega))⟩
  · rw [if_neg hc17]
    exact ⟨x8, rfl, hq8, (by first | exact Go.Sl.Cov.refl _ | (intro p; simp only [List.flatten_cons, List.flatten_nil, List.flatten_append, List.append_nil, List.nil_append, Go.Sl.cnt_append, Go.Sl.cnt_cons, Go.Sl.cnt_nil, List.set_cons_zero, List.set_cons_succ, List.length_nil, List.length_cons, Nat.zero_add, List.append]; omega))⟩
theorem countM_le {l : List UInt8} {e k : Int} (hk : k ≤ 9223372036854775807) : (countM l e k).2.1.length ≤ l.length ∧ 0 ≤ (countM l e k).1 ∧ (countM l e k).1 ≤ max k 0 := by
  have h := nextM_le (l := l) (e := e)
  have h2 := nextM_ok (l := l) (e := e)
  unfold countM
  split
  · rename_i h1
    have := h2 h1
    split
    · simp; omega
    · exact ⟨h, by dsimp only; omega, by dsimp only; omega⟩
  · exact ⟨h, by dsimp only; omega, by dsimp only; omega⟩
/-- bytes behind their count -/
def longM (l : List UInt8) (e k : Int) : List UInt8 × List UInt8 × Int := bytesM (countM l e k).2.1 (countM l e k).2.2 (countM l e k).1
theorem rdLong_c {B : Nat} {w0 : World} {G : List Hp} {R : Hp → List Hp} {l : List UInt8} {e k : Int} {b : Nat} {c : Hp} (hsel : Sel G c R) (hO : RdAt l e b c) (hb : l.length ≤ 100000000) (hk : -9223372036854775808 ≤ k ∧ k ≤ 9223372036854775807) :
    Go.Sl.Fn Try.prog 94 #[.pointer (some ⟨b, 0, none⟩), .int .i64 k] B w0 G fun u G' => ∃ x : Option Addr × Nat × Hp × Hp, u = .slice x.1 (longM l e k).1.length x.2.1 ∧ (Ls enB 5 (.slice x.1 (longM l e k).1.length x.2.1) x.2.2.1 (longM l e k).1 ∧ RdAt (longM l e k).2.1 (longM l e k).2.2 b x.2.2.2) ∧ G' = [x.2.2.1] ++ R x.2.2.2 := by
  refine Fn.sel (Γ := fun x : Option Addr × Nat × Hp × Hp => x.2.2.2) (Nw := fun x => [x.2.2.1]) hsel fun F hR hF => ?_
  have hcl := countM_le (l := l) (e := e) (k := k) hk.2
  refine fn_enter Try.func94 rfl (by kernel_rfl) Try.ntmps94 (by simp) ?_
  refine Go.Sl.cw_seq ?_
  refine Go.Sl.cw_region ?_
  refine Go.Sl.ow_val rfl rfl (Go.Sl.v_assign rfl) ?_
  refine Go.Sl.ow_nil ?_
  refine Go.Sl.xw_then ?_
  refine Go.Sl.cw_seq ?_
  refine Go.Sl.cw_region ?_
  refine Go.Sl.ow_val rfl rfl (Go.Sl.v_move rfl) ?_
  refine Go.Sl.ow_val rfl rfl (Go.Sl.v_move rfl) ?_
  refine Go.Sl.ow_val rfl rfl (Go.Sl.v_move rfl) ?_
  (refine Go.Sl.ow_call rfl rfl rfl rfl (rdCount_c (by repeat (first | exact Go.Sl.Sel.here | apply Go.Sl.Sel.there)) hO hb hk) ?_; rintro _ _ ⟨x8, rfl, hq8, rfl⟩)
  (refine Go.Sl.ow_call rfl rfl rfl rfl (rdBytes_c (by repeat (first | exact Go.Sl.Sel.here | apply Go.Sl.Sel.there)) (by assumption) (by omega)) ?_; rintro _ _ ⟨x9, rfl, hq9, rfl⟩)
  refine Go.Sl.ow_val rfl rfl (Go.Sl.v_assign rfl) ?_
  refine Go.Sl.ow_nil ?_
  refine Go.Sl.xw_then ?_
  refine Go.Sl.cw_ret ?_
  refine Go.Sl.ret1 rfl (Go.Sl.res_tmp rfl) ?_
  exact ⟨x9, rfl, hq9, (by first | exact Go.Sl.Cov.refl _ | (intro p; simp only [List.flatten_cons, List.flatten_nil, List.flatten_append, List.append_nil, List.nil_append, Go.Sl.cnt_append, Go.Sl.cnt_cons, Go.Sl.cnt_nil, List.set_cons_zero, List.set_cons_succ, List.length_nil, List.length_cons, Nat.zero_add, List.append]; omega))⟩
end Go.Proofs.Ytckdhelnafjddaa
