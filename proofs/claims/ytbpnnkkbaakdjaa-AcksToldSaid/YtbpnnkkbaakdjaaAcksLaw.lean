/- The laws of package acks: their fixed fact. Conditions: none. -/
import Derived.Test.YtbpnnkkbaakdjaaAcksAdd
import Derived.Test.YtbpnnkkbaakdjaaMap
namespace Go.Proofs.Ytbpnnkkbaakdjaa
open Go Go.Sl Go.Proofs
set_option maxRecDepth 20000
set_option linter.unusedVariables false
set_option linter.unusedSimpArgs false

def came0 : CameM := ⟨1000, [], 0, false, 0, 0, false, 0⟩
def came1 : CameM := ⟨1000, [⟨0, 1⟩], 0, true, 0, 5, true, 1005⟩
def came2 : CameM := ⟨1000, [⟨0, 2⟩], 0, true, 1, 6, true, 6⟩
theorem came01 : came0.add 0 5 true = (came1, 0) := by rfl
theorem came12 : came1.add 1 6 true = (came2, 0) := by rfl
theorem came0w : came0.WF := ⟨Good.nil, by simp [came0], by simp [came0]⟩
theorem came1w : came1.WF := ⟨⟨by simp [came1, RgOk], by simp [came1]⟩, by simp [came1], by simp [came1]⟩
theorem acksAwake_c {B : Nat} {w0 : World} {G : List Hp} :
    Go.Sl.Fn Try.prog 48 #[] B w0 G fun u G' => u = .bool true ∧ G' = G := by
  refine Fn.pure ?_
  have a1 : ∀ {G : List Hp} {R : Hp → List Hp} {b : Nat} {c : Hp}, CameAt came0 b c → Sel G c R → Go.Sl.Fn Try.prog 50 #[.pointer (some ⟨b, 0, none⟩), .int .u64 0, .int .u64 5, .bool true] B w0 G fun u G' => ∃ c' : Hp, u = .int .i64 0 ∧ CameAt came1 b c' ∧ G' = R c' := fun hO hs => by
    have h := acksAdd_c (B := B) (w0 := w0) (n := 0) (now := 5) (el := true) hs hO came0w (by decide) (by decide)
    rw [came01] at h
    exact h
  have a2 : ∀ {G : List Hp} {R : Hp → List Hp} {b : Nat} {c : Hp}, CameAt came1 b c → Sel G c R → Go.Sl.Fn Try.prog 50 #[.pointer (some ⟨b, 0, none⟩), .int .u64 1, .int .u64 6, .bool true] B w0 G fun u G' => ∃ c' : Hp, u = .int .i64 0 ∧ CameAt came2 b c' ∧ G' = R c' := fun hO hs => by
    have h := acksAdd_c (B := B) (w0 := w0) (n := 1) (now := 6) (el := true) hs hO came1w (by decide) (by decide)
    rw [came12] at h
    exact h
  refine fn_enter Try.func48 rfl (by kernel_rfl) Try.ntmps48 (by simp) ?_
  refine Go.Sl.cw_seq ?_
  refine Go.Sl.cw_region ?_
  refine Go.Sl.ow_val rfl rfl (Go.Sl.v_assign rfl) ?_
  refine Go.Sl.ow_nil ?_
  refine Go.Sl.xw_then ?_
  refine Go.Sl.cw_seq ?_
  refine Go.Sl.cw_region ?_
  (refine Go.Sl.ow_call rfl rfl rfl rfl (newAcks_c) ?_; rintro _ _ ⟨x6, rfl, hq6, rfl⟩)
  refine Go.Sl.ow_val rfl rfl (Go.Sl.v_assign rfl) ?_
  refine Go.Sl.ow_nil ?_
  refine Go.Sl.xw_then ?_
  have hq0 : CameAt came0 x6.1 x6.2 := hq6
  refine Go.Sl.cw_seq ?_
  refine Go.Sl.cw_region ?_
  refine Go.Sl.ow_val rfl rfl (Go.Sl.v_move rfl) ?_
  (refine Go.Sl.ow_call rfl rfl rfl rfl (a1 hq0 (by repeat (first | exact Go.Sl.Sel.here | apply Go.Sl.Sel.there))) ?_; rintro _ _ ⟨x8, rfl, hq8, rfl⟩)
  refine Go.Sl.ow_val rfl rfl (Go.Sl.v_assign rfl) ?_
  refine Go.Sl.ow_nil ?_
  refine Go.Sl.xw_then ?_
  refine Go.Sl.cw_seq ?_
  refine Go.Sl.cw_region ?_
  refine Go.Sl.ow_val rfl rfl (Go.Sl.v_move rfl) ?_
  (refine Go.Sl.ow_call rfl rfl rfl rfl (a2 (by assumption) (by repeat (first | exact Go.Sl.Sel.here | apply Go.Sl.Sel.there))) ?_; rintro _ _ ⟨x10, rfl, hq10, rfl⟩)
  refine Go.Sl.ow_val rfl rfl (Go.Sl.v_assign rfl) ?_
  refine Go.Sl.ow_nil ?_
  refine Go.Sl.xw_then ?_
  have hdue : ∀ {G : List Hp}, Go.Sl.Sub x10 G → Go.Sl.Fn Try.prog 54 #[.pointer (some ⟨x6.1, 0, none⟩)] B w0 G fun u G' => u = .tuple #[.int .u64 6, .bool true] ∧ G' = G := fun hs => acksDue_c hq10 hs
  refine Go.Sl.cw_seq ?_
  refine Go.Sl.cw_region ?_
  refine Go.Sl.ow_val rfl rfl (Go.Sl.v_move rfl) ?_
  refine Go.Sl.ow_val rfl rfl (Go.Sl.v_call rfl rfl (hdue (by repeat (first | exact Go.Sl.Sub.here | assumption | refine Go.Sl.Sub.there ?_)))) ?_
  refine Go.Sl.ow_val rfl rfl (Go.Sl.v_move rfl) ?_
  refine Go.Sl.ow_val rfl rfl (Go.Sl.v_extract rfl rfl) ?_
  refine Go.Sl.ow_val rfl rfl (Go.Sl.v_extract rfl rfl) ?_
  refine Go.Sl.ow_val rfl rfl (Go.Sl.v_assign rfl) ?_
  refine Go.Sl.ow_val rfl rfl (Go.Sl.v_assign rfl) ?_
  refine Go.Sl.ow_nil ?_
  refine Go.Sl.xw_then ?_
  refine Go.Sl.cw_seq ?_
  refine Go.Sl.cw_region ?_
  refine Go.Sl.ow_val rfl rfl (Go.Sl.v_move rfl) ?_
  refine Go.Sl.ow_val rfl rfl (Go.Sl.v_eql rfl rfl) ?_
  refine Go.Sl.ow_val rfl rfl (Go.Sl.v_move rfl) ?_
  refine Go.Sl.ow_dec 18 rfl (fun hc18 => ?_) (fun hc18 => ?_)
  rotate_left; (exfalso; omega); rotate_right
  refine Go.Sl.ow_val rfl rfl (Go.Sl.v_move rfl) ?_
  refine Go.Sl.ow_val rfl rfl (Go.Sl.v_eql rfl rfl) ?_
  refine Go.Sl.ow_val rfl rfl (Go.Sl.v_pick_true rfl rfl) ?_
  refine Go.Sl.ow_val rfl rfl (Go.Sl.v_move rfl) ?_
  refine Go.Sl.ow_dec 22 rfl (fun hc22 => ?_) (fun hc22 => ?_)
  rotate_left; (exfalso; omega); rotate_right
  refine Go.Sl.ow_val rfl rfl (Go.Sl.v_move rfl) ?_
  refine Go.Sl.ow_val rfl rfl (Go.Sl.v_pick_true rfl rfl) ?_
  refine Go.Sl.ow_val rfl rfl (Go.Sl.v_move rfl) ?_
  refine Go.Sl.ow_val rfl rfl (Go.Sl.v_move rfl) ?_
  refine Go.Sl.ow_val rfl rfl (Go.Sl.v_eql rfl rfl) ?_
  refine Go.Sl.ow_val rfl rfl (Go.Sl.v_pick_true rfl rfl) ?_
  refine Go.Sl.ow_val rfl rfl (Go.Sl.v_assign rfl) ?_
  refine Go.Sl.ow_nil ?_
  refine Go.Sl.xw_then ?_
  refine Go.Sl.cw_ret ?_
  refine Go.Sl.ret1 rfl (Go.Sl.res_tmp rfl) ?_
  all_goals first
    | exact absurd rfl hc27
    | exact absurd rfl hc20
    | exact absurd rfl hc17
    | exact ⟨rfl, (by first | exact Go.Sl.Cov.refl _ | (intro p; simp only [List.flatten_cons, List.flatten_nil, List.flatten_append, List.append_nil, List.nil_append, Go.Sl.cnt_append, Go.Sl.cnt_cons, Go.Sl.cnt_nil, List.set_cons_zero, List.set_cons_succ, List.length_nil, List.length_cons, Nat.zero_add, List.append]; omega))⟩
end Go.Proofs.Ytbpnnkkbaakdjaa
