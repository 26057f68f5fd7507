/- A frame's bytes; put; many, one behind the other. Conditions: numbers fit their types. -/
import Derived.Test.YtckdhelnafjddaaFrWr
namespace Go.Proofs.Ytckdhelnafjddaa
open Go Go.Sl Go.Proofs Go.RowKit Go.ChangeShapes Go.WideShapes Go.ChangeAt
set_option maxRecDepth 20000
set_option linter.unusedVariables false
set_option linter.unusedSimpArgs false

theorem v_extractL {P : Program} {S : World → Prop} {N : Nat} {E : Env} {ty : TypeId} {x : Operand} {vs : List Value} {i : Nat} {v : Value} (hx : Env.ev E x = some (.tuple vs.toArray)) (hv : vs[i]? = some v) : OpV P S N E (.extract x i) ty v := Go.Sl.v_extract hx (by simpa using hv)
theorem encoded_c {B : Nat} {w0 : World} {G : List Hp} {f : FrM} {p : FrP} (hok : f.ok) (hV : FrIn (St B w0 G) f p) (hr : f.rg.length ≤ 9223372036854775807) (hd : f.data.length ≤ 9223372036854775807) (hi : f.id.length ≤ 9223372036854775807) :
    Go.Sl.Fn Try.prog 40 #[.agg (f.cells p).toArray] B w0 G fun u G' => ∃ x : List UInt8 × Int × Option Addr × Nat × Hp, u = .tuple #[.slice x.2.2.1 x.1.length x.2.2.2.1, .int .i64 x.2.1] ∧ ((x.2.1 = 0 ↔ CanF f) ∧ (x.2.1 = 0 → x.1 = encF f) ∧ x.1.length ≤ 2000 ∧ Ls enB 5 (.slice x.2.2.1 x.1.length x.2.2.2.1) x.2.2.2.2 x.1) ∧ G' = [x.2.2.2.2] ++ G := by
  refine Fn.new (V := fun x : List UInt8 × Int × Option Addr × Nat × Hp => .tuple #[.slice x.2.2.1 x.1.length x.2.2.2.1, .int .i64 x.2.1]) (Nw := fun x => [x.2.2.2.2]) ?_
  have hlen : (f.cells p).length = 39 := FrM.cells_len hok
  refine fn_enter Try.func40 rfl (by kernel_rfl) Try.ntmps40 (by simp) ?_
  refine Go.Sl.cw_seq ?_
  refine Go.Sl.cw_region ?_
  (refine Go.Sl.ow_box rfl rfl rfl rfl ?_; intro b1)
  refine Go.Sl.ow_val rfl rfl (Go.Sl.v_assign rfl) ?_
  refine Go.Sl.ow_val rfl rfl (Go.Sl.v_assign rfl) ?_
  refine Go.Sl.ow_nil ?_
  refine Go.Sl.xw_then ?_
  refine Go.Sl.cw_seq ?_
  refine Go.Sl.cw_seq ?_
  refine Go.Sl.cw_region ?_
  refine Go.Sl.ow_val rfl rfl (Go.Sl.v_load rfl (Go.Sl.Var.atN Ty.ag30 .here Go.Sl.GetN.all (by first | rfl | assumption))) ?_
  (refine Go.Sl.ow_call rfl rfl rfl rfl (check_c hok (hV.cov (by first | exact Go.Sl.Cov.refl _ | (intro p; simp only [List.flatten_cons, List.flatten_nil, List.flatten_append, List.append_nil, List.nil_append, Go.Sl.cnt_append, Go.Sl.cnt_cons, Go.Sl.cnt_nil, List.set_cons_zero, List.set_cons_succ, List.length_nil, List.length_cons, Nat.zero_add, List.append]; omega))) hr hd hi) ?_; rintro _ _ ⟨x7, rfl, hq7, rfl⟩)
  refine Go.Sl.ow_val rfl rfl (Go.Sl.v_assign rfl) ?_
  refine Go.Sl.ow_nil ?_
  refine Go.Sl.xw_then ?_
  refine Go.Sl.cw_seq ?_
  refine Go.Sl.cw_region ?_
  refine Go.Sl.ow_val rfl rfl (Go.Sl.v_move rfl) ?_
  refine Go.Sl.ow_val rfl rfl (Go.Sl.v_neq rfl rfl) ?_
  refine Go.Sl.ow_nil ?_
  refine Go.Sl.xw_then ?_
  refine Go.Sl.cw_dec rfl (fun hc9 => ?_) (fun hc9 => ?_)
  refine Go.Sl.cw_seq ?_
  refine Go.Sl.cw_region ?_
  refine Go.Sl.ow_val rfl rfl (Go.Sl.v_move rfl) ?_
  refine Go.Sl.ow_val rfl rfl (Go.Sl.v_assign rfl) ?_
  refine Go.Sl.ow_val rfl rfl (Go.Sl.v_assign rfl) ?_
  refine Go.Sl.ow_nil ?_
  refine Go.Sl.xw_then ?_
  refine Go.Sl.cw_ret ?_
  refine Go.Sl.xw_then_ret ?_
  refine Go.Sl.ret2 rfl (Go.Sl.res_tmp rfl) (Go.Sl.res_tmp rfl) ?_
  rotate_left
  refine Go.Sl.cw_skip ?_
  refine Go.Sl.xw_then ?_
  rotate_left
  · have hn : ¬ Chk f := fun h => hc9 (hq7.2 h)
    exact ⟨([], x7, none, 0, []), rfl, ⟨⟨fun h => absurd h hc9, fun h => absurd h.1 hn⟩, fun h => absurd h hc9, by simp, Ls.nil⟩, (by first | exact Go.Sl.Cov.refl _ | (intro p; simp only [List.flatten_cons, List.flatten_nil, List.flatten_append, List.append_nil, List.nil_append, Go.Sl.cnt_append, Go.Sl.cnt_cons, Go.Sl.cnt_nil, List.set_cons_zero, List.set_cons_succ, List.length_nil, List.length_cons, Nat.zero_add, List.append]; omega))⟩
  have h7 : x7 = 0 := Decidable.not_not.1 hc9
  have hck : Chk f := hq7.1 h7
  have hel := encF_le hck hok
  refine Go.Sl.cw_seq ?_
  refine Go.Sl.cw_region ?_
  (refine Go.Sl.ow_alloc rfl rfl Ty.ze136 ?_; intro b5)
  refine Go.Sl.ow_nil ?_
  refine Go.Sl.xw_then ?_
  have hW : WrAt [] 0 b5 ([(b5, .cells [.slice none 0 0, .int .i64 0].toArray 136 (0, 0))] ++ []) := ⟨none, 0, [], rfl, Ls.nil⟩
  refine cw_flat (([(b5, .cells [.slice none 0 0, .int .i64 0].toArray 136 (0, 0))] ++ []) :: [(b1, .cells (f.cells p).toArray 30 (0, 0))] :: G) (.of_eq (by simp)) ?_
  have hel2 : (wAll ([], 0) f).1.length ≤ 2000 := hel
  refine Go.Sl.cw_seq ?_
  refine Go.Sl.cw_region ?_
  refine Go.Sl.ow_val rfl rfl (Go.Sl.v_load rfl (Go.Sl.Var.atN Ty.ag30 (.there .here) Go.Sl.GetN.all (by first | rfl | assumption))) ?_
  (refine Go.Sl.ow_call rfl rfl rfl rfl (write_c (by repeat (first | exact Go.Sl.Sel.here | apply Go.Sl.Sel.there)) hW hok hck (fun c' => hV.cov (by first | exact Go.Sl.Cov.refl _ | (intro p; simp only [List.flatten_cons, List.flatten_nil, List.flatten_append, List.append_nil, List.nil_append, Go.Sl.cnt_append, Go.Sl.cnt_cons, Go.Sl.cnt_nil, List.set_cons_zero, List.set_cons_succ, List.length_nil, List.length_cons, Nat.zero_add, List.append]; omega)))) ?_; rintro _ _ ⟨x12, rfl, hq12, rfl⟩)
  refine Go.Sl.ow_nil ?_
  refine Go.Sl.xw_then ?_
  refine Go.Sl.cw_seq ?_
  refine Go.Sl.cw_region ?_
  (refine Go.Sl.ow_call rfl rfl rfl rfl (wrDone_c hq12 (by repeat (first | exact Go.Sl.Sub.here | assumption | refine Go.Sl.Sub.there ?_)) (by omega)) ?_; rintro _ _ ⟨x13, rfl, hq13, rfl⟩)
  refine Go.Sl.ow_val rfl rfl (v_extractL rfl rfl) ?_
  refine Go.Sl.ow_val rfl rfl (v_extractL rfl rfl) ?_
  refine Go.Sl.ow_val rfl rfl (Go.Sl.v_assign rfl) ?_
  refine Go.Sl.ow_val rfl rfl (Go.Sl.v_assign rfl) ?_
  refine Go.Sl.ow_nil ?_
  refine Go.Sl.xw_then ?_
  refine Go.Sl.cw_ret ?_
  refine Go.Sl.ret2 rfl (Go.Sl.res_tmp rfl) (Go.Sl.res_tmp rfl) ?_
  have hl0 : (if (wAll ([], 0) f).2 = 0 then (wAll ([], 0) f).1 else []).length ≤ 2000 := by
    split
    · exact hel2
    · simp
  exact ⟨(if (wAll ([], 0) f).2 = 0 then (wAll ([], 0) f).1 else [], (wAll ([], 0) f).2, x13.1, x13.2.1, x13.2.2), rfl, ⟨⟨fun h => ⟨hck, h⟩, fun h => h.2⟩, fun h => if_pos h, hl0, hq13⟩, (by first | exact Go.Sl.Cov.refl _ | (intro p; simp only [List.flatten_cons, List.flatten_nil, List.flatten_append, List.append_nil, List.nil_append, Go.Sl.cnt_append, Go.Sl.cnt_cons, Go.Sl.cnt_nil, List.set_cons_zero, List.set_cons_succ, List.length_nil, List.length_cons, Nat.zero_add, List.append]; omega))⟩

/-! ### slices.Concat, of a nil list and another one -/
theorem growB_c {B : Nat} {w0 : World} {G : List Hp} {n : Nat} (hn : n ≤ 100000) :
    Go.Sl.Fn Try.prog 65 #[.slice none 0 0, .int .i64 n] B w0 G fun u G' => ∃ x : Option Addr × Nat × Hp, u = .slice x.1 0 x.2.1 ∧ Ls enB 5 (.slice x.1 0 x.2.1) x.2.2 [] ∧ G' = [x.2.2] ++ G := by
  refine Fn.new (V := fun x : Option Addr × Nat × Hp => .slice x.1 0 x.2.1) (Nw := fun x => [x.2.2]) ?_
  refine fn_enter Try.func65 rfl (by kernel_rfl) Try.ntmps65 (by simp) ?_
  refine cw_flat ([] :: G) (.of_eq (by simp)) ?_
  refine Go.Sl.cw_seq ?_
  refine Go.Sl.cw_region ?_
  refine Go.Sl.ow_val rfl rfl (Go.Sl.v_assign rfl) ?_
  refine Go.Sl.ow_nil ?_
  refine Go.Sl.xw_then ?_
  refine Go.Sl.cw_seq ?_
  refine Go.Sl.cw_seq ?_
  refine Go.Sl.cw_region ?_
  refine Go.Sl.ow_val rfl rfl (Go.Sl.v_move rfl) ?_
  refine Go.Sl.ow_val rfl rfl (Go.Sl.v_lss rfl rfl) ?_
  refine Go.Sl.ow_nil ?_
  refine Go.Sl.xw_then ?_
  refine Go.Sl.cw_false rfl ?_
  refine Go.Sl.cw_skip ?_
  refine Go.Sl.xw_then ?_
  refine Go.Sl.cw_seq ?_
  refine Go.Sl.cw_seq ?_
  refine Go.Sl.cw_region ?_
  refine Go.Sl.ow_val rfl rfl (Go.Sl.v_move rfl) ?_
  refine Go.Sl.ow_val rfl rfl (Go.Sl.v_move rfl) ?_
  refine Go.Sl.ow_val rfl rfl (Go.Sl.v_cap rfl Try.underlying23 rfl) ?_
  refine Go.Sl.ow_val rfl rfl (Go.Sl.v_move rfl) ?_
  refine Go.Sl.ow_val rfl rfl (Go.Sl.v_len rfl Try.underlying23 rfl) ?_
  refine Go.Sl.ow_val rfl rfl (Go.Sl.v_sub rfl rfl (Go.Sl.nw_i64 (by omega) (by omega))) ?_
  refine Go.Sl.ow_val rfl rfl (Go.Sl.v_sub rfl rfl (Go.Sl.nw_i64 (by omega) (by omega))) ?_
  refine Go.Sl.ow_val rfl rfl (Go.Sl.v_assign rfl) ?_
  refine Go.Sl.ow_nil ?_
  refine Go.Sl.xw_then ?_
  refine Go.Sl.cw_seq ?_
  refine Go.Sl.cw_region ?_
  refine Go.Sl.ow_val rfl rfl (Go.Sl.v_move rfl) ?_
  refine Go.Sl.ow_val rfl rfl (Go.Sl.v_gtr rfl rfl) ?_
  refine Go.Sl.ow_nil ?_
  refine Go.Sl.xw_then ?_
  refine Go.Sl.cw_dec rfl (fun hc16 => ?_) (fun hc16 => ?_)
  refine Go.Sl.cw_region ?_
  refine Go.Sl.ow_val rfl rfl (Go.Sl.v_move rfl) ?_
  refine Go.Sl.ow_val rfl rfl (Go.Sl.v_move rfl) ?_
  refine Go.Sl.ow_val rfl rfl (Go.Sl.v_cap rfl Try.underlying23 rfl) ?_
  refine Go.Sl.ow_val rfl rfl (Go.Sl.v_slice_nh Try.underlying23 Ty.el23 rfl rfl rfl (by omega)) ?_
  refine Go.Sl.ow_val rfl rfl (Go.Sl.v_move rfl) ?_
  rotate_left
  refine Go.Sl.cw_skip ?_
  refine Go.Sl.xw_then ?_
  refine Go.Sl.cw_seq ?_
  refine Go.Sl.cw_region ?_
  refine Go.Sl.ow_val rfl rfl (Go.Sl.v_move rfl) ?_
  refine Go.Sl.ow_val rfl rfl (Go.Sl.v_assign rfl) ?_
  refine Go.Sl.ow_nil ?_
  refine Go.Sl.xw_then ?_
  refine Go.Sl.cw_ret ?_
  refine Go.Sl.ret1 rfl (Go.Sl.res_tmp rfl) ?_
  rotate_left
  · refine Go.Sl.ow_appendZ (ao := none) (n := 0) (cap := 0) (m := n) (xs := []) (c := []) rfl rfl Try.underlying23 Try.underlying3 Ty.em23 rfl rfl (by omega) (by omega) IsSl.nil (by repeat (first | exact Go.Sl.Sel.here | apply Go.Sl.Sel.there)) (by omega) (by omega) (by omega) ?_
    intro ao' cap' c' ys hys hcap hsl
    rw [Nat.zero_add] at hsl
    have h0 := hsl.take' (m := 0) (Nat.zero_le _)
    rw [Nat.zero_mul, List.take_zero] at h0
    have hL : Ls enB 5 (.slice ao' 0 cap') c' [] := ⟨h0, by simp⟩
    refine Go.Sl.ow_val rfl rfl (Go.Sl.v_move rfl) ?_
    refine Go.Sl.ow_val rfl rfl (Go.Sl.v_len rfl Try.underlying23 rfl) ?_
    refine Go.Sl.ow_val rfl rfl (Go.Sl.v_slice_nh Try.underlying23 Ty.el23 rfl rfl rfl (by omega)) ?_
    refine Go.Sl.ow_val rfl rfl (Go.Sl.v_assign rfl) ?_
    refine Go.Sl.ow_nil ?_
    refine Go.Sl.xw_then ?_
    refine Go.Sl.cw_seq ?_
    refine Go.Sl.cw_region ?_
    refine Go.Sl.ow_val rfl rfl (Go.Sl.v_move rfl) ?_
    refine Go.Sl.ow_val rfl rfl (Go.Sl.v_assign rfl) ?_
    refine Go.Sl.ow_nil ?_
    refine Go.Sl.xw_then ?_
    refine Go.Sl.cw_ret ?_
    refine Go.Sl.ret1 rfl (Go.Sl.res_tmp rfl) ?_
    exact ⟨(ao', cap', c'), rfl, hL, (by first | exact Go.Sl.Cov.refl _ | (intro p; simp only [List.flatten_cons, List.flatten_nil, List.flatten_append, List.append_nil, List.nil_append, Go.Sl.cnt_append, Go.Sl.cnt_cons, Go.Sl.cnt_nil, List.set_cons_zero, List.set_cons_succ, List.length_nil, List.length_cons, Nat.zero_add, List.append]; omega))⟩
  · exact ⟨(none, 0, []), rfl, Ls.nil, (by first | exact Go.Sl.Cov.refl _ | (intro p; simp only [List.flatten_cons, List.flatten_nil, List.flatten_append, List.append_nil, List.nil_append, Go.Sl.cnt_append, Go.Sl.cnt_cons, Go.Sl.cnt_nil, List.set_cons_zero, List.set_cons_succ, List.length_nil, List.length_cons, Nat.zero_add, List.append]; omega))⟩
def enSl : Enc (Option Addr × Nat × Nat) := ⟨fun x => [.slice x.1 x.2.1 x.2.2], 1, fun x => .slice x.1 x.2.1 x.2.2, fun _ => True⟩
@[simp] theorem enSl_ok (x : Option Addr × Nat × Nat) : enSl.ok x = True := rfl
theorem slTy : EncTy Try.prog 23 enSl := EncTy.scalar Ty.sc23 rfl (fun _ => rfl) (fun _ => rfl)
theorem concat_c {B : Nat} {w0 : World} {G : List Hp} {ao a1 : Option Addr} {n cap c1 : Nat} {d : List UInt8} (hV : Vw enSl (St B w0 G) (.slice ao n cap) [(none, 0, 0), (a1, d.length, c1)]) (hD : Vw enB (St B w0 G) (.slice a1 d.length c1) d) (hd : d.length ≤ 100000) :
    Go.Sl.Fn Try.prog 41 #[.slice ao n cap] B w0 G fun u G' => ∃ x : Option Addr × Nat × Hp, u = .slice x.1 d.length x.2.1 ∧ Ls enB 5 (.slice x.1 d.length x.2.1) x.2.2 d ∧ G' = [x.2.2] ++ G := by
  refine Fn.new (V := fun x : Option Addr × Nat × Hp => .slice x.1 d.length x.2.1) (Nw := fun x => [x.2.2]) ?_
  have hn := hV.len
  have hn2 : n = 2 := hn
  subst hn2
  obtain ⟨L, hL⟩ : ∃ L : List (Option Addr × Nat × Nat), L = [(none, 0, 0), (a1, d.length, c1)] := ⟨_, rfl⟩
  obtain ⟨X, hX0, hX1⟩ : ∃ X : Nat → List UInt8, X 0 = [] ∧ X 1 = d := ⟨fun j => if j = 0 then [] else d, rfl, rfl⟩
  obtain ⟨D, hD0, hDs⟩ : ∃ D : Nat → List UInt8, D 0 = [] ∧ ∀ j, D (j + 1) = D j ++ X j := ⟨fun j => (List.range j).flatMap X, rfl, fun j => by simp [List.range_succ]⟩
  have hD2 : D 2 = d := by rw [hDs 1, hDs 0, hD0, hX0, hX1]; rfl
  rw [← hL] at hV
  have hLl : L.length = 2 := by rw [hL]; rfl
  have hVx : ∀ j (h : j < L.length), Vw enB (St B w0 G) (.slice (L[j]).1 (L[j]).2.1 (L[j]).2.2) (X j) := by
    intro j h
    subst hL
    rcases (show j = 0 ∨ j = 1 by simp at h; omega) with rfl | rfl
    · rw [hX0]; exact Ls.nil.vw (e := 5) Sub.nil
    · rw [hX1]; exact hD
  have hle : ∀ j, j ≤ 2 → (D j).length ≤ 100000 := by
    intro j h
    rcases (show j = 0 ∨ j = 1 ∨ j = 2 by omega) with rfl | rfl | rfl
    · rw [hD0]; simp
    · rw [hDs 0, hD0, hX0]; simp
    · rw [hD2]; exact hd
  have hstep : ∀ j (h : j < L.length), (D (j + 1)).length = (D j).length + (L[j]).2.1 := fun j h => by
    rw [hDs j, List.length_append, (hVx j h).len]
  refine fn_enter Try.func41 rfl (by kernel_rfl) Try.ntmps41 (by simp) ?_
  refine Go.Sl.cw_seq ?_
  refine Go.Sl.cw_region ?_
  refine Go.Sl.ow_val rfl rfl (Go.Sl.v_assign rfl) ?_
  refine Go.Sl.ow_nil ?_
  refine Go.Sl.xw_then ?_
  refine Go.Sl.cw_seq ?_
  refine Go.Sl.cw_region ?_
  refine Go.Sl.ow_val rfl rfl (Go.Sl.v_assign rfl) ?_
  refine Go.Sl.ow_nil ?_
  refine Go.Sl.xw_then ?_
  refine Go.Sl.cw_seq ?_
  refine Go.Sl.cw_seq ?_
  refine Go.Sl.cw_region ?_
  refine Go.Sl.ow_val rfl rfl (Go.Sl.v_move rfl) ?_
  refine Go.Sl.ow_val rfl rfl (Go.Sl.v_len rfl Try.underlying139 rfl) ?_
  refine Go.Sl.ow_val rfl rfl (Go.Sl.v_move rfl) ?_
  refine Go.Sl.ow_nil ?_
  refine Go.Sl.xw_then ?_
  refine Go.Sl.cw_block ?_
  refine Go.Sl.cw_loop2 (ι := ((Nat × Nat))) [(0, _), (2, _), (9, _), (10, _)] ⟨rfl, rfl, rfl, rfl, trivial⟩ ((fun x => [(11, .int .i64 x.1), (3, .int .i64 (x.2 : Int))])) ((fun x => x.1 ≤ 2 ∧ x.2 = (D x.1).length)) ((fun x => 2 - x.1)) ((fun _ => G)) (((0, 0) : Nat × Nat)) (by repeat (first | exact True.intro | refine And.intro rfl ?_)) (by first | exact Go.Sl.Cov.refl _ | (intro p; simp only [List.flatten_cons, List.flatten_nil, List.flatten_append, List.append_nil, List.nil_append, Go.Sl.cnt_append, Go.Sl.cnt_cons, Go.Sl.cnt_nil, List.set_cons_zero, List.set_cons_succ, List.length_nil, List.length_cons, Nat.zero_add, List.append]; omega)) ?_ ?_
  · exact ⟨Nat.zero_le _, by rw [hD0]; rfl⟩
  rintro ⟨j, q⟩ ⟨hj, hq⟩
  dsimp only at hj hq ⊢
  have hq2 := hle j hj
  refine Go.Sl.cw_seq ?_
  refine Go.Sl.cw_region ?_
  refine Go.Sl.ow_val rfl rfl (Go.Sl.v_lss rfl rfl) ?_
  refine Go.Sl.ow_nil ?_
  refine Go.Sl.xw_then ?_
  refine Go.Sl.cw_seq ?_
  refine Go.Sl.cw_dec rfl (fun hc12 => ?_) (fun hc12 => ?_)
  refine Go.Sl.cw_skip ?_
  refine Go.Sl.xw_then ?_
  rotate_left
  refine Go.Sl.cw_exit ?_
  refine Go.Sl.xw_then_exit ?_
  refine Go.Sl.xw_round_exit ?_
  refine Go.Sl.xw_block_exit ?_
  refine Go.Sl.xw_then ?_
  refine Go.Sl.cw_seq ?_
  refine Go.Sl.cw_region ?_
  refine Go.Sl.ow_val rfl rfl (Go.Sl.v_move rfl) ?_
  rotate_left
  · have hj2 : j < L.length := by omega
    have h1 := hstep j hj2
    have h2 := hle (j + 1) (by omega)
    refine Go.Sl.cw_seq ?_
    refine Go.Sl.cw_block ?_
    refine Go.Sl.cw_seq ?_
    refine Go.Sl.cw_region ?_
    refine Go.Sl.ow_val rfl rfl (Go.Sl.v_indexAddr_vw Try.underlying139 (slTy) rfl rfl (by assumption) rfl (by omega)) ?_
    refine Go.Sl.ow_val rfl rfl (Go.Sl.v_load rfl (Go.Sl.Vw.var (slTy) (hV) (by omega))) ?_
    refine Go.Sl.ow_val rfl rfl (Go.Sl.v_assign rfl) ?_
    refine Go.Sl.ow_nil ?_
    refine Go.Sl.xw_then ?_
    refine Go.Sl.cw_seq ?_
    refine Go.Sl.cw_region ?_
    refine Go.Sl.ow_val rfl rfl (Go.Sl.v_move rfl) ?_
    refine Go.Sl.ow_val rfl rfl (Go.Sl.v_move rfl) ?_
    refine Go.Sl.ow_val rfl rfl (Go.Sl.v_len rfl Try.underlying23 rfl) ?_
    refine Go.Sl.ow_val rfl rfl (Go.Sl.v_add rfl rfl (Go.Sl.nw_i64 (by omega) (by omega))) ?_
    refine Go.Sl.ow_val rfl rfl (Go.Sl.v_assign rfl) ?_
    refine Go.Sl.ow_nil ?_
    refine Go.Sl.xw_then ?_
    refine Go.Sl.cw_seq ?_
    refine Go.Sl.cw_region ?_
    refine Go.Sl.ow_val rfl rfl (Go.Sl.v_move rfl) ?_
    refine Go.Sl.ow_val rfl rfl (Go.Sl.v_lss rfl rfl) ?_
    refine Go.Sl.ow_nil ?_
    refine Go.Sl.xw_then ?_
    refine Go.Sl.cw_false rfl ?_
    refine Go.Sl.cw_skip ?_
    refine Go.Sl.xw_block ?_
    refine Go.Sl.xw_then ?_
    refine Go.Sl.cw_region ?_
    refine Go.Sl.ow_val rfl rfl (Go.Sl.v_add rfl rfl (Go.Sl.nw_i64 (by omega) (by omega))) ?_
    refine Go.Sl.ow_val rfl rfl (Go.Sl.v_move rfl) ?_
    refine Go.Sl.ow_nil ?_
    exact xw_round ((j + 1, (D (j + 1)).length) : Nat × Nat) ⟨by dsimp only; omega, rfl⟩ (by dsimp only; omega) (by first | exact Go.Sl.Cov.refl _ | (intro p; simp only [List.flatten_cons, List.flatten_nil, List.flatten_append, List.append_nil, List.nil_append, Go.Sl.cnt_append, Go.Sl.cnt_cons, Go.Sl.cnt_nil, List.set_cons_zero, List.set_cons_succ, List.length_nil, List.length_cons, Nat.zero_add, List.append]; omega)) ⟨rfl, congrArg (fun z => some (Value.int .i64 z)) (by show (q : Int) + (L[j]).2.1 = ((D (j + 1)).length : Int); omega), (by repeat (first | exact True.intro | refine And.intro rfl ?_))⟩
  have hj3 : j = 2 := by omega
  subst hj3
  rw [hD2] at hq
  subst hq
  (refine Go.Sl.ow_call rfl rfl rfl rfl (growB_c hd) ?_; rintro _ _ ⟨x24, rfl, hq24, rfl⟩)
  refine Go.Sl.ow_val rfl rfl (Go.Sl.v_assign rfl) ?_
  refine Go.Sl.ow_nil ?_
  refine Go.Sl.xw_then ?_
  refine Go.Sl.cw_seq ?_
  refine Go.Sl.cw_seq ?_
  refine Go.Sl.cw_region ?_
  refine Go.Sl.ow_val rfl rfl (Go.Sl.v_move rfl) ?_
  refine Go.Sl.ow_val rfl rfl (Go.Sl.v_len rfl Try.underlying139 rfl) ?_
  refine Go.Sl.ow_val rfl rfl (Go.Sl.v_move rfl) ?_
  refine Go.Sl.ow_nil ?_
  refine Go.Sl.xw_then ?_
  refine Go.Sl.cw_block ?_
  have hL0 : Ls enB 5 (.slice x24.1 (D 0).length x24.2.1) x24.2.2 (D 0) := by rw [hD0]; exact hq24
  have hD0l : (D 0).length = 0 := by rw [hD0]; rfl
  refine Go.Sl.cw_loop2 (ι := ((Nat × Option Addr × Nat × Nat × Hp))) [(2, _), (25, _), (26, _)] ⟨rfl, rfl, rfl, trivial⟩ ((fun x => [(27, .int .i64 x.1), (6, .slice x.2.1 x.2.2.1 x.2.2.2.1)])) ((fun x => x.1 ≤ 2 ∧ x.2.2.1 = (D x.1).length ∧ Ls enB 5 (.slice x.2.1 x.2.2.1 x.2.2.2.1) x.2.2.2.2 (D x.1))) ((fun x => 2 - x.1)) ((fun x => x.2.2.2.2 :: G)) (((0, x24.1, 0, x24.2.1, x24.2.2) : Nat × Option Addr × Nat × Nat × Hp)) (by repeat (first | exact True.intro | refine And.intro rfl ?_)) (by first | exact Go.Sl.Cov.refl _ | (intro p; simp only [List.flatten_cons, List.flatten_nil, List.flatten_append, List.append_nil, List.nil_append, Go.Sl.cnt_append, Go.Sl.cnt_cons, Go.Sl.cnt_nil, List.set_cons_zero, List.set_cons_succ, List.length_nil, List.length_cons, Nat.zero_add, List.append]; omega)) ?_ ?_
  · exact ⟨Nat.zero_le _, hD0l.symm, by rw [hD0]; exact hq24⟩
  rintro ⟨j, aj, nj, cj, hj⟩ ⟨hj1, hnj, hLj⟩
  dsimp only at hj1 hnj hLj ⊢
  refine Go.Sl.cw_seq ?_
  refine Go.Sl.cw_region ?_
  refine Go.Sl.ow_val rfl rfl (Go.Sl.v_lss rfl rfl) ?_
  refine Go.Sl.ow_nil ?_
  refine Go.Sl.xw_then ?_
  refine Go.Sl.cw_seq ?_
  refine Go.Sl.cw_dec rfl (fun hc28 => ?_) (fun hc28 => ?_)
  refine Go.Sl.cw_skip ?_
  refine Go.Sl.xw_then ?_
  rotate_left
  refine Go.Sl.cw_exit ?_
  refine Go.Sl.xw_then_exit ?_
  refine Go.Sl.xw_round_exit ?_
  refine Go.Sl.xw_block_exit ?_
  refine Go.Sl.xw_then ?_
  refine Go.Sl.cw_seq ?_
  refine Go.Sl.cw_region ?_
  refine Go.Sl.ow_val rfl rfl (Go.Sl.v_move rfl) ?_
  refine Go.Sl.ow_val rfl rfl (Go.Sl.v_assign rfl) ?_
  refine Go.Sl.ow_nil ?_
  refine Go.Sl.xw_then ?_
  refine Go.Sl.cw_ret ?_
  refine Go.Sl.ret1 rfl (Go.Sl.res_tmp rfl) ?_
  rotate_left
  · have hj2 : j < L.length := by omega
    have h1 := hstep j hj2
    have h2 := hle (j + 1) (by omega)
    have h3 := (hVx j hj2).len
    have hs4 := hDs j
    refine Go.Sl.cw_seq ?_
    refine Go.Sl.cw_block ?_
    refine Go.Sl.cw_seq ?_
    refine Go.Sl.cw_region ?_
    refine Go.Sl.ow_val rfl rfl (Go.Sl.v_indexAddr_vw Try.underlying139 (slTy) rfl rfl (by assumption) rfl (by omega)) ?_
    refine Go.Sl.ow_val rfl rfl (Go.Sl.v_load rfl (Go.Sl.Vw.var (slTy) (hV.cov (by first | exact Go.Sl.Cov.refl _ | (intro p; simp only [List.flatten_cons, List.flatten_nil, List.flatten_append, List.append_nil, List.nil_append, Go.Sl.cnt_append, Go.Sl.cnt_cons, Go.Sl.cnt_nil, List.set_cons_zero, List.set_cons_succ, List.length_nil, List.length_cons, Nat.zero_add, List.append]; omega))) (by omega))) ?_
    refine Go.Sl.ow_val rfl rfl (Go.Sl.v_assign rfl) ?_
    refine Go.Sl.ow_nil ?_
    refine Go.Sl.xw_then ?_
    refine Go.Sl.cw_region ?_
    refine Go.Sl.ow_val rfl rfl (Go.Sl.v_move rfl) ?_
    refine Go.Sl.ow_val rfl rfl (Go.Sl.v_move rfl) ?_
    (refine Go.Sl.ow_appendL rfl rfl Try.underlying23 Try.underlying23 Ty.em23 (vbTy) rfl rfl (by assumption) (by repeat (first | exact Go.Sl.Sel.here | apply Go.Sl.Sel.there)) ((hVx j hj2).cov (by first | exact Go.Sl.Cov.refl _ | (intro p; simp only [List.flatten_cons, List.flatten_nil, List.flatten_append, List.append_nil, List.nil_append, Go.Sl.cnt_append, Go.Sl.cnt_cons, Go.Sl.cnt_nil, List.set_cons_zero, List.set_cons_succ, List.length_nil, List.length_cons, Nat.zero_add, List.append]; omega))) (by first | omega | (simp only [List.length_append, List.length_take, List.length_drop, List.length_nil, List.length_cons]; omega)) (by first | omega | (simp only [List.length_append, List.length_take, List.length_drop, List.length_nil, List.length_cons]; omega)) ?_; intro ao33 cap33 c33 hL33)
    refine Go.Sl.ow_val rfl rfl (Go.Sl.v_assign rfl) ?_
    refine Go.Sl.ow_nil ?_
    refine Go.Sl.xw_block ?_
    refine Go.Sl.xw_then ?_
    refine Go.Sl.cw_region ?_
    refine Go.Sl.ow_val rfl rfl (Go.Sl.v_add rfl rfl (Go.Sl.nw_i64 (by omega) (by omega))) ?_
    refine Go.Sl.ow_val rfl rfl (Go.Sl.v_move rfl) ?_
    refine Go.Sl.ow_nil ?_
    rw [← hs4] at hL33
    rw [← hs4]
    exact xw_round ((j + 1, ao33, (D (j + 1)).length, cap33, c33) : Nat × Option Addr × Nat × Nat × Hp) ⟨by dsimp only; omega, rfl, hL33⟩ (by dsimp only; omega) (by first | exact Go.Sl.Cov.refl _ | (intro p; simp only [List.flatten_cons, List.flatten_nil, List.flatten_append, List.append_nil, List.nil_append, Go.Sl.cnt_append, Go.Sl.cnt_cons, Go.Sl.cnt_nil, List.set_cons_zero, List.set_cons_succ, List.length_nil, List.length_cons, Nat.zero_add, List.append]; omega)) (by repeat (first | exact True.intro | refine And.intro rfl ?_))
  have hj3 : j = 2 := by omega
  subst hj3
  rw [hD2] at hLj hnj
  subst hnj
  skip
  exact ⟨(aj, cj, hj), rfl, hLj, (by first | exact Go.Sl.Cov.refl _ | (intro p; simp only [List.flatten_cons, List.flatten_nil, List.flatten_append, List.append_nil, List.nil_append, Go.Sl.cnt_append, Go.Sl.cnt_cons, Go.Sl.cnt_nil, List.set_cons_zero, List.set_cons_succ, List.length_nil, List.length_cons, Nat.zero_add, List.append]; omega))⟩

/-! ### Put, behind nothing -/
theorem put_c {B : Nat} {w0 : World} {G : List Hp} {f : FrM} {p : FrP} (hok : f.ok) (hV : FrIn (St B w0 G) f p) (hr : f.rg.length ≤ 9223372036854775807) (hd : f.data.length ≤ 9223372036854775807) (hi : f.id.length ≤ 9223372036854775807) :
    Go.Sl.Fn Try.prog 13 #[.slice none 0 0, .agg (f.cells p).toArray] B w0 G fun u G' => ∃ x : List UInt8 × Int × Option Addr × Nat × Hp, u = .tuple #[.slice x.2.2.1 x.1.length x.2.2.2.1, .int .i64 x.2.1] ∧ ((x.2.1 = 0 ↔ CanF f) ∧ (x.2.1 = 0 → x.1 = encF f) ∧ x.1.length ≤ 2000 ∧ Ls enB 5 (.slice x.2.2.1 x.1.length x.2.2.2.1) x.2.2.2.2 x.1) ∧ G' = [x.2.2.2.2] ++ G := by
  refine Fn.new (V := fun x : List UInt8 × Int × Option Addr × Nat × Hp => .tuple #[.slice x.2.2.1 x.1.length x.2.2.2.1, .int .i64 x.2.1]) (Nw := fun x => [x.2.2.2.2]) ?_
  have hlen : (f.cells p).length = 39 := FrM.cells_len hok
  refine fn_enter Try.func13 rfl (by kernel_rfl) Try.ntmps13 (by simp) ?_
  refine Go.Sl.cw_seq ?_
  refine Go.Sl.cw_region ?_
  (refine Go.Sl.ow_box rfl rfl rfl rfl ?_; intro b3)
  refine Go.Sl.ow_val rfl rfl (Go.Sl.v_assign rfl) ?_
  refine Go.Sl.ow_val rfl rfl (Go.Sl.v_assign rfl) ?_
  refine Go.Sl.ow_nil ?_
  refine Go.Sl.xw_then ?_
  refine Go.Sl.cw_seq ?_
  refine Go.Sl.cw_region ?_
  refine Go.Sl.ow_val rfl rfl (Go.Sl.v_load rfl (Go.Sl.Var.atN Ty.ag30 .here Go.Sl.GetN.all (by first | rfl | assumption))) ?_
  (refine Go.Sl.ow_call rfl rfl rfl rfl (encoded_c hok (hV.cov (by first | exact Go.Sl.Cov.refl _ | (intro p; simp only [List.flatten_cons, List.flatten_nil, List.flatten_append, List.append_nil, List.nil_append, Go.Sl.cnt_append, Go.Sl.cnt_cons, Go.Sl.cnt_nil, List.set_cons_zero, List.set_cons_succ, List.length_nil, List.length_cons, Nat.zero_add, List.append]; omega))) hr hd hi) ?_; rintro _ _ ⟨x10, rfl, hq10, rfl⟩)
  refine Go.Sl.ow_val rfl rfl (Go.Sl.v_move rfl) ?_
  refine Go.Sl.ow_val rfl rfl (v_extractL rfl rfl) ?_
  refine Go.Sl.ow_val rfl rfl (v_extractL rfl rfl) ?_
  refine Go.Sl.ow_val rfl rfl (Go.Sl.v_assign rfl) ?_
  refine Go.Sl.ow_val rfl rfl (Go.Sl.v_assign rfl) ?_
  refine Go.Sl.ow_nil ?_
  refine Go.Sl.xw_then ?_
  obtain ⟨bs, e, a10, k10, h10⟩ := x10
  obtain ⟨q1, q2, q3, q4⟩ := hq10
  dsimp only at q1 q2 q3 q4 ⊢
  refine Go.Sl.cw_seq ?_
  refine Go.Sl.cw_seq ?_
  refine Go.Sl.cw_region ?_
  refine Go.Sl.ow_val rfl rfl (Go.Sl.v_move rfl) ?_
  refine Go.Sl.ow_val rfl rfl (Go.Sl.v_neq rfl rfl) ?_
  refine Go.Sl.ow_nil ?_
  refine Go.Sl.xw_then ?_
  refine Go.Sl.cw_dec rfl (fun hc14 => ?_) (fun hc14 => ?_)
  refine Go.Sl.cw_seq ?_
  refine Go.Sl.cw_region ?_
  refine Go.Sl.ow_val rfl rfl (Go.Sl.v_move rfl) ?_
  refine Go.Sl.ow_val rfl rfl (Go.Sl.v_assign rfl) ?_
  refine Go.Sl.ow_val rfl rfl (Go.Sl.v_assign rfl) ?_
  refine Go.Sl.ow_nil ?_
  refine Go.Sl.xw_then ?_
  refine Go.Sl.cw_ret ?_
  refine Go.Sl.xw_then_ret ?_
  refine Go.Sl.ret2 rfl (Go.Sl.res_tmp rfl) (Go.Sl.res_tmp rfl) ?_
  rotate_left
  refine Go.Sl.cw_skip ?_
  refine Go.Sl.xw_then ?_
  rotate_left
  · exact ⟨([], e, none, 0, []), rfl, ⟨q1, fun h => absurd h hc14, by simp, Ls.nil⟩, (by first | exact Go.Sl.Cov.refl _ | (intro p; simp only [List.flatten_cons, List.flatten_nil, List.flatten_append, List.append_nil, List.nil_append, Go.Sl.cnt_append, Go.Sl.cnt_cons, Go.Sl.cnt_nil, List.set_cons_zero, List.set_cons_succ, List.length_nil, List.length_cons, Nat.zero_add, List.append]; omega))⟩
  refine Go.Sl.cw_seq ?_
  refine Go.Sl.cw_region ?_
  refine Go.Sl.ow_val rfl rfl (Go.Sl.v_move rfl) ?_
  refine Go.Sl.ow_val rfl rfl (Go.Sl.v_move rfl) ?_
  (refine Go.Sl.ow_buildL (es := ([((none : Option Addr), 0, 0), (a10, bs.length, k10)])) rfl rfl Try.underlying139 Ty.em139 (slTy) rfl rfl (by first | (simp [*]; done) | (repeat (first | exact List.forall_mem_nil _ | refine List.forall_mem_cons.2 ⟨?_, ?_⟩ | assumption | (show _ ∧ _; omega)))) (by simp only [List.length_cons, List.length_nil]; decide) ?_; intro ao18 c18 hL18)
  (refine Go.Sl.ow_call rfl rfl rfl rfl (concat_c (d := bs) (Go.Sl.Ls.vw hL18 (by repeat (first | exact Go.Sl.Sub.here | assumption | refine Go.Sl.Sub.there ?_))) (q4.vw (by repeat (first | exact Go.Sl.Sub.here | assumption | refine Go.Sl.Sub.there ?_))) (by omega)) ?_; rintro _ _ ⟨x19, rfl, hq19, rfl⟩)
  refine Go.Sl.ow_val rfl rfl (Go.Sl.v_assign rfl) ?_
  refine Go.Sl.ow_val rfl rfl (Go.Sl.v_assign rfl) ?_
  refine Go.Sl.ow_nil ?_
  refine Go.Sl.xw_then ?_
  refine Go.Sl.cw_ret ?_
  refine Go.Sl.ret2 rfl (Go.Sl.res_tmp rfl) (Go.Sl.res_tmp rfl) ?_
  have he : e = 0 := Decidable.not_not.1 hc14
  exact ⟨(bs, e, x19.1, x19.2.1, x19.2.2), by rw [he], ⟨q1, q2, q3, hq19⟩, (by first | exact Go.Sl.Cov.refl _ | (intro p; simp only [List.flatten_cons, List.flatten_nil, List.flatten_append, List.append_nil, List.nil_append, Go.Sl.cnt_append, Go.Sl.cnt_cons, Go.Sl.cnt_nil, List.set_cons_zero, List.set_cons_succ, List.length_nil, List.length_cons, Nat.zero_add, List.append]; omega))⟩

/-! ### Many -/
def encs (l : List FrM) : List UInt8 := l.flatMap encF
theorem encs_len {l : List FrM} (h : ∀ f ∈ l, CanF f ∧ f.ok) : (encs l).length ≤ 2000 * l.length := by
  induction l with
  | nil => simp [encs]
  | cons f l ih =>
    have h1 := encF_le (h f (by simp)).1.1 (h f (by simp)).2
    have h2 := ih fun g hg => h g (by simp [hg])
    unfold encs at h2 ⊢
    rw [List.flatMap_cons, List.length_append, List.length_cons]
    omega
theorem encs_succ {l : List FrM} {j : Nat} (h : j < l.length) : encs (l.take (j + 1)) = encs (l.take j) ++ encF l[j] := by
  unfold encs
  rw [List.take_succ_eq_append_getElem h, List.flatMap_append]
  simp
theorem all_c {B : Nat} {w0 : World} {G : List Hp} {ao : Option Addr} {n cap : Nat} {l : List FrE} (hV : Vw enF (St B w0 G) (.slice ao n cap) l) (hI : ∀ e ∈ l, FrIn (St B w0 G) e.m e.p) (hc : ∀ e ∈ l, CanF e.m ∧ (e.m.rg.length ≤ 9223372036854775807 ∧ e.m.data.length ≤ 9223372036854775807 ∧ e.m.id.length ≤ 9223372036854775807)) (hn : l.length ≤ 1000) :
    Go.Sl.Fn Try.prog 17 #[.slice ao n cap] B w0 G fun u G' => ∃ x : Option Addr × Nat × Hp, u = .tuple #[.slice x.1 (encs (l.map (·.m))).length x.2.1, .int .i64 0] ∧ Ls enB 5 (.slice x.1 (encs (l.map (·.m))).length x.2.1) x.2.2 (encs (l.map (·.m))) ∧ G' = [x.2.2] ++ G := by
  refine Fn.new (V := fun x : Option Addr × Nat × Hp => .tuple #[.slice x.1 (encs (l.map (·.m))).length x.2.1, .int .i64 0]) (Nw := fun x => [x.2.2]) ?_
  have hl := hV.len
  subst hl
  have hok := hV.ok
  have hcm : ∀ f ∈ l.map (·.m), CanF f ∧ f.ok := fun f hf => by
    obtain ⟨e, he, rfl⟩ := List.mem_map.1 hf
    exact ⟨(hc e he).1, hok e he⟩
  have hml : (l.map (·.m)).length = l.length := List.length_map _
  refine fn_enter Try.func17 rfl (by kernel_rfl) Try.ntmps17 (by simp) ?_
  refine Go.Sl.cw_seq ?_
  refine Go.Sl.cw_region ?_
  refine Go.Sl.ow_val rfl rfl (Go.Sl.v_assign rfl) ?_
  refine Go.Sl.ow_val rfl rfl (Go.Sl.v_assign rfl) ?_
  refine Go.Sl.ow_nil ?_
  refine Go.Sl.xw_then ?_
  refine Go.Sl.cw_seq ?_
  refine Go.Sl.cw_region ?_
  refine Go.Sl.ow_val rfl rfl (Go.Sl.v_assign rfl) ?_
  refine Go.Sl.ow_nil ?_
  refine Go.Sl.xw_then ?_
  refine Go.Sl.cw_seq ?_
  refine Go.Sl.cw_seq ?_
  refine Go.Sl.cw_region ?_
  refine Go.Sl.ow_val rfl rfl (Go.Sl.v_move rfl) ?_
  refine Go.Sl.ow_val rfl rfl (Go.Sl.v_len rfl Try.underlying36 rfl) ?_
  refine Go.Sl.ow_val rfl rfl (Go.Sl.v_move rfl) ?_
  refine Go.Sl.ow_nil ?_
  refine Go.Sl.xw_then ?_
  refine Go.Sl.cw_block ?_
  have hN : Ls enB 5 (.slice none 0 0) [] [] := Ls.nil
  refine cw_flat ([] :: G) (.of_eq (by simp)) ?_
  refine Go.Sl.cw_loop2 (ι := ((Nat × Option Addr × List UInt8 × Nat × Hp))) [(9, _), (10, _)] ⟨rfl, rfl, trivial⟩ ((fun x => [(11, .int .i64 x.1), (4, .slice x.2.1 x.2.2.1.length x.2.2.2.1)])) ((fun x => x.1 ≤ l.length ∧ x.2.2.1 = encs ((l.map (·.m)).take x.1) ∧ Ls enB 5 (.slice x.2.1 x.2.2.1.length x.2.2.2.1) x.2.2.2.2 x.2.2.1)) ((fun x => l.length - x.1)) ((fun x => x.2.2.2.2 :: G)) (((0, none, [], 0, []) : Nat × Option Addr × List UInt8 × Nat × Hp)) (by repeat (first | exact True.intro | refine And.intro rfl ?_)) (by first | exact Go.Sl.Cov.refl _ | (intro p; simp only [List.flatten_cons, List.flatten_nil, List.flatten_append, List.append_nil, List.nil_append, Go.Sl.cnt_append, Go.Sl.cnt_cons, Go.Sl.cnt_nil, List.set_cons_zero, List.set_cons_succ, List.length_nil, List.length_cons, Nat.zero_add, List.append]; omega)) ?_ ?_
  · exact ⟨Nat.zero_le _, by simp [encs], Ls.nil⟩
  rintro ⟨j, aj, D, cj, hj⟩ ⟨hj1, hD, hLj⟩
  dsimp only at hj1 hD hLj ⊢
  refine Go.Sl.cw_seq ?_
  refine Go.Sl.cw_region ?_
  refine Go.Sl.ow_val rfl rfl (Go.Sl.v_lss rfl rfl) ?_
  refine Go.Sl.ow_nil ?_
  refine Go.Sl.xw_then ?_
  refine Go.Sl.cw_seq ?_
  refine Go.Sl.cw_dec rfl (fun hc12 => ?_) (fun hc12 => ?_)
  refine Go.Sl.cw_skip ?_
  refine Go.Sl.xw_then ?_
  rotate_left
  refine Go.Sl.cw_exit ?_
  refine Go.Sl.xw_then_exit ?_
  refine Go.Sl.xw_round_exit ?_
  refine Go.Sl.xw_block_exit ?_
  refine Go.Sl.xw_then ?_
  refine Go.Sl.cw_seq ?_
  refine Go.Sl.cw_region ?_
  refine Go.Sl.ow_val rfl rfl (Go.Sl.v_move rfl) ?_
  refine Go.Sl.ow_val rfl rfl (Go.Sl.v_assign rfl) ?_
  refine Go.Sl.ow_val rfl rfl (Go.Sl.v_assign rfl) ?_
  refine Go.Sl.ow_nil ?_
  refine Go.Sl.xw_then ?_
  refine Go.Sl.cw_ret ?_
  refine Go.Sl.ret2 rfl (Go.Sl.res_tmp rfl) (Go.Sl.res_tmp rfl) ?_
  rotate_left
  · have hj2 : j < l.length := by omega
    have hje := List.getElem_mem hj2
    have hsu := encs_succ (l := l.map (·.m)) (j := j) (by omega)
    have hDl := encs_len (l := (l.map (·.m)).take j) fun f hf => hcm f (List.mem_of_mem_take hf)
    rw [← hD, List.length_take] at hDl
    have hbig := (hc _ hje).2
    have hlen : ((l[j]).m.cells (l[j]).p).length = 39 := FrM.cells_len (hok _ hje)
    have hone : ∀ u ∈ (l[j]).m.cells (l[j]).p, u.oneCell' = true := FrM.cells_one
    refine Go.Sl.cw_seq ?_
    refine Go.Sl.cw_block ?_
    refine Go.Sl.cw_seq ?_
    refine Go.Sl.cw_region ?_
    refine Go.Sl.ow_val rfl rfl (Go.Sl.v_indexAddr_vw Try.underlying36 (fTy) rfl rfl (by assumption) rfl (by omega)) ?_
    refine Go.Sl.ow_val rfl rfl (Go.Sl.v_load rfl (Go.Sl.Vw.var (fTy) (hV.cov (by first | exact Go.Sl.Cov.refl _ | (intro p; simp only [List.flatten_cons, List.flatten_nil, List.flatten_append, List.append_nil, List.nil_append, Go.Sl.cnt_append, Go.Sl.cnt_cons, Go.Sl.cnt_nil, List.set_cons_zero, List.set_cons_succ, List.length_nil, List.length_cons, Nat.zero_add, List.append]; omega))) (by omega))) ?_
    (refine Go.Sl.ow_alloc rfl rfl Ty.ze30 ?_; intro b6)
    refine Go.Sl.ow_storeE rfl (fTy) rfl rfl .here (by first | rfl | assumption) (hok _ hje) ?_
    refine Go.Sl.ow_nil ?_
    refine Go.Sl.xw_then ?_
    refine Go.Sl.cw_seq ?_
    refine Go.Sl.cw_region ?_
    refine Go.Sl.ow_val rfl rfl (Go.Sl.v_load rfl (Go.Sl.Var.atN Ty.ag30 .here Go.Sl.GetN.all (by first | rfl | assumption))) ?_
    (refine Go.Sl.ow_call rfl rfl rfl rfl (encoded_c (hok _ hje) ((hI _ hje).cov (by first | exact Go.Sl.Cov.refl _ | (intro p; simp only [List.flatten_cons, List.flatten_nil, List.flatten_append, List.append_nil, List.nil_append, Go.Sl.cnt_append, Go.Sl.cnt_cons, Go.Sl.cnt_nil, List.set_cons_zero, List.set_cons_succ, List.length_nil, List.length_cons, Nat.zero_add, List.append]; omega))) hbig.1 hbig.2.1 hbig.2.2) ?_; rintro _ _ ⟨x17, rfl, hq17, rfl⟩)
    refine Go.Sl.ow_val rfl rfl (Go.Sl.v_move rfl) ?_
    refine Go.Sl.ow_val rfl rfl (v_extractL rfl rfl) ?_
    refine Go.Sl.ow_val rfl rfl (v_extractL rfl rfl) ?_
    refine Go.Sl.ow_val rfl rfl (Go.Sl.v_assign rfl) ?_
    refine Go.Sl.ow_val rfl rfl (Go.Sl.v_assign rfl) ?_
    refine Go.Sl.ow_nil ?_
    refine Go.Sl.xw_then ?_
    obtain ⟨bs, e, a17, k17, h17⟩ := x17
    obtain ⟨q1, q2, q3, q4⟩ := hq17
    dsimp only at q1 q2 q3 q4 ⊢
    have he : e = 0 := q1.2 (hc _ hje).1
    have hbs := q2 he
    refine Go.Sl.cw_seq ?_
    refine Go.Sl.cw_seq ?_
    refine Go.Sl.cw_region ?_
    refine Go.Sl.ow_val rfl rfl (Go.Sl.v_move rfl) ?_
    refine Go.Sl.ow_val rfl rfl (Go.Sl.v_neq rfl rfl) ?_
    refine Go.Sl.ow_nil ?_
    refine Go.Sl.xw_then ?_
    refine Go.Sl.cw_dec rfl (fun hc21 => ?_) (fun hc21 => ?_)
    (exfalso; omega)
    refine Go.Sl.cw_skip ?_
    refine Go.Sl.xw_then ?_
    refine Go.Sl.cw_region ?_
    refine Go.Sl.ow_val rfl rfl (Go.Sl.v_move rfl) ?_
    refine Go.Sl.ow_val rfl rfl (Go.Sl.v_move rfl) ?_
    (refine Go.Sl.ow_appendL rfl rfl Try.underlying23 Try.underlying23 Ty.em23 (vbTy) rfl rfl (by assumption) (by repeat (first | exact Go.Sl.Sel.here | apply Go.Sl.Sel.there)) ((q4.vw (by repeat (first | exact Go.Sl.Sub.here | assumption | refine Go.Sl.Sub.there ?_)))) (by first | omega | (simp only [List.length_append, List.length_take, List.length_drop, List.length_nil, List.length_cons]; omega)) (by first | omega | (simp only [List.length_append, List.length_take, List.length_drop, List.length_nil, List.length_cons]; omega)) ?_; intro ao25 cap25 c25 hL25)
    refine Go.Sl.ow_val rfl rfl (Go.Sl.v_assign rfl) ?_
    refine Go.Sl.ow_nil ?_
    refine Go.Sl.xw_block ?_
    refine Go.Sl.xw_then ?_
    refine Go.Sl.cw_region ?_
    refine Go.Sl.ow_val rfl rfl (Go.Sl.v_add rfl rfl (Go.Sl.nw_i64 (by omega) (by omega))) ?_
    refine Go.Sl.ow_val rfl rfl (Go.Sl.v_move rfl) ?_
    refine Go.Sl.ow_nil ?_
    have hml2 : j < (l.map (·.m)).length := by omega
    have hE : D ++ bs = encs ((l.map (·.m)).take (j + 1)) := by
      rw [hsu, ← hD, hbs]
      congr 2
      rw [List.getElem_map]
    exact xw_round ((j + 1, ao25, D ++ bs, cap25, c25) : Nat × Option Addr × List UInt8 × Nat × Hp) ⟨by dsimp only; omega, hE, hL25⟩ (by dsimp only; omega) (by first | exact Go.Sl.Cov.refl _ | (intro p; simp only [List.flatten_cons, List.flatten_nil, List.flatten_append, List.append_nil, List.nil_append, Go.Sl.cnt_append, Go.Sl.cnt_cons, Go.Sl.cnt_nil, List.set_cons_zero, List.set_cons_succ, List.length_nil, List.length_cons, Nat.zero_add, List.append]; omega)) (by repeat (first | exact True.intro | refine And.intro rfl ?_))
  have hj3 : (l.map (·.m)).take j = l.map (·.m) := List.take_of_length_le (by omega)
  rw [hj3] at hD
  subst hD
  exact ⟨(aj, cj, hj), rfl, hLj, (by first | exact Go.Sl.Cov.refl _ | (intro p; simp only [List.flatten_cons, List.flatten_nil, List.flatten_append, List.append_nil, List.nil_append, Go.Sl.cnt_append, Go.Sl.cnt_cons, Go.Sl.cnt_nil, List.set_cons_zero, List.set_cons_succ, List.length_nil, List.length_cons, Nat.zero_add, List.append]; omega))⟩
end Go.Proofs.Ytckdhelnafjddaa
