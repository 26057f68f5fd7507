/- What the functions of Go's packages slices and sort do that package span calls, and what a range is in memory. Conditions: lists are short. -/
import Derived.Test.YtckdhelnafjddaaSpanMath
import Derived.Test.YtckdhelnafjddaaStep
namespace Go.Proofs.Ytckdhelnafjddaa
open Go Go.Sl Go.Proofs
set_option maxRecDepth 20000
set_option linter.unusedVariables false
set_option linter.unusedSimpArgs false

instance : Inhabited Rg := ⟨⟨0, 0⟩⟩
def Rg.cells (r : Rg) : List Value := [.int .u64 r.a, .int .u64 r.b]
def enR : Enc Rg := ⟨Rg.cells, 2, fun r => .agg r.cells.toArray, RgIn⟩
theorem rTy : EncTy Try.prog 102 enR := EncTy.agg Ty.ag102 (by decide) (fun _ => rfl) (fun _ _ => rfl) (fun a _ u hu => by
  simp only [enR, Rg.cells, List.mem_cons, List.not_mem_nil, or_false] at hu
  rcases hu with rfl | rfl <;> rfl)
theorem cloneR_c {B : Nat} {w0 : World} {G : List Hp} {v : Value} {l} (hV : Vw enR (St B w0 G) v l) (hb : l.length ≤ 100000000) :
    Go.Sl.Fn Try.prog 134 #[v] B w0 G fun u G' => ∃ x : Option Addr × Nat × Hp, u = .slice x.1 l.length x.2.1 ∧ Ls enR 102 (.slice x.1 l.length x.2.1) x.2.2 l ∧ G' = [x.2.2] ++ G := by
  refine Fn.new ?_
  obtain ⟨ao, cap, rfl, hcap⟩ := hV.view
  refine fn_enter Try.func134 rfl (by kernel_rfl) Try.ntmps134 (by simp) ?_
  refine Go.Sl.cw_seq ?_
  refine Go.Sl.cw_region ?_
  refine Go.Sl.ow_val rfl rfl (Go.Sl.v_assign rfl) ?_
  refine Go.Sl.ow_nil ?_
  refine Go.Sl.xw_then ?_
  refine Go.Sl.cw_seq ?_
  refine Go.Sl.cw_seq ?_
  refine Go.Sl.cw_region ?_
  refine Go.Sl.ow_val rfl rfl (Go.Sl.v_move rfl) ?_
  refine Go.Sl.ow_val rfl rfl (Go.Sl.v_eql_slnil Try.underlying27 rfl) ?_
  refine Go.Sl.ow_nil ?_
  refine Go.Sl.xw_then ?_
  refine Go.Sl.cw_bool rfl (fun hc4 => ?_) (fun hc4 => ?_)
  refine Go.Sl.cw_seq ?_
  refine Go.Sl.cw_region ?_
  refine Go.Sl.ow_val rfl rfl (Go.Sl.v_assign rfl) ?_
  refine Go.Sl.ow_nil ?_
  refine Go.Sl.xw_then ?_
  refine Go.Sl.cw_ret ?_
  refine Go.Sl.xw_then_ret ?_
  refine Go.Sl.ret1 rfl (Go.Sl.res_tmp rfl) ?_
  rotate_left
  refine Go.Sl.cw_skip ?_
  refine Go.Sl.xw_then ?_
  refine Go.Sl.cw_seq ?_
  refine Go.Sl.cw_region ?_
  (refine Go.Sl.ow_buildL (es := []) rfl rfl Try.underlying27 Ty.em27 (rTy) rfl rfl (by first | (simp [*]; done) | (repeat (first | exact List.forall_mem_nil _ | refine List.forall_mem_cons.2 ⟨?_, ?_⟩ | assumption | (show _ ∧ _; omega)))) (by simp only [List.length_cons, List.length_nil]; decide) ?_; intro ao5 c5 hL5)
  refine Go.Sl.ow_val rfl rfl (Go.Sl.v_move rfl) ?_
  (refine Go.Sl.ow_appendL rfl rfl Try.underlying27 Try.underlying27 Ty.em27 (rTy) rfl rfl (by assumption) (by repeat (first | exact Go.Sl.Sel.here | apply Go.Sl.Sel.there)) (hV.there) (by first | omega | (simp only [List.length_append, List.length_take, List.length_drop, List.length_nil, List.length_cons]; omega)) (by first | omega | (simp only [List.length_append, List.length_take, List.length_drop, List.length_nil, List.length_cons]; omega)) ?_; intro ao7 cap7 c7 hL7)
  refine Go.Sl.ow_val rfl rfl (Go.Sl.v_assign rfl) ?_
  refine Go.Sl.ow_nil ?_
  refine Go.Sl.xw_then ?_
  refine Go.Sl.cw_ret ?_
  refine Go.Sl.ret1 rfl (Go.Sl.res_tmp rfl) ?_
  rotate_left
  · have hao : ao = none := by simpa using hc4
    have hl : l = [] := by
      cases l with
      | nil => rfl
      | cons a l => have := (hV.get _ _ _ rfl (by simp)).1; rw [hao] at this; simp at this
    subst hl
    exact ⟨(none, 0, []), rfl, Ls.nil, (by first | exact Go.Sl.Cov.refl _ | (intro p; simp only [List.flatten_cons, List.flatten_nil, List.flatten_append, List.append_nil, List.nil_append, Go.Sl.cnt_append, Go.Sl.cnt_cons, Go.Sl.cnt_nil, List.set_cons_zero, List.set_cons_succ, List.length_nil, List.length_cons, Nat.zero_add, List.append]; omega))⟩
  · exact ⟨(ao7, cap7, c7), by simp, by simpa using hL7, (by first | exact Go.Sl.Cov.refl _ | (intro p; simp only [List.flatten_cons, List.flatten_nil, List.flatten_append, List.append_nil, List.nil_append, Go.Sl.cnt_append, Go.Sl.cnt_cons, Go.Sl.cnt_nil, List.set_cons_zero, List.set_cons_succ, List.length_nil, List.length_cons, Nat.zero_add, List.append]; omega))⟩

theorem deleteR_c {B : Nat} {w0 : World} {G : List Hp} {R : Hp → List Hp} {v : Value} {c : Hp} {l} {i j : Nat} {x y : Int} (hx : x = (i : Int)) (hy : y = (j : Int)) (hs : Sel G c R) (hL : Ls enR 102 v c l) (hi : i ≤ j) (hj : j ≤ l.length) (hb : l.length ≤ 100000000) :
    Go.Sl.Fn Try.prog 143 #[v, .int .i64 x, .int .i64 y] B w0 G fun u G' => ∃ x : Option Addr × Nat × Hp, u = .slice x.1 (l.take i ++ l.drop j).length x.2.1 ∧ Ls enR 102 (.slice x.1 (l.take i ++ l.drop j).length x.2.1) x.2.2 (l.take i ++ l.drop j) ∧ G' = R x.2.2 := by
  subst hx
  subst hy
  refine Fn.sel0 hs fun F _ _ => ?_
  obtain ⟨ao, cap, rfl, hcap⟩ := hL.view
  refine fn_enter Try.func143 rfl (by kernel_rfl) Try.ntmps143 (by simp) ?_
  refine Go.Sl.cw_seq ?_
  refine Go.Sl.cw_region ?_
  refine Go.Sl.ow_val rfl rfl (Go.Sl.v_assign rfl) ?_
  refine Go.Sl.ow_nil ?_
  refine Go.Sl.xw_then ?_
  refine Go.Sl.cw_seq ?_
  refine Go.Sl.cw_region ?_
  refine Go.Sl.ow_val rfl rfl (Go.Sl.v_move rfl) ?_
  refine Go.Sl.ow_val rfl rfl (Go.Sl.v_move rfl) ?_
  refine Go.Sl.ow_val rfl rfl (Go.Sl.v_move rfl) ?_
  refine Go.Sl.ow_val rfl rfl (Go.Sl.v_move rfl) ?_
  refine Go.Sl.ow_val rfl rfl (Go.Sl.v_len rfl Try.underlying27 rfl) ?_
  refine Go.Sl.ow_val rfl rfl (Go.Sl.v_slice_lhm Try.underlying27 Ty.el27 rfl rfl rfl rfl rfl rfl rfl (by omega) (by omega) (by omega)) ?_
  refine Go.Sl.ow_nil ?_
  refine Go.Sl.xw_then ?_
  refine Go.Sl.cw_seq ?_
  refine Go.Sl.cw_seq ?_
  refine Go.Sl.cw_region ?_
  refine Go.Sl.ow_val rfl rfl (Go.Sl.v_move rfl) ?_
  refine Go.Sl.ow_val rfl rfl (Go.Sl.v_move rfl) ?_
  refine Go.Sl.ow_val rfl rfl (Go.Sl.v_eql rfl rfl) ?_
  refine Go.Sl.ow_nil ?_
  refine Go.Sl.xw_then ?_
  refine Go.Sl.cw_dec rfl (fun hc16 => ?_) (fun hc16 => ?_)
  refine Go.Sl.cw_seq ?_
  refine Go.Sl.cw_region ?_
  refine Go.Sl.ow_val rfl rfl (Go.Sl.v_move rfl) ?_
  refine Go.Sl.ow_val rfl rfl (Go.Sl.v_assign rfl) ?_
  refine Go.Sl.ow_nil ?_
  refine Go.Sl.xw_then ?_
  refine Go.Sl.cw_ret ?_
  refine Go.Sl.xw_then_ret ?_
  refine Go.Sl.ret1 rfl (Go.Sl.res_tmp rfl) ?_
  rotate_left
  refine Go.Sl.cw_skip ?_
  refine Go.Sl.xw_then ?_
  refine Go.Sl.cw_seq ?_
  refine Go.Sl.cw_region ?_
  refine Go.Sl.ow_val rfl rfl (Go.Sl.v_move rfl) ?_
  refine Go.Sl.ow_val rfl rfl (Go.Sl.v_len rfl Try.underlying27 rfl) ?_
  refine Go.Sl.ow_val rfl rfl (Go.Sl.v_assign rfl) ?_
  refine Go.Sl.ow_nil ?_
  refine Go.Sl.xw_then ?_
  refine Go.Sl.cw_seq ?_
  refine Go.Sl.cw_mix [] [6, 7] [0, 1, 2, 3, 4, 5] Ty.mixed rfl rfl rfl rfl (by decide +kernel) ?_
  refine Go.Sl.hw_pure rfl rfl (Go.Sl.v_move rfl) rfl ?_
  refine Go.Sl.hw_pure rfl rfl (Go.Sl.v_move rfl) rfl ?_
  refine Go.Sl.hw_pure rfl rfl (Go.Sl.v_slice_nh Try.underlying27 Ty.el27 rfl rfl rfl (by omega)) rfl ?_
  refine Go.Sl.hw_pure rfl rfl (Go.Sl.v_move rfl) rfl ?_
  refine Go.Sl.hw_pure rfl rfl (Go.Sl.v_move rfl) rfl ?_
  refine Go.Sl.hw_pure rfl rfl (Go.Sl.v_slice_ln Try.underlying27 Ty.el27 rfl rfl rfl (by omega)) rfl ?_
  refine Go.Sl.hw_nil ?_
  refine Go.Sl.sw_nil ?_
  rotate_left
  · have hij : i = j := by omega
    subst hij
    exact ⟨(ao, cap, c), by simp, by simpa using hL, (by first | exact Go.Sl.Cov.refl _ | (intro p; simp only [List.flatten_cons, List.flatten_nil, List.flatten_append, List.append_nil, List.nil_append, Go.Sl.cnt_append, Go.Sl.cnt_cons, Go.Sl.cnt_nil, List.set_cons_zero, List.set_cons_succ, List.length_nil, List.length_cons, Nat.zero_add, List.append]; omega))⟩
  have hL1 := hL.take rTy (m := i) (by omega)
  have hV2 := (hL.vw (B := B) (w0 := w0) (G := c :: F) Sub.here).sub2 rTy (m := j) (by omega)
  refine Go.Sl.ow_appendL_room rfl rfl Try.underlying27 Try.underlying27 rTy rfl rfl hL1 .here hV2 (by rw [List.length_take, List.length_drop]; omega) ?_
  intro c26 hL26
  have hlen : (l.take i ++ l.drop j).length ≤ l.length := by rw [List.length_append, List.length_take, List.length_drop]; omega
  refine Go.Sl.ow_val rfl rfl (Go.Sl.v_assign rfl) ?_
  refine Go.Sl.ow_nil ?_
  refine Go.Sl.xw_np ?_
  refine Go.Sl.xw_then ?_
  refine Go.Sl.cw_seq ?_
  refine Go.Sl.cw_region ?_
  refine Go.Sl.ow_val rfl rfl (Go.Sl.v_move rfl) ?_
  refine Go.Sl.ow_val rfl rfl (Go.Sl.v_move rfl) ?_
  refine Go.Sl.ow_val rfl rfl (Go.Sl.v_len rfl Try.underlying27 rfl) ?_
  refine Go.Sl.ow_val rfl rfl (Go.Sl.v_move rfl) ?_
  refine Go.Sl.ow_val rfl rfl (Go.Sl.v_slice_lh Try.underlying27 Ty.el27 rfl rfl rfl rfl rfl (by omega) (by omega)) ?_
  refine Go.Sl.ow_clearL (En := enR) (e := 102) rfl Try.underlying27 Ty.em27 Ty.zo27 rfl (by omega) hL26 .here ?_
  intro c32 hL32
  refine Go.Sl.ow_nil ?_
  refine Go.Sl.xw_then ?_
  refine Go.Sl.cw_seq ?_
  refine Go.Sl.cw_region ?_
  refine Go.Sl.ow_val rfl rfl (Go.Sl.v_move rfl) ?_
  refine Go.Sl.ow_val rfl rfl (Go.Sl.v_assign rfl) ?_
  refine Go.Sl.ow_nil ?_
  refine Go.Sl.xw_then ?_
  refine Go.Sl.cw_ret ?_
  refine Go.Sl.ret1 rfl (Go.Sl.res_tmp rfl) ?_
  exact ⟨(ao, cap, c32), rfl, hL32, (by first | exact Go.Sl.Cov.refl _ | (intro p; simp only [List.flatten_cons, List.flatten_nil, List.flatten_append, List.append_nil, List.nil_append, Go.Sl.cnt_append, Go.Sl.cnt_cons, Go.Sl.cnt_nil, List.set_cons_zero, List.set_cons_succ, List.length_nil, List.length_cons, Nat.zero_add, List.append]; omega))⟩

theorem insertR_c {B : Nat} {w0 : World} {G : List Hp} {R : Hp → List Hp} {v v2 : Value} {c c2 : Hp} {l l2} {i : Nat} {x : Int} (hx : x = (i : Int)) (hs : Sel G c R) (hL : Ls enR 102 v c l) (hL2 : Ls enR 102 v2 c2 l2) (hc2 : Cov [c, c2] G) (hl2 : 0 < l2.length) (hi : i ≤ l.length) (hb : l.length + l2.length ≤ 100000000) :
    Go.Sl.Fn Try.prog 146 #[v, .int .i64 x, v2] B w0 G fun u G' => ∃ x : Option Addr × Nat × Hp, u = .slice x.1 (l.take i ++ (l2 ++ l.drop i)).length x.2.1 ∧ Ls enR 102 (.slice x.1 (l.take i ++ (l2 ++ l.drop i)).length x.2.1) x.2.2 (l.take i ++ (l2 ++ l.drop i)) ∧ G' = R x.2.2 := by
  subst hx
  refine Fn.sel0 hs fun F hR _ => ?_
  have hc3 : ∀ c', Cov [c', c2] (c' :: F) := fun c' => cov_swap hs hR hc2
  obtain ⟨ao, cap, rfl, hcap⟩ := hL.view
  obtain ⟨ao2, cap2, rfl, hcap2⟩ := hL2.view
  refine fn_enter Try.func146 rfl (by kernel_rfl) Try.ntmps146 (by simp) ?_
  refine Go.Sl.cw_seq ?_
  refine Go.Sl.cw_region ?_
  refine Go.Sl.ow_val rfl rfl (Go.Sl.v_assign rfl) ?_
  refine Go.Sl.ow_nil ?_
  refine Go.Sl.xw_then ?_
  refine Go.Sl.cw_seq ?_
  refine Go.Sl.cw_region ?_
  refine Go.Sl.ow_val rfl rfl (Go.Sl.v_move rfl) ?_
  refine Go.Sl.ow_val rfl rfl (Go.Sl.v_move rfl) ?_
  refine Go.Sl.ow_val rfl rfl (Go.Sl.v_slice_ln Try.underlying27 Ty.el27 rfl rfl rfl (by omega)) ?_
  refine Go.Sl.ow_nil ?_
  refine Go.Sl.xw_then ?_
  refine Go.Sl.cw_seq ?_
  refine Go.Sl.cw_region ?_
  refine Go.Sl.ow_val rfl rfl (Go.Sl.v_move rfl) ?_
  refine Go.Sl.ow_val rfl rfl (Go.Sl.v_len rfl Try.underlying27 rfl) ?_
  refine Go.Sl.ow_val rfl rfl (Go.Sl.v_assign rfl) ?_
  refine Go.Sl.ow_nil ?_
  refine Go.Sl.xw_then ?_
  refine Go.Sl.cw_seq ?_
  refine Go.Sl.cw_seq ?_
  refine Go.Sl.cw_region ?_
  refine Go.Sl.ow_val rfl rfl (Go.Sl.v_move rfl) ?_
  refine Go.Sl.ow_val rfl rfl (Go.Sl.v_eql rfl rfl) ?_
  refine Go.Sl.ow_nil ?_
  refine Go.Sl.xw_then ?_
  refine Go.Sl.cw_dec rfl (fun hc16 => ?_) (fun hc16 => ?_)
  (exfalso; omega)
  refine Go.Sl.cw_skip ?_
  refine Go.Sl.xw_then ?_
  refine Go.Sl.cw_seq ?_
  refine Go.Sl.cw_region ?_
  refine Go.Sl.ow_val rfl rfl (Go.Sl.v_move rfl) ?_
  refine Go.Sl.ow_val rfl rfl (Go.Sl.v_len rfl Try.underlying27 rfl) ?_
  refine Go.Sl.ow_val rfl rfl (Go.Sl.v_assign rfl) ?_
  refine Go.Sl.ow_nil ?_
  refine Go.Sl.xw_then ?_
  refine Go.Sl.cw_seq ?_
  refine Go.Sl.cw_seq ?_
  refine Go.Sl.cw_region ?_
  refine Go.Sl.ow_val rfl rfl (Go.Sl.v_move rfl) ?_
  refine Go.Sl.ow_val rfl rfl (Go.Sl.v_move rfl) ?_
  refine Go.Sl.ow_val rfl rfl (Go.Sl.v_eql rfl rfl) ?_
  refine Go.Sl.ow_nil ?_
  refine Go.Sl.xw_then ?_
  refine Go.Sl.cw_dec rfl (fun hc22 => ?_) (fun hc22 => ?_)
  refine Go.Sl.cw_seq ?_
  refine Go.Sl.cw_region ?_
  refine Go.Sl.ow_val rfl rfl (Go.Sl.v_move rfl) ?_
  refine Go.Sl.ow_val rfl rfl (Go.Sl.v_move rfl) ?_
  (refine Go.Sl.ow_appendL rfl rfl Try.underlying27 Try.underlying27 Ty.em27 (rTy) rfl rfl (by assumption) (by repeat (first | exact Go.Sl.Sel.here | apply Go.Sl.Sel.there)) (hL2.vw (cov_sub (hc3 _))) (by first | omega | (simp only [List.length_append, List.length_take, List.length_drop, List.length_nil, List.length_cons]; omega)) (by first | omega | (simp only [List.length_append, List.length_take, List.length_drop, List.length_nil, List.length_cons]; omega)) ?_; intro ao25 cap25 c25 hL25)
  refine Go.Sl.ow_val rfl rfl (Go.Sl.v_assign rfl) ?_
  refine Go.Sl.ow_nil ?_
  refine Go.Sl.xw_then ?_
  refine Go.Sl.cw_ret ?_
  refine Go.Sl.xw_then_ret ?_
  refine Go.Sl.ret1 rfl (Go.Sl.res_tmp rfl) ?_
  rotate_left
  refine Go.Sl.cw_skip ?_
  refine Go.Sl.xw_then ?_
  refine Go.Sl.cw_seq ?_
  refine Go.Sl.cw_seq ?_
  refine Go.Sl.cw_region ?_
  refine Go.Sl.ow_val rfl rfl (Go.Sl.v_move rfl) ?_
  refine Go.Sl.ow_val rfl rfl (Go.Sl.v_move rfl) ?_
  refine Go.Sl.ow_val rfl rfl (Go.Sl.v_add rfl rfl (Go.Sl.nw_i64 (by omega) (by omega))) ?_
  refine Go.Sl.ow_val rfl rfl (Go.Sl.v_move rfl) ?_
  refine Go.Sl.ow_val rfl rfl (Go.Sl.v_cap rfl Try.underlying27 rfl) ?_
  refine Go.Sl.ow_val rfl rfl (Go.Sl.v_gtr rfl rfl) ?_
  refine Go.Sl.ow_nil ?_
  refine Go.Sl.xw_then ?_
  refine Go.Sl.cw_dec rfl (fun hc31 => ?_) (fun hc31 => ?_)
  refine Go.Sl.cw_seq ?_
  refine Go.Sl.cw_region ?_
  refine Go.Sl.ow_val rfl rfl (Go.Sl.v_move rfl) ?_
  refine Go.Sl.ow_val rfl rfl (Go.Sl.v_move rfl) ?_
  refine Go.Sl.ow_val rfl rfl (Go.Sl.v_slice_nh Try.underlying27 Ty.el27 rfl rfl rfl (by omega)) ?_
  refine Go.Sl.ow_val rfl rfl (Go.Sl.v_move rfl) ?_
  refine Go.Sl.ow_val rfl rfl (Go.Sl.v_move rfl) ?_
  refine Go.Sl.ow_val rfl rfl (Go.Sl.v_add rfl rfl (Go.Sl.nw_i64 (by omega) (by omega))) ?_
  refine Go.Sl.ow_val rfl rfl (Go.Sl.v_move rfl) ?_
  refine Go.Sl.ow_val rfl rfl (Go.Sl.v_sub rfl rfl (Go.Sl.nw_i64 (by omega) (by omega))) ?_
  rotate_left
  refine Go.Sl.cw_skip ?_
  refine Go.Sl.xw_then ?_
  refine Go.Sl.cw_seq ?_
  refine Go.Sl.cw_region ?_
  refine Go.Sl.ow_val rfl rfl (Go.Sl.v_move rfl) ?_
  refine Go.Sl.ow_val rfl rfl (Go.Sl.v_move rfl) ?_
  refine Go.Sl.ow_val rfl rfl (Go.Sl.v_move rfl) ?_
  refine Go.Sl.ow_val rfl rfl (Go.Sl.v_add rfl rfl (Go.Sl.nw_i64 (by omega) (by omega))) ?_
  refine Go.Sl.ow_val rfl rfl (Go.Sl.v_slice_nh Try.underlying27 Ty.el27 rfl rfl rfl (by omega)) ?_
  refine Go.Sl.ow_val rfl rfl (Go.Sl.v_assign rfl) ?_
  refine Go.Sl.ow_nil ?_
  refine Go.Sl.xw_then ?_
  refine Go.Sl.cw_seq ?_
  refine Go.Sl.cw_seq ?_
  refine Go.Sl.cw_region ?_
  refine Go.Sl.ow_val rfl rfl (Go.Sl.v_move rfl) ?_
  refine Go.Sl.ow_val rfl rfl (Go.Sl.v_move rfl) ?_
  refine Go.Sl.ow_val rfl rfl (Go.Sl.v_move rfl) ?_
  refine Go.Sl.ow_val rfl rfl (Go.Sl.v_move rfl) ?_
  refine Go.Sl.ow_val rfl rfl (Go.Sl.v_add rfl rfl (Go.Sl.nw_i64 (by omega) (by omega))) ?_
  refine Go.Sl.ow_val rfl rfl (Go.Sl.v_slice_ln Try.underlying27 Ty.el27 rfl rfl rfl (by omega)) ?_
  rotate_left
  · have hil : i = l.length := by omega
    subst hil
    exact ⟨(ao25, cap25, c25), by simp, by simpa using hL25, (by first | exact Go.Sl.Cov.refl _ | (intro p; simp only [List.flatten_cons, List.flatten_nil, List.flatten_append, List.append_nil, List.nil_append, Go.Sl.cnt_append, Go.Sl.cnt_cons, Go.Sl.cnt_nil, List.set_cons_zero, List.set_cons_succ, List.length_nil, List.length_cons, Nat.zero_add, List.append]; omega))⟩
  · have hX := fm_len (f := enR.f) (k := 2) (l := l) fun a ha => rTy.len a (hL.ok a ha)
    have hV := fm_len (f := enR.f) (k := 2) (l := l2) fun a ha => rTy.len a (hL2.ok a ha)
    have h1 : IsSl 102 2 (.slice ao i cap) c i ((l.flatMap enR.f).take (i * 2)) := hL.sl.take' hi
    have h2 : IsSl 102 2 (.slice (cutA ao cap i 2) (l.length - i) (cap - i)) c (l.length - i) ((l.flatMap enR.f).drop (i * 2)) := hL.sl.drop' hi
    refine Go.Sl.ow_appendZ (m := l.length + l2.length - i) rfl rfl Try.underlying27 Try.underlying3 Ty.em27 rfl rfl (by omega) (by omega) h1 .here (by omega) (by omega) (by omega) ?_
    intro ao40 cap40 c40 ys hys hcap40 h40
    refine Go.Sl.ow_val rfl rfl (Go.Sl.v_assign rfl) ?_
    refine Go.Sl.ow_nil ?_
    refine Go.Sl.xw_then ?_
    refine Go.Sl.cw_seq ?_
    refine Go.Sl.cw_region ?_
    refine Go.Sl.ow_val rfl rfl (Go.Sl.v_move rfl) ?_
    refine Go.Sl.ow_val rfl rfl (Go.Sl.v_move rfl) ?_
    refine Go.Sl.ow_val rfl rfl (Go.Sl.v_slice_ln Try.underlying27 Ty.el27 rfl rfl rfl (by omega)) ?_
    refine Go.Sl.ow_val rfl rfl (Go.Sl.v_move rfl) ?_
    have hr2 : ∀ c', Reads Try.prog (St B w0 (c' :: c :: F)) 2 (.slice ao2 l2.length cap2) l2.length (l2.flatMap enR.f) := fun c' => (hL2.vw (cov_sub (hc3 c)).there).reads_all rTy
    refine Go.Sl.ow_copyL (k := i) (n := i + (l.length + l2.length - i)) (size := 2) (m := l2.length) rfl rfl rfl Try.underlying27 rTy.size rfl rfl (by simp only [Nat.min_def]; split <;> omega) (by omega) h40 (hr2 _) (enc_one rTy hL2.ok) .here ?_
    intro c45 h45
    refine Go.Sl.ow_nil ?_
    refine Go.Sl.xw_then ?_
    refine Go.Sl.cw_seq ?_
    refine Go.Sl.cw_mix [] [8] [0, 1, 2, 3, 4, 5, 6, 7] Ty.mixed rfl rfl rfl rfl (by decide +kernel) ?_
    refine Go.Sl.hw_pure rfl rfl (Go.Sl.v_move rfl) rfl ?_
    refine Go.Sl.hw_pure rfl rfl (Go.Sl.v_move rfl) rfl ?_
    refine Go.Sl.hw_pure rfl rfl (Go.Sl.v_move rfl) rfl ?_
    refine Go.Sl.hw_pure rfl rfl (Go.Sl.v_add rfl rfl (Go.Sl.nw_i64 (by omega) (by omega))) rfl ?_
    refine Go.Sl.hw_pure rfl rfl (Go.Sl.v_slice_ln Try.underlying27 Ty.el27 rfl rfl rfl (by omega)) rfl ?_
    refine Go.Sl.hw_pure rfl rfl (Go.Sl.v_move rfl) rfl ?_
    refine Go.Sl.hw_pure rfl rfl (Go.Sl.v_move rfl) rfl ?_
    refine Go.Sl.hw_pure rfl rfl (Go.Sl.v_slice_ln Try.underlying27 Ty.el27 rfl rfl rfl (by omega)) rfl ?_
    refine Go.Sl.hw_nil ?_
    refine Go.Sl.sw_nil ?_
    have hr3 : Reads Try.prog (St B w0 (c45 :: c :: F)) 2 (.slice (cutA ao cap i 2) (l.length - i) (cap - i)) (l.length - i) ((l.flatMap enR.f).drop (i * 2)) := h2.readsA Sub.here.there
    have hone : ∀ u ∈ (l.flatMap enR.f).drop (i * 2), u.oneCell' = true := fun u hu => enc_one rTy hL.ok u (List.mem_of_mem_drop hu)
    refine Go.Sl.ow_copyL (k := i + l2.length) (n := i + (l.length + l2.length - i)) (size := 2) (m := l.length - i) rfl rfl rfl Try.underlying27 rTy.size rfl rfl (by simp only [Nat.min_def]; split <;> omega) (by omega) h45 hr3 hone .here ?_
    intro c54 h54
    have hfin := ins_eq2 (A := (l.flatMap enR.f).take (i * 2)) (Bl := (l.flatMap enR.f).drop (i * 2)) (ys := ys) (V := l2.flatMap enR.f) (a := i * 2) (b := (l.length - i) * 2) (m := l2.length * 2) (by rw [List.length_take, hX]; omega) (by rw [List.length_drop, hX]; omega) (by rw [hys]; omega) hV
    rw [← Nat.add_mul] at h54 hfin
    rw [hfin, fm_take (f := enR.f) (k := 2) i (fun a ha => rTy.len a (hL.ok a ha)), fm_drop (f := enR.f) (k := 2) i (fun a ha => rTy.len a (hL.ok a ha))] at h54
    have hlen : (l.take i ++ (l2 ++ l.drop i)).length = i + (l.length + l2.length - i) := by rw [List.length_append, List.length_append, List.length_take, List.length_drop]; omega
    have hLf : Ls enR 102 (.slice ao40 (l.take i ++ (l2 ++ l.drop i)).length cap40) c54 (l.take i ++ (l2 ++ l.drop i)) := ⟨by rw [hlen, List.flatMap_append, List.flatMap_append]; exact h54, fun a ha => by
      rcases List.mem_append.1 ha with h | h
      · exact hL.ok a (List.mem_of_mem_take h)
      · rcases List.mem_append.1 h with h | h
        · exact hL2.ok a h
        · exact hL.ok a (List.mem_of_mem_drop h)⟩
    refine Go.Sl.ow_nil ?_
    refine Go.Sl.xw_np ?_
    refine Go.Sl.xw_then ?_
    refine Go.Sl.cw_seq ?_
    refine Go.Sl.cw_region ?_
    refine Go.Sl.ow_val rfl rfl (Go.Sl.v_move rfl) ?_
    refine Go.Sl.ow_val rfl rfl (Go.Sl.v_assign rfl) ?_
    refine Go.Sl.ow_nil ?_
    refine Go.Sl.xw_then ?_
    refine Go.Sl.cw_ret ?_
    refine Go.Sl.xw_then_ret ?_
    refine Go.Sl.ret1 rfl (Go.Sl.res_tmp rfl) ?_
    exact ⟨(ao40, cap40, c54), by rw [hlen], hLf, (by first | exact Go.Sl.Cov.refl _ | (intro p; simp only [List.flatten_cons, List.flatten_nil, List.flatten_append, List.append_nil, List.nil_append, Go.Sl.cnt_append, Go.Sl.cnt_cons, Go.Sl.cnt_nil, List.set_cons_zero, List.set_cons_succ, List.length_nil, List.length_cons, Nat.zero_add, List.append]; omega))⟩
  · have hX := fm_len (f := enR.f) (k := 2) (l := l) fun a ha => rTy.len a (hL.ok a ha)
    have hV := fm_len (f := enR.f) (k := 2) (l := l2) fun a ha => rTy.len a (hL2.ok a ha)
    have h2 : IsSl 102 2 (.slice (cutA ao cap i 2) (l.length - i) (cap - i)) c (l.length - i) ((l.flatMap enR.f).drop (i * 2)) := hL.sl.drop' hi
    obtain ⟨ys, hys, hg⟩ := IsSl.grow (e := 102) (size := 2) hL.sl (k := l.length + l2.length) (by omega) (by omega)
    have h3 : IsSl 102 2 (.slice (cutA ao cap (i + l2.length) 2) (l.length + l2.length - (i + l2.length)) (cap - (i + l2.length))) c (l.length + l2.length - (i + l2.length)) ((l.flatMap enR.f ++ ys).drop ((i + l2.length) * 2)) := hg.drop' (by omega)
    refine Go.Sl.ow_overlaps (tR := 4) (size := 2) (e := 102) rfl rfl Try.func147 rfl rfl (by kernel_rfl) (by kernel_rfl) Try.underlying27 rTy.size (by decide) rfl rfl hL2.sl h3 (by omega) (by omega) (fun p => by have := hc3 c p; simp only [List.flatten_cons, List.flatten_nil, List.append_nil, cnt_append] at *; omega) ?_
    refine Go.Sl.ow_val rfl rfl (Go.Sl.v_not_false rfl) ?_
    refine Go.Sl.ow_nil ?_
    refine Go.Sl.xw_then ?_
    refine Go.Sl.cw_true rfl ?_
    refine Go.Sl.cw_seq ?_
    refine Go.Sl.cw_mix [] [8] [0, 1, 2, 3, 4, 5, 6, 7] Ty.mixed rfl rfl rfl rfl (by decide +kernel) ?_
    refine Go.Sl.hw_pure rfl rfl (Go.Sl.v_move rfl) rfl ?_
    refine Go.Sl.hw_pure rfl rfl (Go.Sl.v_move rfl) rfl ?_
    refine Go.Sl.hw_pure rfl rfl (Go.Sl.v_move rfl) rfl ?_
    refine Go.Sl.hw_pure rfl rfl (Go.Sl.v_add rfl rfl (Go.Sl.nw_i64 (by omega) (by omega))) rfl ?_
    refine Go.Sl.hw_pure rfl rfl (Go.Sl.v_slice_ln Try.underlying27 Ty.el27 rfl rfl rfl (by omega)) rfl ?_
    refine Go.Sl.hw_pure rfl rfl (Go.Sl.v_move rfl) rfl ?_
    refine Go.Sl.hw_pure rfl rfl (Go.Sl.v_move rfl) rfl ?_
    refine Go.Sl.hw_pure rfl rfl (Go.Sl.v_slice_ln Try.underlying27 Ty.el27 rfl rfl rfl (by omega)) rfl ?_
    refine Go.Sl.hw_nil ?_
    refine Go.Sl.sw_nil ?_
    have hr3 : Reads Try.prog (St B w0 (c :: F)) 2 (.slice (cutA ao cap i 2) (l.length + l2.length - i) (cap - i)) (l.length - i) (((l.flatMap enR.f ++ ys).drop (i * 2)).take ((l.length - i) * 2)) := (IsSl.drop' hg (l := i) (by omega)).readsR Sub.here (by omega)
    have hcells : ((l.flatMap enR.f ++ ys).drop (i * 2)).take ((l.length - i) * 2) = (l.flatMap enR.f).drop (i * 2) := by
      rw [List.drop_append_of_le_length (by rw [hX]; omega), List.take_append_of_le_length (by rw [List.length_drop, hX]; omega), List.take_of_length_le (by rw [List.length_drop, hX]; omega)]
    rw [hcells] at hr3
    have hone : ∀ u ∈ (l.flatMap enR.f).drop (i * 2), u.oneCell' = true := fun u hu => enc_one rTy hL.ok u (List.mem_of_mem_drop hu)
    refine Go.Sl.ow_copyL (k := i + l2.length) (n := l.length + l2.length) (size := 2) (m := l.length - i) rfl rfl rfl Try.underlying27 rTy.size rfl rfl (by simp only [Nat.min_def]; split <;> omega) (by omega) hg hr3 hone .here ?_
    intro c77 h77
    refine Go.Sl.ow_nil ?_
    refine Go.Sl.xw_np ?_
    refine Go.Sl.xw_then ?_
    refine Go.Sl.cw_seq ?_
    refine Go.Sl.cw_region ?_
    refine Go.Sl.ow_val rfl rfl (Go.Sl.v_move rfl) ?_
    refine Go.Sl.ow_val rfl rfl (Go.Sl.v_move rfl) ?_
    refine Go.Sl.ow_val rfl rfl (Go.Sl.v_slice_ln Try.underlying27 Ty.el27 rfl rfl rfl (by omega)) ?_
    refine Go.Sl.ow_val rfl rfl (Go.Sl.v_move rfl) ?_
    have hr2 : ∀ c', Reads Try.prog (St B w0 (c' :: F)) 2 (.slice ao2 l2.length cap2) l2.length (l2.flatMap enR.f) := fun c' => (hL2.vw (cov_sub (hc3 c'))).reads_all rTy
    refine Go.Sl.ow_copyL (k := i) (n := l.length + l2.length) (size := 2) (m := l2.length) rfl rfl rfl Try.underlying27 rTy.size rfl rfl (by simp only [Nat.min_def]; split <;> omega) (by omega) h77 (hr2 _) (enc_one rTy hL2.ok) .here ?_
    intro c82 h82
    have hfin := ins_eq (A := (l.flatMap enR.f).take (i * 2)) (Bl := (l.flatMap enR.f).drop (i * 2)) (ys := ys) (V := l2.flatMap enR.f) (a := i * 2) (b := (l.length - i) * 2) (m := l2.length * 2) (by rw [List.length_take, hX]; omega) (by rw [List.length_drop, hX]; omega) (by rw [hys]; omega)
    rw [List.take_append_drop] at hfin
    simp only [Nat.add_mul] at h82 hfin
    rw [hfin, fm_take (f := enR.f) (k := 2) i (fun a ha => rTy.len a (hL.ok a ha)), fm_drop (f := enR.f) (k := 2) i (fun a ha => rTy.len a (hL.ok a ha))] at h82
    have hlen : (l.take i ++ (l2 ++ l.drop i)).length = l.length + l2.length := by rw [List.length_append, List.length_append, List.length_take, List.length_drop]; omega
    have hLf : Ls enR 102 (.slice ao (l.take i ++ (l2 ++ l.drop i)).length cap) c82 (l.take i ++ (l2 ++ l.drop i)) := ⟨by rw [hlen, List.flatMap_append, List.flatMap_append]; exact h82, fun a ha => by
      rcases List.mem_append.1 ha with h | h
      · exact hL.ok a (List.mem_of_mem_take h)
      · rcases List.mem_append.1 h with h | h
        · exact hL2.ok a h
        · exact hL.ok a (List.mem_of_mem_drop h)⟩
    refine Go.Sl.ow_nil ?_
    refine Go.Sl.xw_then ?_
    refine Go.Sl.cw_seq ?_
    refine Go.Sl.cw_region ?_
    refine Go.Sl.ow_val rfl rfl (Go.Sl.v_move rfl) ?_
    refine Go.Sl.ow_val rfl rfl (Go.Sl.v_assign rfl) ?_
    refine Go.Sl.ow_nil ?_
    refine Go.Sl.xw_then ?_
    refine Go.Sl.cw_ret ?_
    refine Go.Sl.xw_then_ret ?_
    refine Go.Sl.ret1 rfl (Go.Sl.res_tmp rfl) ?_
    exact ⟨(ao, cap, c82), by rw [hlen], hLf, (by first | exact Go.Sl.Cov.refl _ | (intro p; simp only [List.flatten_cons, List.flatten_nil, List.flatten_append, List.append_nil, List.nil_append, Go.Sl.cnt_append, Go.Sl.cnt_cons, Go.Sl.cnt_nil, List.set_cons_zero, List.set_cons_succ, List.length_nil, List.length_cons, Nat.zero_add, List.append]; omega))⟩

theorem insertR0_c {B : Nat} {w0 : World} {G : List Hp} {ao ao2 : Option Addr} {n cap cap2 i : Nat} {x : Int} (hx : x = (i : Int)) (hi : i ≤ n) (hn : n ≤ cap) (hb : n ≤ 100000000) :
    Go.Sl.Fn Try.prog 146 #[.slice ao n cap, .int .i64 x, .slice ao2 0 cap2] B w0 G fun u G' => u = .slice ao n cap ∧ G' = G := by
  subst hx
  refine Fn.pure ?_
  refine fn_enter Try.func146 rfl (by kernel_rfl) Try.ntmps146 (by simp) ?_
  refine Go.Sl.cw_seq ?_
  refine Go.Sl.cw_region ?_
  refine Go.Sl.ow_val rfl rfl (Go.Sl.v_assign rfl) ?_
  refine Go.Sl.ow_nil ?_
  refine Go.Sl.xw_then ?_
  refine Go.Sl.cw_seq ?_
  refine Go.Sl.cw_region ?_
  refine Go.Sl.ow_val rfl rfl (Go.Sl.v_move rfl) ?_
  refine Go.Sl.ow_val rfl rfl (Go.Sl.v_move rfl) ?_
  refine Go.Sl.ow_val rfl rfl (Go.Sl.v_slice_ln Try.underlying27 Ty.el27 rfl rfl rfl (by omega)) ?_
  refine Go.Sl.ow_nil ?_
  refine Go.Sl.xw_then ?_
  refine Go.Sl.cw_seq ?_
  refine Go.Sl.cw_region ?_
  refine Go.Sl.ow_val rfl rfl (Go.Sl.v_move rfl) ?_
  refine Go.Sl.ow_val rfl rfl (Go.Sl.v_len rfl Try.underlying27 rfl) ?_
  refine Go.Sl.ow_val rfl rfl (Go.Sl.v_assign rfl) ?_
  refine Go.Sl.ow_nil ?_
  refine Go.Sl.xw_then ?_
  refine Go.Sl.cw_seq ?_
  refine Go.Sl.cw_seq ?_
  refine Go.Sl.cw_region ?_
  refine Go.Sl.ow_val rfl rfl (Go.Sl.v_move rfl) ?_
  refine Go.Sl.ow_val rfl rfl (Go.Sl.v_eql rfl rfl) ?_
  refine Go.Sl.ow_nil ?_
  refine Go.Sl.xw_then ?_
  refine Go.Sl.cw_true rfl ?_
  refine Go.Sl.cw_seq ?_
  refine Go.Sl.cw_region ?_
  refine Go.Sl.ow_val rfl rfl (Go.Sl.v_move rfl) ?_
  refine Go.Sl.ow_val rfl rfl (Go.Sl.v_assign rfl) ?_
  refine Go.Sl.ow_nil ?_
  refine Go.Sl.xw_then ?_
  refine Go.Sl.cw_ret ?_
  refine Go.Sl.xw_then_ret ?_
  refine Go.Sl.ret1 rfl (Go.Sl.res_tmp rfl) ?_
  exact ⟨rfl, (by first | exact Go.Sl.Cov.refl _ | (intro p; simp only [List.flatten_cons, List.flatten_nil, List.flatten_append, List.append_nil, List.nil_append, Go.Sl.cnt_append, Go.Sl.cnt_cons, Go.Sl.cnt_nil, List.set_cons_zero, List.set_cons_succ, List.length_nil, List.length_cons, Nat.zero_add, List.append]; omega))⟩
theorem replaceR_c {B : Nat} {w0 : World} {G : List Hp} {R : Hp → List Hp} {v v2 : Value} {c c2 : Hp} {l l2} {i j : Nat} {x y : Int} (hx : x = (i : Int)) (hy : y = (j : Int)) (hs : Sel G c R) (hL : Ls enR 102 v c l) (hL2 : Ls enR 102 v2 c2 l2) (hc2 : Cov [c, c2] G) (hij : i ≤ j) (hj : j ≤ l.length) (hb : l.length + l2.length ≤ 100000000) :
    Go.Sl.Fn Try.prog 133 #[v, .int .i64 x, .int .i64 y, v2] B w0 G fun u G' => ∃ x : Option Addr × Nat × Hp, u = .slice x.1 (l.take i ++ (l2 ++ l.drop j)).length x.2.1 ∧ Ls enR 102 (.slice x.1 (l.take i ++ (l2 ++ l.drop j)).length x.2.1) x.2.2 (l.take i ++ (l2 ++ l.drop j)) ∧ G' = R x.2.2 := by
  subst hx
  subst hy
  refine Fn.sel0 hs fun F hR _ => ?_
  have hc3 : ∀ c', Cov [c', c2] (c' :: F) := fun c' => cov_swap hs hR hc2
  obtain ⟨ao, cap, rfl, hcap⟩ := hL.view
  obtain ⟨ao2, cap2, rfl, hcap2⟩ := hL2.view
  have hlen : (l.take i ++ (l2 ++ l.drop j)).length = i + l2.length + (l.length - j) := by rw [List.length_append, List.length_append, List.length_take, List.length_drop]; omega
  have hokR : ∀ a ∈ l.take i ++ (l2 ++ l.drop j), enR.ok a := fun a ha => by
    rcases List.mem_append.1 ha with h | h
    · exact hL.ok a (List.mem_of_mem_take h)
    · rcases List.mem_append.1 h with h | h
      · exact hL2.ok a h
      · exact hL.ok a (List.mem_of_mem_drop h)
  have hX := fm_len (f := enR.f) (k := 2) (l := l) fun a ha => rTy.len a (hL.ok a ha)
  have hV := fm_len (f := enR.f) (k := 2) (l := l2) fun a ha => rTy.len a (hL2.ok a ha)
  refine fn_enter Try.func133 rfl (by kernel_rfl) Try.ntmps133 (by simp) ?_
  refine Go.Sl.cw_seq ?_
  refine Go.Sl.cw_region ?_
  refine Go.Sl.ow_val rfl rfl (Go.Sl.v_assign rfl) ?_
  refine Go.Sl.ow_nil ?_
  refine Go.Sl.xw_then ?_
  refine Go.Sl.cw_seq ?_
  refine Go.Sl.cw_region ?_
  refine Go.Sl.ow_val rfl rfl (Go.Sl.v_move rfl) ?_
  refine Go.Sl.ow_val rfl rfl (Go.Sl.v_move rfl) ?_
  refine Go.Sl.ow_val rfl rfl (Go.Sl.v_move rfl) ?_
  refine Go.Sl.ow_val rfl rfl (Go.Sl.v_slice_lh Try.underlying27 Ty.el27 rfl rfl rfl rfl rfl (by omega) (by omega)) ?_
  refine Go.Sl.ow_nil ?_
  refine Go.Sl.xw_then ?_
  refine Go.Sl.cw_seq ?_
  refine Go.Sl.cw_seq ?_
  refine Go.Sl.cw_region ?_
  refine Go.Sl.ow_val rfl rfl (Go.Sl.v_move rfl) ?_
  refine Go.Sl.ow_val rfl rfl (Go.Sl.v_move rfl) ?_
  refine Go.Sl.ow_val rfl rfl (Go.Sl.v_eql rfl rfl) ?_
  refine Go.Sl.ow_nil ?_
  refine Go.Sl.xw_then ?_
  refine Go.Sl.cw_dec rfl (fun hc21 => ?_) (fun hc21 => ?_)
  refine Go.Sl.cw_seq ?_
  refine Go.Sl.cw_region ?_
  refine Go.Sl.ow_val rfl rfl (Go.Sl.v_move rfl) ?_
  refine Go.Sl.ow_val rfl rfl (Go.Sl.v_move rfl) ?_
  refine Go.Sl.ow_val rfl rfl (Go.Sl.v_move rfl) ?_
  rotate_left
  refine Go.Sl.cw_skip ?_
  refine Go.Sl.xw_then ?_
  refine Go.Sl.cw_seq ?_
  refine Go.Sl.cw_seq ?_
  refine Go.Sl.cw_region ?_
  refine Go.Sl.ow_val rfl rfl (Go.Sl.v_move rfl) ?_
  refine Go.Sl.ow_val rfl rfl (Go.Sl.v_move rfl) ?_
  refine Go.Sl.ow_val rfl rfl (Go.Sl.v_len rfl Try.underlying27 rfl) ?_
  refine Go.Sl.ow_val rfl rfl (Go.Sl.v_eql rfl rfl) ?_
  refine Go.Sl.ow_nil ?_
  refine Go.Sl.xw_then ?_
  refine Go.Sl.cw_dec rfl (fun hc29 => ?_) (fun hc29 => ?_)
  refine Go.Sl.cw_seq ?_
  refine Go.Sl.cw_region ?_
  refine Go.Sl.ow_val rfl rfl (Go.Sl.v_move rfl) ?_
  refine Go.Sl.ow_val rfl rfl (Go.Sl.v_move rfl) ?_
  refine Go.Sl.ow_val rfl rfl (Go.Sl.v_slice_nh Try.underlying27 Ty.el27 rfl rfl rfl (by omega)) ?_
  refine Go.Sl.ow_val rfl rfl (Go.Sl.v_move rfl) ?_
  rotate_left
  refine Go.Sl.cw_skip ?_
  refine Go.Sl.xw_then ?_
  refine Go.Sl.cw_seq ?_
  refine Go.Sl.cw_quiet Ty.mixed (by decide +kernel) ?_
  refine Go.Sl.kw_val rfl rfl (Go.Sl.v_move rfl) ?_
  refine Go.Sl.kw_val rfl rfl (Go.Sl.v_move rfl) ?_
  refine Go.Sl.kw_val rfl rfl (Go.Sl.v_slice_nh Try.underlying27 Ty.el27 rfl rfl rfl (by omega)) ?_
  refine Go.Sl.kw_val rfl rfl (Go.Sl.v_len rfl Try.underlying27 rfl) ?_
  refine Go.Sl.kw_val rfl rfl (Go.Sl.v_move rfl) ?_
  refine Go.Sl.kw_val rfl rfl (Go.Sl.v_len rfl Try.underlying27 rfl) ?_
  refine Go.Sl.kw_val rfl rfl (Go.Sl.v_add rfl rfl (Go.Sl.nw_i64 (by omega) (by omega))) ?_
  refine Go.Sl.kw_val rfl rfl (Go.Sl.v_move rfl) ?_
  refine Go.Sl.kw_val rfl rfl (Go.Sl.v_move rfl) ?_
  refine Go.Sl.kw_val rfl rfl (Go.Sl.v_slice_ln Try.underlying27 Ty.el27 rfl rfl rfl (by omega)) ?_
  refine Go.Sl.kw_val rfl rfl (Go.Sl.v_len rfl Try.underlying27 rfl) ?_
  refine Go.Sl.kw_val rfl rfl (Go.Sl.v_add rfl rfl (Go.Sl.nw_i64 (by omega) (by omega))) ?_
  refine Go.Sl.kw_val rfl rfl (Go.Sl.v_assign rfl) ?_
  refine Go.Sl.kw_nil ?_
  refine Go.Sl.xw_then ?_
  refine Go.Sl.cw_seq ?_
  refine Go.Sl.cw_seq ?_
  refine Go.Sl.cw_region ?_
  refine Go.Sl.ow_val rfl rfl (Go.Sl.v_move rfl) ?_
  refine Go.Sl.ow_val rfl rfl (Go.Sl.v_move rfl) ?_
  refine Go.Sl.ow_val rfl rfl (Go.Sl.v_cap rfl Try.underlying27 rfl) ?_
  refine Go.Sl.ow_val rfl rfl (Go.Sl.v_gtr rfl rfl) ?_
  refine Go.Sl.ow_nil ?_
  refine Go.Sl.xw_then ?_
  refine Go.Sl.cw_dec rfl (fun hc60 => ?_) (fun hc60 => ?_)
  refine Go.Sl.cw_seq ?_
  refine Go.Sl.cw_region ?_
  refine Go.Sl.ow_val rfl rfl (Go.Sl.v_move rfl) ?_
  refine Go.Sl.ow_val rfl rfl (Go.Sl.v_move rfl) ?_
  refine Go.Sl.ow_val rfl rfl (Go.Sl.v_slice_nh Try.underlying27 Ty.el27 rfl rfl rfl (by omega)) ?_
  refine Go.Sl.ow_val rfl rfl (Go.Sl.v_move rfl) ?_
  refine Go.Sl.ow_val rfl rfl (Go.Sl.v_move rfl) ?_
  refine Go.Sl.ow_val rfl rfl (Go.Sl.v_sub rfl rfl (Go.Sl.nw_i64 (by omega) (by omega))) ?_
  rotate_left
  refine Go.Sl.cw_skip ?_
  refine Go.Sl.xw_then ?_
  refine Go.Sl.cw_seq ?_
  refine Go.Sl.cw_region ?_
  refine Go.Sl.ow_val rfl rfl (Go.Sl.v_move rfl) ?_
  refine Go.Sl.ow_val rfl rfl (Go.Sl.v_move rfl) ?_
  refine Go.Sl.ow_val rfl rfl (Go.Sl.v_slice_nh Try.underlying27 Ty.el27 rfl rfl rfl (by omega)) ?_
  refine Go.Sl.ow_val rfl rfl (Go.Sl.v_assign rfl) ?_
  refine Go.Sl.ow_nil ?_
  refine Go.Sl.xw_then ?_
  refine Go.Sl.cw_seq ?_
  refine Go.Sl.cw_seq ?_
  refine Go.Sl.cw_region ?_
  refine Go.Sl.ow_val rfl rfl (Go.Sl.v_move rfl) ?_
  refine Go.Sl.ow_val rfl rfl (Go.Sl.v_move rfl) ?_
  refine Go.Sl.ow_val rfl rfl (Go.Sl.v_len rfl Try.underlying27 rfl) ?_
  refine Go.Sl.ow_val rfl rfl (Go.Sl.v_add rfl rfl (Go.Sl.nw_i64 (by omega) (by omega))) ?_
  refine Go.Sl.ow_val rfl rfl (Go.Sl.v_move rfl) ?_
  refine Go.Sl.ow_val rfl rfl (Go.Sl.v_leq rfl rfl) ?_
  refine Go.Sl.ow_nil ?_
  refine Go.Sl.xw_then ?_
  refine Go.Sl.cw_dec rfl (fun hc92 => ?_) (fun hc92 => ?_)
  refine Go.Sl.cw_seq ?_
  refine Go.Sl.cw_region ?_
  refine Go.Sl.ow_val rfl rfl (Go.Sl.v_move rfl) ?_
  refine Go.Sl.ow_val rfl rfl (Go.Sl.v_move rfl) ?_
  refine Go.Sl.ow_val rfl rfl (Go.Sl.v_slice_ln Try.underlying27 Ty.el27 rfl rfl rfl (by omega)) ?_
  refine Go.Sl.ow_val rfl rfl (Go.Sl.v_move rfl) ?_
  rotate_left
  refine Go.Sl.cw_skip ?_
  refine Go.Sl.xw_then ?_
  refine Go.Sl.cw_seq ?_
  refine Go.Sl.cw_seq ?_
  refine Go.Sl.cw_region ?_
  refine Go.Sl.ow_val rfl rfl (Go.Sl.v_move rfl) ?_
  refine Go.Sl.ow_val rfl rfl (Go.Sl.v_move rfl) ?_
  refine Go.Sl.ow_val rfl rfl (Go.Sl.v_move rfl) ?_
  refine Go.Sl.ow_val rfl rfl (Go.Sl.v_len rfl Try.underlying27 rfl) ?_
  refine Go.Sl.ow_val rfl rfl (Go.Sl.v_add rfl rfl (Go.Sl.nw_i64 (by omega) (by omega))) ?_
  refine Go.Sl.ow_val rfl rfl (Go.Sl.v_slice_ln Try.underlying27 Ty.el27 rfl rfl rfl (by omega)) ?_
  refine Go.Sl.ow_val rfl rfl (Go.Sl.v_move rfl) ?_
  rotate_left
  · have hij' : i = j := by omega
    subst hij'
    by_cases h0 : l2 = []
    · subst h0
      refine Go.Sl.ow_val rfl rfl (Go.Sl.v_call rfl rfl (insertR0_c rfl (by omega) hcap (by omega))) ?_
      refine Go.Sl.ow_val rfl rfl (Go.Sl.v_assign rfl) ?_
      refine Go.Sl.ow_nil ?_
      refine Go.Sl.xw_then ?_
      refine Go.Sl.cw_ret ?_
      refine Go.Sl.xw_then_ret ?_
      refine Go.Sl.ret1 rfl (Go.Sl.res_tmp rfl) ?_
      exact ⟨(ao, cap, c), by simp, by simpa using hL, (by first | exact Go.Sl.Cov.refl _ | (intro p; simp only [List.flatten_cons, List.flatten_nil, List.flatten_append, List.append_nil, List.nil_append, Go.Sl.cnt_append, Go.Sl.cnt_cons, Go.Sl.cnt_nil, List.set_cons_zero, List.set_cons_succ, List.length_nil, List.length_cons, Nat.zero_add, List.append]; omega))⟩
    · have h1 : 0 < l2.length := List.length_pos_iff.2 h0
      (refine Go.Sl.ow_call rfl rfl rfl rfl (insertR_c (i := i) (l2 := l2) rfl (by repeat (first | exact Go.Sl.Sel.here | apply Go.Sl.Sel.there)) hL hL2 (hc3 c) h1 (by omega) (by omega)) ?_; rintro _ _ ⟨x25, rfl, hq25, rfl⟩)
      refine Go.Sl.ow_val rfl rfl (Go.Sl.v_assign rfl) ?_
      refine Go.Sl.ow_nil ?_
      refine Go.Sl.xw_then ?_
      refine Go.Sl.cw_ret ?_
      refine Go.Sl.xw_then_ret ?_
      refine Go.Sl.ret1 rfl (Go.Sl.res_tmp rfl) ?_
      exact ⟨x25, rfl, hq25, (by first | exact Go.Sl.Cov.refl _ | (intro p; simp only [List.flatten_cons, List.flatten_nil, List.flatten_append, List.append_nil, List.nil_append, Go.Sl.cnt_append, Go.Sl.cnt_cons, Go.Sl.cnt_nil, List.set_cons_zero, List.set_cons_succ, List.length_nil, List.length_cons, Nat.zero_add, List.append]; omega))⟩
  · have hjl : l.drop j = [] := List.drop_eq_nil_of_le (by omega)
    have hL1 := hL.take rTy (m := i) (by omega)
    have hV2 : Vw enR (St B w0 (c :: F)) (.slice ao2 l2.length cap2) l2 := hL2.vw (cov_sub (hc3 c))
    rw [hjl, List.append_nil]
    rw [hjl, List.append_nil] at hlen
    by_cases hroom : i + l2.length ≤ cap
    · refine Go.Sl.ow_appendL_room rfl rfl Try.underlying27 Try.underlying27 rTy rfl rfl hL1 .here hV2 (by rw [List.length_take]; omega) ?_
      intro c34 hL34
      refine Go.Sl.ow_val rfl rfl (Go.Sl.v_assign rfl) ?_
      refine Go.Sl.ow_nil ?_
      refine Go.Sl.xw_then ?_
      refine Go.Sl.cw_seq ?_
      refine Go.Sl.cw_seq ?_
      refine Go.Sl.cw_region ?_
      refine Go.Sl.ow_val rfl rfl (Go.Sl.v_move rfl) ?_
      refine Go.Sl.ow_val rfl rfl (Go.Sl.v_len rfl Try.underlying27 rfl) ?_
      refine Go.Sl.ow_val rfl rfl (Go.Sl.v_move rfl) ?_
      refine Go.Sl.ow_val rfl rfl (Go.Sl.v_len rfl Try.underlying27 rfl) ?_
      refine Go.Sl.ow_val rfl rfl (Go.Sl.v_lss rfl rfl) ?_
      refine Go.Sl.ow_nil ?_
      refine Go.Sl.xw_then ?_
      refine Go.Sl.cw_dec rfl (fun hc39 => ?_) (fun hc39 => ?_)
      refine Go.Sl.cw_region ?_
      refine Go.Sl.ow_val rfl rfl (Go.Sl.v_move rfl) ?_
      refine Go.Sl.ow_val rfl rfl (Go.Sl.v_move rfl) ?_
      refine Go.Sl.ow_val rfl rfl (Go.Sl.v_len rfl Try.underlying27 rfl) ?_
      refine Go.Sl.ow_val rfl rfl (Go.Sl.v_slice_ln Try.underlying27 Ty.el27 rfl rfl rfl (by omega)) ?_
      rotate_left
      refine Go.Sl.cw_skip ?_
      refine Go.Sl.xw_then ?_
      refine Go.Sl.cw_seq ?_
      refine Go.Sl.cw_region ?_
      refine Go.Sl.ow_val rfl rfl (Go.Sl.v_move rfl) ?_
      refine Go.Sl.ow_val rfl rfl (Go.Sl.v_assign rfl) ?_
      refine Go.Sl.ow_nil ?_
      refine Go.Sl.xw_then ?_
      refine Go.Sl.cw_ret ?_
      refine Go.Sl.xw_then_ret ?_
      refine Go.Sl.ret1 rfl (Go.Sl.res_tmp rfl) ?_
      rotate_left
      · refine Go.Sl.ow_clearL (En := enR) (e := 102) rfl Try.underlying27 Ty.em27 Ty.zo27 rfl (by omega) hL34 .here ?_
        intro c43 hL43
        refine Go.Sl.ow_nil ?_
        refine Go.Sl.xw_then ?_
        refine Go.Sl.cw_seq ?_
        refine Go.Sl.cw_region ?_
        refine Go.Sl.ow_val rfl rfl (Go.Sl.v_move rfl) ?_
        refine Go.Sl.ow_val rfl rfl (Go.Sl.v_assign rfl) ?_
        refine Go.Sl.ow_nil ?_
        refine Go.Sl.xw_then ?_
        refine Go.Sl.cw_ret ?_
        refine Go.Sl.xw_then_ret ?_
        refine Go.Sl.ret1 rfl (Go.Sl.res_tmp rfl) ?_
        exact ⟨(ao, cap, c43), rfl, hL43, (by first | exact Go.Sl.Cov.refl _ | (intro p; simp only [List.flatten_cons, List.flatten_nil, List.flatten_append, List.append_nil, List.nil_append, Go.Sl.cnt_append, Go.Sl.cnt_cons, Go.Sl.cnt_nil, List.set_cons_zero, List.set_cons_succ, List.length_nil, List.length_cons, Nat.zero_add, List.append]; omega))⟩
      · exact ⟨(ao, cap, c34), rfl, hL34, (by first | exact Go.Sl.Cov.refl _ | (intro p; simp only [List.flatten_cons, List.flatten_nil, List.flatten_append, List.append_nil, List.nil_append, Go.Sl.cnt_append, Go.Sl.cnt_cons, Go.Sl.cnt_nil, List.set_cons_zero, List.set_cons_succ, List.length_nil, List.length_cons, Nat.zero_add, List.append]; omega))⟩
    · (refine Go.Sl.ow_appendL rfl rfl Try.underlying27 Try.underlying27 Ty.em27 (rTy) rfl rfl (by assumption) (by repeat (first | exact Go.Sl.Sel.here | apply Go.Sl.Sel.there)) (hV2) (by first | omega | (simp only [List.length_append, List.length_take, List.length_drop, List.length_nil, List.length_cons]; omega)) (by first | omega | (simp only [List.length_append, List.length_take, List.length_drop, List.length_nil, List.length_cons]; omega)) ?_; intro ao34 cap34 c34 hL34)
      refine Go.Sl.ow_val rfl rfl (Go.Sl.v_assign rfl) ?_
      refine Go.Sl.ow_nil ?_
      refine Go.Sl.xw_then ?_
      refine Go.Sl.cw_seq ?_
      refine Go.Sl.cw_seq ?_
      refine Go.Sl.cw_region ?_
      refine Go.Sl.ow_val rfl rfl (Go.Sl.v_move rfl) ?_
      refine Go.Sl.ow_val rfl rfl (Go.Sl.v_len rfl Try.underlying27 rfl) ?_
      refine Go.Sl.ow_val rfl rfl (Go.Sl.v_move rfl) ?_
      refine Go.Sl.ow_val rfl rfl (Go.Sl.v_len rfl Try.underlying27 rfl) ?_
      refine Go.Sl.ow_val rfl rfl (Go.Sl.v_lss rfl rfl) ?_
      refine Go.Sl.ow_nil ?_
      refine Go.Sl.xw_then ?_
      refine Go.Sl.cw_dec rfl (fun hc39 => ?_) (fun hc39 => ?_)
      (exfalso; omega)
      refine Go.Sl.cw_skip ?_
      refine Go.Sl.xw_then ?_
      refine Go.Sl.cw_seq ?_
      refine Go.Sl.cw_region ?_
      refine Go.Sl.ow_val rfl rfl (Go.Sl.v_move rfl) ?_
      refine Go.Sl.ow_val rfl rfl (Go.Sl.v_assign rfl) ?_
      refine Go.Sl.ow_nil ?_
      refine Go.Sl.xw_then ?_
      refine Go.Sl.cw_ret ?_
      refine Go.Sl.xw_then_ret ?_
      refine Go.Sl.ret1 rfl (Go.Sl.res_tmp rfl) ?_
      exact ⟨(ao34, cap34, c34), rfl, hL34, (by first | exact Go.Sl.Cov.refl _ | (intro p; simp only [List.flatten_cons, List.flatten_nil, List.flatten_append, List.append_nil, List.nil_append, Go.Sl.cnt_append, Go.Sl.cnt_cons, Go.Sl.cnt_nil, List.set_cons_zero, List.set_cons_succ, List.length_nil, List.length_cons, Nat.zero_add, List.append]; omega))⟩
  · have h1 : IsSl 102 2 (.slice ao i cap) c i ((l.flatMap enR.f).take (i * 2)) := hL.sl.take' (by omega)
    have h2 : IsSl 102 2 (.slice (cutA ao cap j 2) (l.length - j) (cap - j)) c (l.length - j) ((l.flatMap enR.f).drop (j * 2)) := hL.sl.drop' hj
    refine Go.Sl.ow_appendZ (m := l2.length + (l.length - j)) rfl rfl Try.underlying27 Try.underlying3 Ty.em27 rfl rfl (by omega) (by omega) h1 .here (by omega) (by omega) (by omega) ?_
    intro ao67 cap67 c67 ys hys hcap67 h67
    refine Go.Sl.ow_val rfl rfl (Go.Sl.v_assign rfl) ?_
    refine Go.Sl.ow_nil ?_
    refine Go.Sl.xw_then ?_
    refine Go.Sl.cw_seq ?_
    refine Go.Sl.cw_region ?_
    refine Go.Sl.ow_val rfl rfl (Go.Sl.v_move rfl) ?_
    refine Go.Sl.ow_val rfl rfl (Go.Sl.v_move rfl) ?_
    refine Go.Sl.ow_val rfl rfl (Go.Sl.v_slice_ln Try.underlying27 Ty.el27 rfl rfl rfl (by omega)) ?_
    refine Go.Sl.ow_val rfl rfl (Go.Sl.v_move rfl) ?_
    have hr2 : ∀ c', Reads Try.prog (St B w0 (c' :: c :: F)) 2 (.slice ao2 l2.length cap2) l2.length (l2.flatMap enR.f) := fun c' => (hL2.vw (cov_sub (hc3 c)).there).reads_all rTy
    refine Go.Sl.ow_copyD (k := i) (n := i + (l2.length + (l.length - j))) (size := 2) (m := l2.length) rfl rfl rfl Try.underlying27 rTy.size rfl rfl (by simp only [Nat.min_def]; split <;> omega) (by omega) h67 (hr2 _) (enc_one rTy hL2.ok) .here ?_
    intro c72 h72
    refine Go.Sl.ow_nil ?_
    refine Go.Sl.xw_then ?_
    refine Go.Sl.cw_seq ?_
    refine Go.Sl.cw_mix [] [9] [0, 1, 2, 3, 4, 5, 6, 7, 8] Ty.mixed rfl rfl rfl rfl (by decide +kernel) ?_
    refine Go.Sl.hw_pure rfl rfl (Go.Sl.v_move rfl) rfl ?_
    refine Go.Sl.hw_pure rfl rfl (Go.Sl.v_move rfl) rfl ?_
    refine Go.Sl.hw_pure rfl rfl (Go.Sl.v_move rfl) rfl ?_
    refine Go.Sl.hw_pure rfl rfl (Go.Sl.v_len rfl Try.underlying27 rfl) rfl ?_
    refine Go.Sl.hw_pure rfl rfl (Go.Sl.v_add rfl rfl (Go.Sl.nw_i64 (by omega) (by omega))) rfl ?_
    refine Go.Sl.hw_pure rfl rfl (Go.Sl.v_slice_ln Try.underlying27 Ty.el27 rfl rfl rfl (by omega)) rfl ?_
    refine Go.Sl.hw_pure rfl rfl (Go.Sl.v_move rfl) rfl ?_
    refine Go.Sl.hw_pure rfl rfl (Go.Sl.v_move rfl) rfl ?_
    refine Go.Sl.hw_pure rfl rfl (Go.Sl.v_slice_ln Try.underlying27 Ty.el27 rfl rfl rfl (by omega)) rfl ?_
    refine Go.Sl.hw_nil ?_
    refine Go.Sl.sw_nil ?_
    have hr3 : Reads Try.prog (St B w0 (c72 :: c :: F)) 2 (.slice (cutA ao cap j 2) (l.length - j) (cap - j)) (l.length - j) ((l.flatMap enR.f).drop (j * 2)) := h2.readsA Sub.here.there
    have hone : ∀ u ∈ (l.flatMap enR.f).drop (j * 2), u.oneCell' = true := fun u hu => enc_one rTy hL.ok u (List.mem_of_mem_drop hu)
    refine Go.Sl.ow_copyD (k := i + l2.length) (n := i + (l2.length + (l.length - j))) (size := 2) (m := l.length - j) rfl rfl rfl Try.underlying27 rTy.size rfl rfl (by simp only [Nat.min_def]; split <;> omega) (by omega) h72 hr3 hone .here ?_
    intro c82 h82
    have hfin := ins_eq2 (A := (l.flatMap enR.f).take (i * 2)) (Bl := (l.flatMap enR.f).drop (j * 2)) (ys := ys) (V := l2.flatMap enR.f) (a := i * 2) (b := (l.length - j) * 2) (m := l2.length * 2) (by rw [List.length_take, hX]; omega) (by rw [List.length_drop, hX]; omega) (by rw [hys]; omega) hV
    rw [← Nat.add_mul] at h82 hfin
    rw [hfin, fm_take (f := enR.f) (k := 2) i (fun a ha => rTy.len a (hL.ok a ha)), fm_drop (f := enR.f) (k := 2) j (fun a ha => rTy.len a (hL.ok a ha))] at h82
    have hLf : Ls enR 102 (.slice ao67 (l.take i ++ (l2 ++ l.drop j)).length cap67) c82 (l.take i ++ (l2 ++ l.drop j)) := ⟨by rw [hlen, List.flatMap_append, List.flatMap_append, Nat.add_assoc]; exact h82, hokR⟩
    refine Go.Sl.ow_nil ?_
    refine Go.Sl.xw_np ?_
    refine Go.Sl.xw_then ?_
    refine Go.Sl.cw_seq ?_
    refine Go.Sl.cw_region ?_
    refine Go.Sl.ow_val rfl rfl (Go.Sl.v_move rfl) ?_
    refine Go.Sl.ow_val rfl rfl (Go.Sl.v_assign rfl) ?_
    refine Go.Sl.ow_nil ?_
    refine Go.Sl.xw_then ?_
    refine Go.Sl.cw_ret ?_
    refine Go.Sl.xw_then_ret ?_
    refine Go.Sl.ret1 rfl (Go.Sl.res_tmp rfl) ?_
    exact ⟨(ao67, cap67, c82), by rw [hlen, Nat.add_assoc], hLf, (by first | exact Go.Sl.Cov.refl _ | (intro p; simp only [List.flatten_cons, List.flatten_nil, List.flatten_append, List.append_nil, List.nil_append, Go.Sl.cnt_append, Go.Sl.cnt_cons, Go.Sl.cnt_nil, List.set_cons_zero, List.set_cons_succ, List.length_nil, List.length_cons, Nat.zero_add, List.append]; omega))⟩
  · have hsplit : l.flatMap enR.f = (l.flatMap enR.f).take (i * 2) ++ (((l.flatMap enR.f).drop (i * 2)).take ((j - i) * 2) ++ (l.flatMap enR.f).drop (j * 2)) := by
      have h1 : (l.flatMap enR.f).drop (j * 2) = ((l.flatMap enR.f).drop (i * 2)).drop ((j - i) * 2) := by rw [List.drop_drop]; congr 1; omega
      rw [h1, List.take_append_drop, List.take_append_drop]
    have hr2 : ∀ c', Reads Try.prog (St B w0 (c' :: F)) 2 (.slice ao2 l2.length cap2) l2.length (l2.flatMap enR.f) := fun c' => (hL2.vw (cov_sub (hc3 c'))).reads_all rTy
    obtain ⟨q1, q2⟩ := rep_eq4 (A := (l.flatMap enR.f).take (i * 2)) (M := ((l.flatMap enR.f).drop (i * 2)).take ((j - i) * 2)) (C := (l.flatMap enR.f).drop (j * 2)) (V := l2.flatMap enR.f) (a := i * 2) (v := l2.length * 2) (c := (l.length - j) * 2) (mm := (j - i) * 2) (by rw [List.length_take, hX]; omega) hV (by rw [List.length_drop, hX]; omega) (by rw [List.length_take, List.length_drop, hX]; omega) (by omega)
    rw [← hsplit] at q1 q2
    refine Go.Sl.ow_copyD (k := i) (n := l.length) (size := 2) (m := l2.length) rfl rfl rfl Try.underlying27 rTy.size rfl rfl (by simp only [Nat.min_def]; split <;> omega) (by omega) hL.sl (hr2 _) (enc_one rTy hL2.ok) .here ?_
    intro c97 h97
    refine Go.Sl.ow_nil ?_
    refine Go.Sl.xw_then ?_
    refine Go.Sl.cw_seq ?_
    refine Go.Sl.cw_mix [] [9] [0, 1, 2, 3, 4, 5, 6, 7, 8] Ty.mixed rfl rfl rfl rfl (by decide +kernel) ?_
    refine Go.Sl.hw_pure rfl rfl (Go.Sl.v_move rfl) rfl ?_
    refine Go.Sl.hw_pure rfl rfl (Go.Sl.v_move rfl) rfl ?_
    refine Go.Sl.hw_pure rfl rfl (Go.Sl.v_move rfl) rfl ?_
    refine Go.Sl.hw_pure rfl rfl (Go.Sl.v_len rfl Try.underlying27 rfl) rfl ?_
    refine Go.Sl.hw_pure rfl rfl (Go.Sl.v_add rfl rfl (Go.Sl.nw_i64 (by omega) (by omega))) rfl ?_
    refine Go.Sl.hw_pure rfl rfl (Go.Sl.v_slice_ln Try.underlying27 Ty.el27 rfl rfl rfl (by omega)) rfl ?_
    refine Go.Sl.hw_pure rfl rfl (Go.Sl.v_move rfl) rfl ?_
    refine Go.Sl.hw_pure rfl rfl (Go.Sl.v_move rfl) rfl ?_
    refine Go.Sl.hw_pure rfl rfl (Go.Sl.v_slice_ln Try.underlying27 Ty.el27 rfl rfl rfl (by omega)) rfl ?_
    refine Go.Sl.hw_nil ?_
    refine Go.Sl.sw_nil ?_
    have h97d := h97.drop' hj
    rw [show i * 2 + (j - i) * 2 = j * 2 by omega] at q1
    rw [q1] at h97d
    have hr3 : Reads Try.prog (St B w0 (c97 :: F)) 2 (.slice (cutA ao cap j 2) (l.length - j) (cap - j)) (l.length - j) ((l.flatMap enR.f).drop (j * 2)) := h97d.readsA Sub.here
    have hone : ∀ u ∈ (l.flatMap enR.f).drop (j * 2), u.oneCell' = true := fun u hu => enc_one rTy hL.ok u (List.mem_of_mem_drop hu)
    refine Go.Sl.ow_copyD (k := i + l2.length) (n := l.length) (size := 2) (m := l.length - j) rfl rfl rfl Try.underlying27 rTy.size rfl rfl (by simp only [Nat.min_def]; split <;> omega) (by omega) h97 hr3 hone .here ?_
    intro c107 h107
    have h107t := h107.take' (m := i + l2.length + (l.length - j)) (by omega)
    rw [show (i + l2.length) * 2 = i * 2 + l2.length * 2 by omega, show (i + l2.length + (l.length - j)) * 2 = i * 2 + l2.length * 2 + (l.length - j) * 2 by omega, q2, fm_take (f := enR.f) (k := 2) i (fun a ha => rTy.len a (hL.ok a ha)), fm_drop (f := enR.f) (k := 2) j (fun a ha => rTy.len a (hL.ok a ha))] at h107t
    have hLf : Ls enR 102 (.slice ao (l.take i ++ (l2 ++ l.drop j)).length cap) c107 (l.take i ++ (l2 ++ l.drop j)) := ⟨by rw [hlen, List.flatMap_append, List.flatMap_append]; exact h107t, hokR⟩
    refine Go.Sl.ow_nil ?_
    refine Go.Sl.xw_np ?_
    refine Go.Sl.xw_then ?_
    refine Go.Sl.cw_seq ?_
    refine Go.Sl.cw_region ?_
    refine Go.Sl.ow_val rfl rfl (Go.Sl.v_move rfl) ?_
    refine Go.Sl.ow_val rfl rfl (Go.Sl.v_move rfl) ?_
    refine Go.Sl.ow_val rfl rfl (Go.Sl.v_slice_ln Try.underlying27 Ty.el27 rfl rfl rfl (by omega)) ?_
    have hcl : ∀ {z : Nat}, z = i + l2.length + (l.length - j) → Ls enR 102 (.slice ao z cap) c107 (l.take i ++ (l2 ++ l.drop j)) := fun hz => by rw [hz, ← hlen]; exact hLf
    refine Go.Sl.ow_clearL (En := enR) (e := 102) rfl Try.underlying27 Ty.em27 Ty.zo27 rfl (by omega) (hcl (by omega)) .here ?_
    intro c110 hL110
    refine Go.Sl.ow_nil ?_
    refine Go.Sl.xw_then ?_
    refine Go.Sl.cw_seq ?_
    refine Go.Sl.cw_region ?_
    refine Go.Sl.ow_val rfl rfl (Go.Sl.v_move rfl) ?_
    refine Go.Sl.ow_val rfl rfl (Go.Sl.v_assign rfl) ?_
    refine Go.Sl.ow_nil ?_
    refine Go.Sl.xw_then ?_
    refine Go.Sl.cw_ret ?_
    refine Go.Sl.xw_then_ret ?_
    refine Go.Sl.ret1 rfl (Go.Sl.res_tmp rfl) ?_
    have hLz : Ls enR 102 (.slice ao (l.take i ++ (l2 ++ l.drop j)).length cap) c110 (l.take i ++ (l2 ++ l.drop j)) := by
      have h := hL110
      rw [h.len] at h
      exact h
    exact ⟨(ao, cap, c110), by rw [hlen], hLz, (by first | exact Go.Sl.Cov.refl _ | (intro p; simp only [List.flatten_cons, List.flatten_nil, List.flatten_append, List.append_nil, List.nil_append, Go.Sl.cnt_append, Go.Sl.cnt_cons, Go.Sl.cnt_nil, List.set_cons_zero, List.set_cons_succ, List.length_nil, List.length_cons, Nat.zero_add, List.append]; omega))⟩
  · obtain ⟨ys, hys, hg⟩ := IsSl.grow (e := 102) (size := 2) hL.sl (k := i + l2.length + (l.length - j)) (by omega) (by omega)
    have h3 : IsSl 102 2 (.slice (cutA ao cap (i + l2.length) 2) (i + l2.length + (l.length - j) - (i + l2.length)) (cap - (i + l2.length))) c (i + l2.length + (l.length - j) - (i + l2.length)) ((l.flatMap enR.f ++ ys).drop ((i + l2.length) * 2)) := hg.drop' (by omega)
    have h3' : ∀ {z : Nat}, z = i + l2.length + (l.length - j) - (i + l2.length) → IsSl 102 2 (.slice (cutA ao cap (i + l2.length) 2) z (cap - (i + l2.length))) c z ((l.flatMap enR.f ++ ys).drop ((i + l2.length) * 2)) := fun hz => by rw [hz]; exact h3
    refine Go.Sl.ow_overlaps (tR := 4) (size := 2) (e := 102) rfl rfl Try.func147 rfl rfl (by kernel_rfl) (by kernel_rfl) Try.underlying27 rTy.size (by decide) rfl rfl (h3' (by omega)) hL2.sl (by omega) (by omega) (fun p => by have := hc3 c p; simp only [List.flatten_cons, List.flatten_nil, List.append_nil, cnt_append] at *; omega) ?_
    refine Go.Sl.ow_val rfl rfl (Go.Sl.v_not_false rfl) ?_
    refine Go.Sl.ow_nil ?_
    refine Go.Sl.xw_then ?_
    refine Go.Sl.cw_true rfl ?_
    refine Go.Sl.cw_seq ?_
    refine Go.Sl.cw_mix [] [9] [0, 1, 2, 3, 4, 5, 6, 7, 8] Ty.mixed rfl rfl rfl rfl (by decide +kernel) ?_
    refine Go.Sl.hw_pure rfl rfl (Go.Sl.v_move rfl) rfl ?_
    refine Go.Sl.hw_pure rfl rfl (Go.Sl.v_move rfl) rfl ?_
    refine Go.Sl.hw_pure rfl rfl (Go.Sl.v_move rfl) rfl ?_
    refine Go.Sl.hw_pure rfl rfl (Go.Sl.v_len rfl Try.underlying27 rfl) rfl ?_
    refine Go.Sl.hw_pure rfl rfl (Go.Sl.v_add rfl rfl (Go.Sl.nw_i64 (by omega) (by omega))) rfl ?_
    refine Go.Sl.hw_pure rfl rfl (Go.Sl.v_slice_ln Try.underlying27 Ty.el27 rfl rfl rfl (by omega)) rfl ?_
    refine Go.Sl.hw_pure rfl rfl (Go.Sl.v_move rfl) rfl ?_
    refine Go.Sl.hw_pure rfl rfl (Go.Sl.v_move rfl) rfl ?_
    refine Go.Sl.hw_pure rfl rfl (Go.Sl.v_slice_ln Try.underlying27 Ty.el27 rfl rfl rfl (by omega)) rfl ?_
    refine Go.Sl.hw_nil ?_
    refine Go.Sl.sw_nil ?_
    have hsplit : l.flatMap enR.f = (l.flatMap enR.f).take (i * 2) ++ (((l.flatMap enR.f).drop (i * 2)).take ((j - i) * 2) ++ (l.flatMap enR.f).drop (j * 2)) := by
      have h1 : (l.flatMap enR.f).drop (j * 2) = ((l.flatMap enR.f).drop (i * 2)).drop ((j - i) * 2) := by rw [List.drop_drop]; congr 1; omega
      rw [h1, List.take_append_drop, List.take_append_drop]
    have q := rep_eq5 (A := (l.flatMap enR.f).take (i * 2)) (M := ((l.flatMap enR.f).drop (i * 2)).take ((j - i) * 2)) (C := (l.flatMap enR.f).drop (j * 2)) (V := l2.flatMap enR.f) (ys := ys) (a := i * 2) (v := l2.length * 2) (c := (l.length - j) * 2) (by rw [List.length_take, hX]; omega) hV (by rw [List.length_drop, hX]; omega) (by rw [List.length_take, List.length_drop, hX]; omega) (by rw [List.length_take, List.length_drop, hX, hys]; omega)
    rw [← hsplit] at q
    have hr3 : Reads Try.prog (St B w0 (c :: F)) 2 (.slice (cutA ao cap j 2) (l.length - j) (cap - j)) (l.length - j) ((l.flatMap enR.f).drop (j * 2)) := (IsSl.drop' hL.sl hj).readsA Sub.here
    have hone : ∀ u ∈ (l.flatMap enR.f).drop (j * 2), u.oneCell' = true := fun u hu => enc_one rTy hL.ok u (List.mem_of_mem_drop hu)
    refine Go.Sl.ow_copyD (k := i + l2.length) (n := i + l2.length + (l.length - j)) (size := 2) (m := l.length - j) rfl rfl rfl Try.underlying27 rTy.size rfl rfl (by simp only [Nat.min_def]; split <;> omega) (by omega) hg hr3 hone .here ?_
    intro c130 h130
    refine Go.Sl.ow_nil ?_
    refine Go.Sl.xw_np ?_
    refine Go.Sl.xw_then ?_
    refine Go.Sl.cw_seq ?_
    refine Go.Sl.cw_region ?_
    refine Go.Sl.ow_val rfl rfl (Go.Sl.v_move rfl) ?_
    refine Go.Sl.ow_val rfl rfl (Go.Sl.v_move rfl) ?_
    refine Go.Sl.ow_val rfl rfl (Go.Sl.v_slice_ln Try.underlying27 Ty.el27 rfl rfl rfl (by omega)) ?_
    refine Go.Sl.ow_val rfl rfl (Go.Sl.v_move rfl) ?_
    have hr2 : ∀ c', Reads Try.prog (St B w0 (c' :: F)) 2 (.slice ao2 l2.length cap2) l2.length (l2.flatMap enR.f) := fun c' => (hL2.vw (cov_sub (hc3 c'))).reads_all rTy
    refine Go.Sl.ow_copyD (k := i) (n := i + l2.length + (l.length - j)) (size := 2) (m := l2.length) rfl rfl rfl Try.underlying27 rTy.size rfl rfl (by simp only [Nat.min_def]; split <;> omega) (by omega) h130 (hr2 _) (enc_one rTy hL2.ok) .here ?_
    intro c135 h135
    rw [show (i + l2.length) * 2 = i * 2 + l2.length * 2 by omega, q, fm_take (f := enR.f) (k := 2) i (fun a ha => rTy.len a (hL.ok a ha)), fm_drop (f := enR.f) (k := 2) j (fun a ha => rTy.len a (hL.ok a ha))] at h135
    have hLf : Ls enR 102 (.slice ao (l.take i ++ (l2 ++ l.drop j)).length cap) c135 (l.take i ++ (l2 ++ l.drop j)) := ⟨by rw [hlen, List.flatMap_append, List.flatMap_append]; exact h135, hokR⟩
    refine Go.Sl.ow_nil ?_
    refine Go.Sl.xw_then ?_
    refine Go.Sl.cw_seq ?_
    refine Go.Sl.cw_region ?_
    refine Go.Sl.ow_val rfl rfl (Go.Sl.v_move rfl) ?_
    refine Go.Sl.ow_val rfl rfl (Go.Sl.v_assign rfl) ?_
    refine Go.Sl.ow_nil ?_
    refine Go.Sl.xw_then ?_
    refine Go.Sl.cw_ret ?_
    refine Go.Sl.xw_then_ret ?_
    refine Go.Sl.ret1 rfl (Go.Sl.res_tmp rfl) ?_
    exact ⟨(ao, cap, c135), by rw [hlen], hLf, (by first | exact Go.Sl.Cov.refl _ | (intro p; simp only [List.flatten_cons, List.flatten_nil, List.flatten_append, List.append_nil, List.nil_append, Go.Sl.cnt_append, Go.Sl.cnt_cons, Go.Sl.cnt_nil, List.set_cons_zero, List.set_cons_succ, List.length_nil, List.length_cons, Nat.zero_add, List.append]; omega))⟩


/-- sort.Search -/
theorem search_c {B : Nat} {w0 : World} {G : List Hp} {n k : Nat} {f : FuncId} {cs : List Value} {p : Nat → Bool} (hn : n ≤ 100000000) (hk : k ≤ n) (hlo : ∀ i, i < k → p i = false) (hhi : ∀ i, k ≤ i → i < n → p i = true)
    (hf : ∀ i, i < n → Go.Sl.Fn Try.prog f ([] ++ [Value.int .i64 (i : Int)] ++ cs).toArray B w0 G fun u G' => u = .bool (p i) ∧ G' = G) :
    Go.Sl.Fn Try.prog 144 #[.int .i64 n, .func (.func f) #[] cs.toArray] B w0 G fun u G' => u = .int .i64 k ∧ G' = G := by
  refine Fn.pure ?_
  refine fn_enter Try.func144 rfl (by kernel_rfl) Try.ntmps144 (by simp) ?_
  refine Go.Sl.cw_seq ?_
  refine Go.Sl.cw_region ?_
  refine Go.Sl.ow_val rfl rfl (Go.Sl.v_assign rfl) ?_
  refine Go.Sl.ow_nil ?_
  refine Go.Sl.xw_then ?_
  refine Go.Sl.cw_seq ?_
  refine Go.Sl.cw_region ?_
  refine Go.Sl.ow_val rfl rfl (Go.Sl.v_move rfl) ?_
  refine Go.Sl.ow_val rfl rfl (Go.Sl.v_assign rfl) ?_
  refine Go.Sl.ow_val rfl rfl (Go.Sl.v_assign rfl) ?_
  refine Go.Sl.ow_nil ?_
  refine Go.Sl.xw_then ?_
  refine Go.Sl.cw_seq ?_
  refine Go.Sl.cw_block ?_
  refine Go.Sl.cw_loop2 (ι := ((Nat × Nat))) [(1, _), (4, _)] ⟨rfl, rfl, trivial⟩ ((fun x => [(5, .int .i64 x.1), (6, .int .i64 x.2)])) ((fun x => x.1 ≤ k ∧ k ≤ x.2 ∧ x.2 ≤ n)) ((fun x => x.2 - x.1)) ((fun _ => G)) (((0, n) : Nat × Nat)) (by repeat (first | exact True.intro | refine And.intro rfl ?_)) (by first | exact Go.Sl.Cov.refl _ | (intro p; simp only [List.flatten_cons, List.flatten_nil, List.flatten_append, List.append_nil, List.nil_append, Go.Sl.cnt_append, Go.Sl.cnt_cons, Go.Sl.cnt_nil, List.set_cons_zero, List.set_cons_succ, List.length_nil, List.length_cons, Nat.zero_add, List.append]; omega)) ?_ ?_
  · exact ⟨Nat.zero_le _, hk, Nat.le_refl _⟩
  rintro ⟨i, j⟩ ⟨hi, hj, hjn⟩
  dsimp only at hi hj hjn ⊢
  refine Go.Sl.cw_seq ?_
  refine Go.Sl.cw_seq ?_
  refine Go.Sl.cw_region ?_
  refine Go.Sl.ow_val rfl rfl (Go.Sl.v_move rfl) ?_
  refine Go.Sl.ow_val rfl rfl (Go.Sl.v_move rfl) ?_
  refine Go.Sl.ow_val rfl rfl (Go.Sl.v_lss rfl rfl) ?_
  refine Go.Sl.ow_nil ?_
  refine Go.Sl.xw_then ?_
  refine Go.Sl.cw_dec rfl (fun hc11 => ?_) (fun hc11 => ?_)
  refine Go.Sl.cw_skip ?_
  refine Go.Sl.xw_then ?_
  refine Go.Sl.cw_block ?_
  refine Go.Sl.cw_seq ?_
  refine Go.Sl.cw_region ?_
  refine Go.Sl.ow_val rfl rfl (Go.Sl.v_move rfl) ?_
  refine Go.Sl.ow_val rfl rfl (Go.Sl.v_move rfl) ?_
  refine Go.Sl.ow_val rfl rfl (Go.Sl.v_add rfl rfl (Go.Sl.nw_i64 (by omega) (by omega))) ?_
  refine Go.Sl.ow_val rfl rfl (Go.Sl.v_convert Try.underlying3 Try.underlying166 rfl (Go.Sl.nw_u64 (by omega) (by omega))) ?_
  refine Go.Sl.ow_val rfl rfl (Go.Sl.v_shr rfl rfl (by omega) rfl) ?_
  refine Go.Sl.ow_val rfl rfl (Go.Sl.v_convert Try.underlying166 Try.underlying3 rfl rfl) ?_
  refine Go.Sl.ow_val rfl rfl (Go.Sl.v_assign rfl) ?_
  refine Go.Sl.ow_nil ?_
  refine Go.Sl.xw_then ?_
  rotate_left
  refine Go.Sl.cw_exit ?_
  refine Go.Sl.xw_then_exit ?_
  refine Go.Sl.xw_round_exit ?_
  refine Go.Sl.xw_block_exit ?_
  refine Go.Sl.xw_then ?_
  refine Go.Sl.cw_seq ?_
  refine Go.Sl.cw_region ?_
  refine Go.Sl.ow_val rfl rfl (Go.Sl.v_move rfl) ?_
  refine Go.Sl.ow_val rfl rfl (Go.Sl.v_assign rfl) ?_
  refine Go.Sl.ow_nil ?_
  refine Go.Sl.xw_then ?_
  refine Go.Sl.cw_ret ?_
  refine Go.Sl.ret1 rfl (Go.Sl.res_tmp rfl) ?_
  rotate_left
  · have hh : (i + j) / 2 < n := by omega
    have he : IntKind.i64.wrap (((i : Int) + (j : Int)).fdiv (2 ^ min (Int.toNat 1) IntKind.u64.bits)) = (((i + j) / 2 : Nat) : Int) := by
      have h2 : (2 : Int) ^ min (Int.toNat 1) IntKind.u64.bits = 2 := by decide
      rw [h2, Int.fdiv_eq_ediv_of_nonneg _ (by decide), Go.Sl.nw_i64 (by omega) (by omega)]
      omega
    rw [he]
    refine Go.Sl.cw_seq ?_
    refine Go.Sl.cw_region ?_
    refine Go.Sl.ow_val rfl rfl (Go.Sl.v_move rfl) ?_
    refine Go.Sl.ow_val rfl rfl (Go.Sl.v_move rfl) ?_
    refine Go.Sl.ow_val rfl rfl (Go.Sl.v_call rfl rfl (hf ((i + j) / 2) hh)) ?_
    refine Go.Sl.ow_val rfl rfl (Go.Sl.v_not_bool rfl) ?_
    refine Go.Sl.ow_nil ?_
    refine Go.Sl.xw_then ?_
    refine Go.Sl.cw_bool rfl (fun hc21 => ?_) (fun hc21 => ?_)
    refine Go.Sl.cw_region ?_
    refine Go.Sl.ow_val rfl rfl (Go.Sl.v_move rfl) ?_
    refine Go.Sl.ow_val rfl rfl (Go.Sl.v_add rfl rfl (Go.Sl.nw_i64 (by omega) (by omega))) ?_
    refine Go.Sl.ow_val rfl rfl (Go.Sl.v_assign rfl) ?_
    refine Go.Sl.ow_nil ?_
    refine Go.Sl.xw_block ?_
    rotate_left
    refine Go.Sl.cw_region ?_
    refine Go.Sl.ow_val rfl rfl (Go.Sl.v_move rfl) ?_
    refine Go.Sl.ow_val rfl rfl (Go.Sl.v_assign rfl) ?_
    refine Go.Sl.ow_nil ?_
    refine Go.Sl.xw_block ?_
    rotate_left
    · have hik : (i + j) / 2 + 1 ≤ k := by
        refine Nat.lt_of_not_le fun h => ?_
        have := hhi _ h hh
        rw [this] at hc21
        cases hc21
      exact xw_round (((i + j) / 2 + 1, j) : Nat × Nat) ⟨hik, hj, hjn⟩ (by dsimp only; omega) (by first | exact Go.Sl.Cov.refl _ | (intro p; simp only [List.flatten_cons, List.flatten_nil, List.flatten_append, List.append_nil, List.nil_append, Go.Sl.cnt_append, Go.Sl.cnt_cons, Go.Sl.cnt_nil, List.set_cons_zero, List.set_cons_succ, List.length_nil, List.length_cons, Nat.zero_add, List.append]; omega)) (by repeat (first | exact True.intro | refine And.intro rfl ?_))
    · have hik : k ≤ (i + j) / 2 := by
        refine Nat.le_of_not_lt fun h => ?_
        have := hlo _ h
        rw [this] at hc21
        cases hc21
      exact xw_round ((i, (i + j) / 2) : Nat × Nat) ⟨hi, hik, by dsimp only; omega⟩ (by dsimp only; omega) (by first | exact Go.Sl.Cov.refl _ | (intro p; simp only [List.flatten_cons, List.flatten_nil, List.flatten_append, List.append_nil, List.nil_append, Go.Sl.cnt_append, Go.Sl.cnt_cons, Go.Sl.cnt_nil, List.set_cons_zero, List.set_cons_succ, List.length_nil, List.length_cons, Nat.zero_add, List.append]; omega)) (by repeat (first | exact True.intro | refine And.intro rfl ?_))
  · refine ⟨?_, (by first | exact Go.Sl.Cov.refl _ | (intro p; simp only [List.flatten_cons, List.flatten_nil, List.flatten_append, List.append_nil, List.nil_append, Go.Sl.cnt_append, Go.Sl.cnt_cons, Go.Sl.cnt_nil, List.set_cons_zero, List.set_cons_succ, List.length_nil, List.length_cons, Nat.zero_add, List.append]; omega))⟩
    rw [show i = k by omega]
end Go.Proofs.Ytckdhelnafjddaa
