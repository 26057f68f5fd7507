/- What the functions of Go's package slices do that package ids calls, and what an entry is in memory. Conditions: lists are short. -/
import Derived.Test.YtfilpenkihdjiaaTypes
namespace Go.Proofs.Ytfilpenkihdjiaa
open Go Go.Sl Go.Proofs
set_option linter.unusedVariables false
set_option linter.unusedSimpArgs false

theorem u8Ty : EncTy Try.prog 5 enB := enB_ty Ty.sc5
def enU : Enc Int := ⟨fun n => [.int .u64 n], 1, fun n => .int .u64 n, fun n => 0 ≤ n ∧ n ≤ 18446744073709551615⟩
theorem uTy : EncTy Try.prog 27 enU := EncTy.scalar Ty.sc27 rfl (fun _ => rfl) (fun _ => rfl)

structure Entry where
  seq : Int
  id : ByteArray
  tok : List Int
deriving DecidableEq
def Entry.cells (e : Entry) : List Value := .int .u64 e.seq :: .string e.id :: e.tok.map (Value.int .u8)
def enE : Enc Entry := ⟨Entry.cells, 18, fun e => .agg e.cells.toArray, fun e => 0 ≤ e.seq ∧ e.seq ≤ 18446744073709551615 ∧ e.tok.length = 16⟩
theorem eTy : EncTy Try.prog 30 enE := EncTy.agg Ty.ag30 (by decide) (fun _ => rfl) (fun a h => by simp [enE, Entry.cells, h.2.2]) (fun a _ u hu => by
  simp only [enE, Entry.cells, List.mem_cons, List.mem_map] at hu
  rcases hu with rfl | rfl | ⟨x, _, rfl⟩ <;> rfl)

/-- the first place of an element, or -1 -/
def idxF {α : Type} (p : α → Bool) (l : List α) : Int := match l.findIdx? p with | some i => i | none => -1
theorem idxF_at {α : Type} {p : α → Bool} {l : List α} {i : Nat} (hi : i < l.length) (hp : p l[i] = true) (hno : ∀ j (h : j < l.length), j < i → p l[j] = false) : idxF p l = i := by
  unfold idxF
  rw [List.findIdx?_eq_some_iff_getElem.2 ⟨hi, hp, fun j hj => by simp [hno j (by omega) hj]⟩]
theorem idxF_none {α : Type} {p : α → Bool} {l : List α} (hno : ∀ j (h : j < l.length), p l[j] = false) : idxF p l = -1 := by
  unfold idxF
  rw [List.findIdx?_eq_none_iff.2 fun x hx => by obtain ⟨j, h, rfl⟩ := List.mem_iff_getElem.1 hx; exact hno j h]
theorem idxF_neg {α : Type} {p : α → Bool} {l : List α} (h : idxF p l = -1) : ∀ a ∈ l, p a = false := by
  unfold idxF at h
  cases h1 : l.findIdx? p with
  | some i => rw [h1] at h; have h2 : (i : Int) = -1 := h; omega
  | none => exact List.findIdx?_eq_none_iff.1 h1
theorem idxF_pos {α : Type} {p : α → Bool} {l : List α} (h : ¬ idxF p l = -1) : ∃ i : Nat, idxF p l = i ∧ ∃ hi : i < l.length, p l[i] = true ∧ ∀ j (h : j < l.length), j < i → p l[j] = false := by
  unfold idxF at h ⊢
  cases h1 : l.findIdx? p with
  | none => rw [h1] at h; exact absurd rfl h
  | some i =>
    obtain ⟨h2, h3, h4⟩ := List.findIdx?_eq_some_iff_getElem.1 h1
    exact ⟨i, rfl, h2, h3, fun j h hj => by simpa using h4 j hj⟩
theorem idxF_bd {α : Type} {p : α → Bool} {l : List α} : -1 ≤ idxF p l ∧ idxF p l ≤ (l.length : Int) - 1 := by
  by_cases h : idxF p l = -1
  · omega
  · obtain ⟨i, h1, h2, _⟩ := idxF_pos h
    omega
theorem idxF_any {α : Type} {p : α → Bool} {l : List α} : decide (0 ≤ idxF p l) = l.any p := by
  unfold idxF
  cases h : l.findIdx? p with
  | some i =>
    obtain ⟨h1, h2, _⟩ := List.findIdx?_eq_some_iff_getElem.1 h
    rw [List.any_eq_true.2 ⟨l[i], List.getElem_mem _, h2⟩]
    exact decide_eq_true (by show (0 : Int) ≤ i; omega)
  | none =>
    have h1 := List.findIdx?_eq_none_iff.1 h
    rw [List.any_eq_false.2 fun x hx => by simp [h1 x hx]]
    rfl

theorem cloneU_c {B : Nat} {w0 : World} {G : List Hp} {v : Value} {l} (hV : Vw enU (St B w0 G) v l) (hb : l.length ≤ 100000000) :
    Go.Sl.Fn Try.prog 30 #[v] B w0 G fun u G' => ∃ x : Option Addr × Nat × Hp, u = .slice x.1 l.length x.2.1 ∧ Ls enU 27 (.slice x.1 l.length x.2.1) x.2.2 l ∧ G' = [x.2.2] ++ G := by
  refine Fn.new ?_
  obtain ⟨ao, cap, rfl, hcap⟩ := hV.view
  refine fn_enter Try.func30 rfl (by kernel_rfl) Try.ntmps30 (by simp) ?_
  refine Go.Sl.cw_seq ?_
  refine Go.Sl.cw_region ?_
  refine Go.Sl.ow_val rfl rfl (Go.Sl.v_assign rfl) ?_
  refine Go.Sl.ow_nil ?_
  refine Go.Sl.xw_then ?_
  refine Go.Sl.cw_seq ?_
  refine Go.Sl.cw_seq ?_
  refine Go.Sl.cw_region ?_
  refine Go.Sl.ow_val rfl rfl (Go.Sl.v_move rfl) ?_
  refine Go.Sl.ow_val rfl rfl (Go.Sl.v_eql_slnil Try.underlying32 rfl) ?_
  refine Go.Sl.ow_nil ?_
  refine Go.Sl.xw_then ?_
  refine Go.Sl.cw_bool rfl (fun hc4 => ?_) (fun hc4 => ?_)
  refine Go.Sl.cw_seq ?_
  refine Go.Sl.cw_region ?_
  refine Go.Sl.ow_val rfl rfl (Go.Sl.v_assign rfl) ?_
  refine Go.Sl.ow_nil ?_
  refine Go.Sl.xw_then ?_
  refine Go.Sl.cw_ret ?_
  refine Go.Sl.xw_then_ret ?_
  refine Go.Sl.ret1 rfl (Go.Sl.res_tmp rfl) ?_
  rotate_left
  refine Go.Sl.cw_skip ?_
  refine Go.Sl.xw_then ?_
  refine Go.Sl.cw_seq ?_
  refine Go.Sl.cw_region ?_
  (refine Go.Sl.ow_buildL (es := []) rfl rfl Try.underlying32 Ty.em32 (uTy) rfl rfl (by simp [*]) (by simp only [List.length_cons, List.length_nil]; decide) ?_; intro ao5 c5 hL5)
  refine Go.Sl.ow_val rfl rfl (Go.Sl.v_move rfl) ?_
  (refine Go.Sl.ow_appendL rfl rfl Try.underlying32 Try.underlying32 Ty.em32 (uTy) rfl rfl (by assumption) (by repeat (first | exact Go.Sl.Sel.here | apply Go.Sl.Sel.there)) (hV.there) (by first | omega | (simp only [List.length_append, List.length_take, List.length_drop, List.length_nil, List.length_cons]; omega)) (by first | omega | (simp only [List.length_append, List.length_take, List.length_drop, List.length_nil, List.length_cons]; omega)) ?_; intro ao7 cap7 c7 hL7)
  refine Go.Sl.ow_val rfl rfl (Go.Sl.v_assign rfl) ?_
  refine Go.Sl.ow_nil ?_
  refine Go.Sl.xw_then ?_
  refine Go.Sl.cw_ret ?_
  refine Go.Sl.ret1 rfl (Go.Sl.res_tmp rfl) ?_
  rotate_left
  · have hao : ao = none := by simpa using hc4
    have hl : l = [] := by
      cases l with
      | nil => rfl
      | cons a l => have := (hV.get _ _ _ rfl (by simp)).1; rw [hao] at this; simp at this
    subst hl
    exact ⟨(none, 0, []), rfl, Ls.nil, (by first | exact Go.Sl.Cov.refl _ | (intro p; simp only [List.flatten_cons, List.flatten_nil, List.flatten_append, List.append_nil, List.nil_append, Go.Sl.cnt_append, Go.Sl.cnt_cons, Go.Sl.cnt_nil, List.set_cons_zero, List.set_cons_succ, List.length_nil, List.length_cons, Nat.zero_add, List.append]; omega))⟩
  · exact ⟨(ao7, cap7, c7), by simp, by simpa using hL7, (by first | exact Go.Sl.Cov.refl _ | (intro p; simp only [List.flatten_cons, List.flatten_nil, List.flatten_append, List.append_nil, List.nil_append, Go.Sl.cnt_append, Go.Sl.cnt_cons, Go.Sl.cnt_nil, List.set_cons_zero, List.set_cons_succ, List.length_nil, List.length_cons, Nat.zero_add, List.append]; omega))⟩

theorem cloneE_c {B : Nat} {w0 : World} {G : List Hp} {v : Value} {l} (hV : Vw enE (St B w0 G) v l) (hb : l.length ≤ 100000000) :
    Go.Sl.Fn Try.prog 38 #[v] B w0 G fun u G' => ∃ x : Option Addr × Nat × Hp, u = .slice x.1 l.length x.2.1 ∧ Ls enE 30 (.slice x.1 l.length x.2.1) x.2.2 l ∧ G' = [x.2.2] ++ G := by
  refine Fn.new ?_
  obtain ⟨ao, cap, rfl, hcap⟩ := hV.view
  refine fn_enter Try.func38 rfl (by kernel_rfl) Try.ntmps38 (by simp) ?_
  refine Go.Sl.cw_seq ?_
  refine Go.Sl.cw_region ?_
  refine Go.Sl.ow_val rfl rfl (Go.Sl.v_assign rfl) ?_
  refine Go.Sl.ow_nil ?_
  refine Go.Sl.xw_then ?_
  refine Go.Sl.cw_seq ?_
  refine Go.Sl.cw_seq ?_
  refine Go.Sl.cw_region ?_
  refine Go.Sl.ow_val rfl rfl (Go.Sl.v_move rfl) ?_
  refine Go.Sl.ow_val rfl rfl (Go.Sl.v_eql_slnil Try.underlying31 rfl) ?_
  refine Go.Sl.ow_nil ?_
  refine Go.Sl.xw_then ?_
  refine Go.Sl.cw_bool rfl (fun hc4 => ?_) (fun hc4 => ?_)
  refine Go.Sl.cw_seq ?_
  refine Go.Sl.cw_region ?_
  refine Go.Sl.ow_val rfl rfl (Go.Sl.v_assign rfl) ?_
  refine Go.Sl.ow_nil ?_
  refine Go.Sl.xw_then ?_
  refine Go.Sl.cw_ret ?_
  refine Go.Sl.xw_then_ret ?_
  refine Go.Sl.ret1 rfl (Go.Sl.res_tmp rfl) ?_
  rotate_left
  refine Go.Sl.cw_skip ?_
  refine Go.Sl.xw_then ?_
  refine Go.Sl.cw_seq ?_
  refine Go.Sl.cw_region ?_
  (refine Go.Sl.ow_buildL (es := []) rfl rfl Try.underlying31 Ty.em31 (eTy) rfl rfl (by simp [*]) (by simp only [List.length_cons, List.length_nil]; decide) ?_; intro ao5 c5 hL5)
  refine Go.Sl.ow_val rfl rfl (Go.Sl.v_move rfl) ?_
  (refine Go.Sl.ow_appendL rfl rfl Try.underlying31 Try.underlying31 Ty.em31 (eTy) rfl rfl (by assumption) (by repeat (first | exact Go.Sl.Sel.here | apply Go.Sl.Sel.there)) (hV.there) (by first | omega | (simp only [List.length_append, List.length_take, List.length_drop, List.length_nil, List.length_cons]; omega)) (by first | omega | (simp only [List.length_append, List.length_take, List.length_drop, List.length_nil, List.length_cons]; omega)) ?_; intro ao7 cap7 c7 hL7)
  refine Go.Sl.ow_val rfl rfl (Go.Sl.v_assign rfl) ?_
  refine Go.Sl.ow_nil ?_
  refine Go.Sl.xw_then ?_
  refine Go.Sl.cw_ret ?_
  refine Go.Sl.ret1 rfl (Go.Sl.res_tmp rfl) ?_
  rotate_left
  · have hao : ao = none := by simpa using hc4
    have hl : l = [] := by
      cases l with
      | nil => rfl
      | cons a l => have := (hV.get _ _ _ rfl (by simp)).1; rw [hao] at this; simp at this
    subst hl
    exact ⟨(none, 0, []), rfl, Ls.nil, (by first | exact Go.Sl.Cov.refl _ | (intro p; simp only [List.flatten_cons, List.flatten_nil, List.flatten_append, List.append_nil, List.nil_append, Go.Sl.cnt_append, Go.Sl.cnt_cons, Go.Sl.cnt_nil, List.set_cons_zero, List.set_cons_succ, List.length_nil, List.length_cons, Nat.zero_add, List.append]; omega))⟩
  · exact ⟨(ao7, cap7, c7), by simp, by simpa using hL7, (by first | exact Go.Sl.Cov.refl _ | (intro p; simp only [List.flatten_cons, List.flatten_nil, List.flatten_append, List.append_nil, List.nil_append, Go.Sl.cnt_append, Go.Sl.cnt_cons, Go.Sl.cnt_nil, List.set_cons_zero, List.set_cons_succ, List.length_nil, List.length_cons, Nat.zero_add, List.append]; omega))⟩

theorem indexU_c {B : Nat} {w0 : World} {G : List Hp} {v : Value} {l} {n : Int} (hV : Vw enU (St B w0 G) v l) (hb : l.length ≤ 100000000) :
    Go.Sl.Fn Try.prog 42 #[v, .int .u64 n] B w0 G fun u G' => u = .int .i64 (idxF (fun a => decide (n = a)) l) ∧ G' = G := by
  refine Fn.pure ?_
  obtain ⟨ao, cap, rfl, hcap⟩ := hV.view
  refine fn_enter Try.func42 rfl (by kernel_rfl) Try.ntmps42 (by simp) ?_
  refine Go.Sl.cw_seq ?_
  refine Go.Sl.cw_region ?_
  refine Go.Sl.ow_val rfl rfl (Go.Sl.v_assign rfl) ?_
  refine Go.Sl.ow_nil ?_
  refine Go.Sl.xw_then ?_
  refine Go.Sl.cw_seq ?_
  refine Go.Sl.cw_seq ?_
  refine Go.Sl.cw_region ?_
  refine Go.Sl.ow_val rfl rfl (Go.Sl.v_move rfl) ?_
  refine Go.Sl.ow_val rfl rfl (Go.Sl.v_len rfl Try.underlying32 rfl) ?_
  refine Go.Sl.ow_val rfl rfl (Go.Sl.v_move rfl) ?_
  refine Go.Sl.ow_nil ?_
  refine Go.Sl.xw_then ?_
  refine Go.Sl.cw_block ?_
  refine Go.Sl.cw_loop2 (ι := (Nat)) [(0, _), (1, _), (7, _)] ⟨rfl, rfl, rfl, trivial⟩ ((fun i => [(8, .int .i64 i)])) ((fun i => i ≤ l.length ∧ ∀ j (h : j < l.length), j < i → ¬ n = l[j])) ((fun i => l.length - i)) ((fun _ => G)) (0) (by repeat (first | exact True.intro | refine And.intro rfl ?_)) (by first | exact Go.Sl.Cov.refl _ | (intro p; simp only [List.flatten_cons, List.flatten_nil, List.flatten_append, List.append_nil, List.nil_append, Go.Sl.cnt_append, Go.Sl.cnt_cons, Go.Sl.cnt_nil, List.set_cons_zero, List.set_cons_succ, List.length_nil, List.length_cons, Nat.zero_add, List.append]; omega)) ?_ ?_
  · exact ⟨Nat.zero_le _, fun j _ h => absurd h (by omega)⟩
  rintro i ⟨hi, hno⟩
  refine Go.Sl.cw_seq ?_
  refine Go.Sl.cw_region ?_
  refine Go.Sl.ow_val rfl rfl (Go.Sl.v_lss rfl rfl) ?_
  refine Go.Sl.ow_nil ?_
  refine Go.Sl.xw_then ?_
  refine Go.Sl.cw_seq ?_
  refine Go.Sl.cw_dec rfl (fun hc9 => ?_) (fun hc9 => ?_)
  refine Go.Sl.cw_skip ?_
  refine Go.Sl.xw_then ?_
  refine Go.Sl.cw_seq ?_
  refine Go.Sl.cw_block ?_
  refine Go.Sl.cw_seq ?_
  refine Go.Sl.cw_region ?_
  refine Go.Sl.ow_val rfl rfl (Go.Sl.v_move rfl) ?_
  refine Go.Sl.ow_val rfl rfl (Go.Sl.v_assign rfl) ?_
  refine Go.Sl.ow_nil ?_
  refine Go.Sl.xw_then ?_
  refine Go.Sl.cw_seq ?_
  refine Go.Sl.cw_region ?_
  refine Go.Sl.ow_val rfl rfl (Go.Sl.v_move rfl) ?_
  refine Go.Sl.ow_val rfl rfl (Go.Sl.v_move rfl) ?_
  refine Go.Sl.ow_val rfl rfl (Go.Sl.v_move rfl) ?_
  refine Go.Sl.ow_val rfl rfl (Go.Sl.v_indexAddr_vw Try.underlying32 (uTy) rfl rfl (by assumption) rfl (by omega)) ?_
  refine Go.Sl.ow_val rfl rfl (Go.Sl.v_load rfl (Go.Sl.Vw.var (uTy) (hV) (by omega))) ?_
  refine Go.Sl.ow_val rfl rfl (Go.Sl.v_eql rfl rfl) ?_
  refine Go.Sl.ow_nil ?_
  refine Go.Sl.xw_then ?_
  refine Go.Sl.cw_dec rfl (fun hc16 => ?_) (fun hc16 => ?_)
  refine Go.Sl.cw_seq ?_
  refine Go.Sl.cw_region ?_
  refine Go.Sl.ow_val rfl rfl (Go.Sl.v_move rfl) ?_
  refine Go.Sl.ow_val rfl rfl (Go.Sl.v_assign rfl) ?_
  refine Go.Sl.ow_nil ?_
  refine Go.Sl.xw_then ?_
  refine Go.Sl.cw_ret ?_
  refine Go.Sl.xw_block_ret ?_
  refine Go.Sl.xw_then_ret ?_
  refine Go.Sl.xw_round_ret ?_
  refine Go.Sl.xw_block_ret ?_
  refine Go.Sl.xw_then_ret ?_
  refine Go.Sl.ret1 rfl (Go.Sl.res_tmp rfl) ?_
  rotate_left
  refine Go.Sl.cw_skip ?_
  refine Go.Sl.xw_block ?_
  refine Go.Sl.xw_then ?_
  refine Go.Sl.cw_region ?_
  refine Go.Sl.ow_val rfl rfl (Go.Sl.v_add rfl rfl (Go.Sl.nw_i64 (by omega) (by omega))) ?_
  refine Go.Sl.ow_val rfl rfl (Go.Sl.v_move rfl) ?_
  refine Go.Sl.ow_nil ?_
  rotate_left
  refine Go.Sl.cw_exit ?_
  refine Go.Sl.xw_then_exit ?_
  refine Go.Sl.xw_round_exit ?_
  refine Go.Sl.xw_block_exit ?_
  refine Go.Sl.xw_then ?_
  refine Go.Sl.cw_seq ?_
  refine Go.Sl.cw_region ?_
  refine Go.Sl.ow_val rfl rfl (Go.Sl.v_assign rfl) ?_
  refine Go.Sl.ow_nil ?_
  refine Go.Sl.xw_then ?_
  refine Go.Sl.cw_ret ?_
  refine Go.Sl.ret1 rfl (Go.Sl.res_tmp rfl) ?_
  rotate_left
  · refine ⟨?_, (by first | exact Go.Sl.Cov.refl _ | (intro p; simp only [List.flatten_cons, List.flatten_nil, List.flatten_append, List.append_nil, List.nil_append, Go.Sl.cnt_append, Go.Sl.cnt_cons, Go.Sl.cnt_nil, List.set_cons_zero, List.set_cons_succ, List.length_nil, List.length_cons, Nat.zero_add, List.append]; omega))⟩
    rw [idxF_at (i := i) (by omega) (by simpa using hc16) (fun j h hj => by simpa using hno j h hj)]
  · exact xw_round (i + 1) ⟨by omega, fun j h hj => by
      by_cases hji : j = i
      · subst hji; exact hc16
      · exact hno j h (by omega)⟩ (by omega) (by first | exact Go.Sl.Cov.refl _ | (intro p; simp only [List.flatten_cons, List.flatten_nil, List.flatten_append, List.append_nil, List.nil_append, Go.Sl.cnt_append, Go.Sl.cnt_cons, Go.Sl.cnt_nil, List.set_cons_zero, List.set_cons_succ, List.length_nil, List.length_cons, Nat.zero_add, List.append]; omega)) (by repeat (first | exact True.intro | refine And.intro rfl ?_))
  · refine ⟨?_, (by first | exact Go.Sl.Cov.refl _ | (intro p; simp only [List.flatten_cons, List.flatten_nil, List.flatten_append, List.append_nil, List.nil_append, Go.Sl.cnt_append, Go.Sl.cnt_cons, Go.Sl.cnt_nil, List.set_cons_zero, List.set_cons_succ, List.length_nil, List.length_cons, Nat.zero_add, List.append]; omega))⟩
    rw [idxF_none (fun j h => by simpa using hno j h (by omega))]

theorem indexFuncU_c {B : Nat} {w0 : World} {G : List Hp} {v : Value} {l} {f : FuncId} {cs : List Value} {p} (hV : Vw enU (St B w0 G) v l) (hb : l.length ≤ 100000000)
    (hf : ∀ a ∈ l, Go.Sl.Fn Try.prog f ([] ++ [enU.val a] ++ cs).toArray B w0 G fun u G' => u = .bool (p a) ∧ G' = G) :
    Go.Sl.Fn Try.prog 47 #[v, .func (.func f) #[] cs.toArray] B w0 G fun u G' => u = .int .i64 (idxF p l) ∧ G' = G := by
  refine Fn.pure ?_
  obtain ⟨ao, cap, rfl, hcap⟩ := hV.view
  refine fn_enter Try.func47 rfl (by kernel_rfl) Try.ntmps47 (by simp) ?_
  refine Go.Sl.cw_seq ?_
  refine Go.Sl.cw_region ?_
  refine Go.Sl.ow_val rfl rfl (Go.Sl.v_assign rfl) ?_
  refine Go.Sl.ow_nil ?_
  refine Go.Sl.xw_then ?_
  refine Go.Sl.cw_seq ?_
  refine Go.Sl.cw_seq ?_
  refine Go.Sl.cw_region ?_
  refine Go.Sl.ow_val rfl rfl (Go.Sl.v_move rfl) ?_
  refine Go.Sl.ow_val rfl rfl (Go.Sl.v_len rfl Try.underlying32 rfl) ?_
  refine Go.Sl.ow_val rfl rfl (Go.Sl.v_move rfl) ?_
  refine Go.Sl.ow_nil ?_
  refine Go.Sl.xw_then ?_
  refine Go.Sl.cw_block ?_
  refine Go.Sl.cw_loop2 (ι := (Nat)) [(0, _), (1, _), (7, _)] ⟨rfl, rfl, rfl, trivial⟩ ((fun i => [(8, .int .i64 i)])) ((fun i => i ≤ l.length ∧ ∀ j (h : j < l.length), j < i → p l[j] = false)) ((fun i => l.length - i)) ((fun _ => G)) (0) (by repeat (first | exact True.intro | refine And.intro rfl ?_)) (by first | exact Go.Sl.Cov.refl _ | (intro p; simp only [List.flatten_cons, List.flatten_nil, List.flatten_append, List.append_nil, List.nil_append, Go.Sl.cnt_append, Go.Sl.cnt_cons, Go.Sl.cnt_nil, List.set_cons_zero, List.set_cons_succ, List.length_nil, List.length_cons, Nat.zero_add, List.append]; omega)) ?_ ?_
  · exact ⟨Nat.zero_le _, fun j _ h => absurd h (by omega)⟩
  rintro i ⟨hi, hno⟩
  refine Go.Sl.cw_seq ?_
  refine Go.Sl.cw_region ?_
  refine Go.Sl.ow_val rfl rfl (Go.Sl.v_lss rfl rfl) ?_
  refine Go.Sl.ow_nil ?_
  refine Go.Sl.xw_then ?_
  refine Go.Sl.cw_seq ?_
  refine Go.Sl.cw_dec rfl (fun hc9 => ?_) (fun hc9 => ?_)
  refine Go.Sl.cw_skip ?_
  refine Go.Sl.xw_then ?_
  refine Go.Sl.cw_seq ?_
  refine Go.Sl.cw_block ?_
  refine Go.Sl.cw_seq ?_
  refine Go.Sl.cw_region ?_
  refine Go.Sl.ow_val rfl rfl (Go.Sl.v_move rfl) ?_
  refine Go.Sl.ow_val rfl rfl (Go.Sl.v_assign rfl) ?_
  refine Go.Sl.ow_nil ?_
  refine Go.Sl.xw_then ?_
  refine Go.Sl.cw_seq ?_
  refine Go.Sl.cw_region ?_
  refine Go.Sl.ow_val rfl rfl (Go.Sl.v_move rfl) ?_
  refine Go.Sl.ow_val rfl rfl (Go.Sl.v_move rfl) ?_
  refine Go.Sl.ow_val rfl rfl (Go.Sl.v_move rfl) ?_
  refine Go.Sl.ow_val rfl rfl (Go.Sl.v_indexAddr_vw Try.underlying32 (uTy) rfl rfl (by assumption) rfl (by omega)) ?_
  refine Go.Sl.ow_val rfl rfl (Go.Sl.v_load rfl (Go.Sl.Vw.var (uTy) (hV) (by omega))) ?_
  refine Go.Sl.ow_val rfl rfl (Go.Sl.v_call rfl rfl (hf (l[i]'(by omega)) (List.getElem_mem _))) ?_
  refine Go.Sl.ow_nil ?_
  refine Go.Sl.xw_then ?_
  refine Go.Sl.cw_bool rfl (fun hc16 => ?_) (fun hc16 => ?_)
  refine Go.Sl.cw_seq ?_
  refine Go.Sl.cw_region ?_
  refine Go.Sl.ow_val rfl rfl (Go.Sl.v_move rfl) ?_
  refine Go.Sl.ow_val rfl rfl (Go.Sl.v_assign rfl) ?_
  refine Go.Sl.ow_nil ?_
  refine Go.Sl.xw_then ?_
  refine Go.Sl.cw_ret ?_
  refine Go.Sl.xw_block_ret ?_
  refine Go.Sl.xw_then_ret ?_
  refine Go.Sl.xw_round_ret ?_
  refine Go.Sl.xw_block_ret ?_
  refine Go.Sl.xw_then_ret ?_
  refine Go.Sl.ret1 rfl (Go.Sl.res_tmp rfl) ?_
  rotate_left
  refine Go.Sl.cw_skip ?_
  refine Go.Sl.xw_block ?_
  refine Go.Sl.xw_then ?_
  refine Go.Sl.cw_region ?_
  refine Go.Sl.ow_val rfl rfl (Go.Sl.v_add rfl rfl (Go.Sl.nw_i64 (by omega) (by omega))) ?_
  refine Go.Sl.ow_val rfl rfl (Go.Sl.v_move rfl) ?_
  refine Go.Sl.ow_nil ?_
  rotate_left
  refine Go.Sl.cw_exit ?_
  refine Go.Sl.xw_then_exit ?_
  refine Go.Sl.xw_round_exit ?_
  refine Go.Sl.xw_block_exit ?_
  refine Go.Sl.xw_then ?_
  refine Go.Sl.cw_seq ?_
  refine Go.Sl.cw_region ?_
  refine Go.Sl.ow_val rfl rfl (Go.Sl.v_assign rfl) ?_
  refine Go.Sl.ow_nil ?_
  refine Go.Sl.xw_then ?_
  refine Go.Sl.cw_ret ?_
  refine Go.Sl.ret1 rfl (Go.Sl.res_tmp rfl) ?_
  rotate_left
  · refine ⟨?_, (by first | exact Go.Sl.Cov.refl _ | (intro p; simp only [List.flatten_cons, List.flatten_nil, List.flatten_append, List.append_nil, List.nil_append, Go.Sl.cnt_append, Go.Sl.cnt_cons, Go.Sl.cnt_nil, List.set_cons_zero, List.set_cons_succ, List.length_nil, List.length_cons, Nat.zero_add, List.append]; omega))⟩
    rw [idxF_at (i := i) (by omega) hc16 hno]
  · exact xw_round (i + 1) ⟨by omega, fun j h hj => by
      by_cases hji : j = i
      · subst hji; exact hc16
      · exact hno j h (by omega)⟩ (by omega) (by first | exact Go.Sl.Cov.refl _ | (intro p; simp only [List.flatten_cons, List.flatten_nil, List.flatten_append, List.append_nil, List.nil_append, Go.Sl.cnt_append, Go.Sl.cnt_cons, Go.Sl.cnt_nil, List.set_cons_zero, List.set_cons_succ, List.length_nil, List.length_cons, Nat.zero_add, List.append]; omega)) (by repeat (first | exact True.intro | refine And.intro rfl ?_))
  · refine ⟨?_, (by first | exact Go.Sl.Cov.refl _ | (intro p; simp only [List.flatten_cons, List.flatten_nil, List.flatten_append, List.append_nil, List.nil_append, Go.Sl.cnt_append, Go.Sl.cnt_cons, Go.Sl.cnt_nil, List.set_cons_zero, List.set_cons_succ, List.length_nil, List.length_cons, Nat.zero_add, List.append]; omega))⟩
    rw [idxF_none (fun j h => hno j h (by omega))]

theorem indexFuncE_c {B : Nat} {w0 : World} {G : List Hp} {v : Value} {l} {f : FuncId} {cs : List Value} {p} (hV : Vw enE (St B w0 G) v l) (hb : l.length ≤ 100000000)
    (hf : ∀ a ∈ l, Go.Sl.Fn Try.prog f ([] ++ [enE.val a] ++ cs).toArray B w0 G fun u G' => u = .bool (p a) ∧ G' = G) :
    Go.Sl.Fn Try.prog 43 #[v, .func (.func f) #[] cs.toArray] B w0 G fun u G' => u = .int .i64 (idxF p l) ∧ G' = G := by
  refine Fn.pure ?_
  obtain ⟨ao, cap, rfl, hcap⟩ := hV.view
  refine fn_enter Try.func43 rfl (by kernel_rfl) Try.ntmps43 (by simp) ?_
  refine Go.Sl.cw_seq ?_
  refine Go.Sl.cw_region ?_
  refine Go.Sl.ow_val rfl rfl (Go.Sl.v_assign rfl) ?_
  refine Go.Sl.ow_nil ?_
  refine Go.Sl.xw_then ?_
  refine Go.Sl.cw_seq ?_
  refine Go.Sl.cw_seq ?_
  refine Go.Sl.cw_region ?_
  refine Go.Sl.ow_val rfl rfl (Go.Sl.v_move rfl) ?_
  refine Go.Sl.ow_val rfl rfl (Go.Sl.v_len rfl Try.underlying31 rfl) ?_
  refine Go.Sl.ow_val rfl rfl (Go.Sl.v_move rfl) ?_
  refine Go.Sl.ow_nil ?_
  refine Go.Sl.xw_then ?_
  refine Go.Sl.cw_block ?_
  refine Go.Sl.cw_loop2 (ι := (Nat)) [(0, _), (1, _), (7, _)] ⟨rfl, rfl, rfl, trivial⟩ ((fun i => [(8, .int .i64 i)])) ((fun i => i ≤ l.length ∧ ∀ j (h : j < l.length), j < i → p l[j] = false)) ((fun i => l.length - i)) ((fun _ => G)) (0) (by repeat (first | exact True.intro | refine And.intro rfl ?_)) (by first | exact Go.Sl.Cov.refl _ | (intro p; simp only [List.flatten_cons, List.flatten_nil, List.flatten_append, List.append_nil, List.nil_append, Go.Sl.cnt_append, Go.Sl.cnt_cons, Go.Sl.cnt_nil, List.set_cons_zero, List.set_cons_succ, List.length_nil, List.length_cons, Nat.zero_add, List.append]; omega)) ?_ ?_
  · exact ⟨Nat.zero_le _, fun j _ h => absurd h (by omega)⟩
  rintro i ⟨hi, hno⟩
  refine Go.Sl.cw_seq ?_
  refine Go.Sl.cw_region ?_
  refine Go.Sl.ow_val rfl rfl (Go.Sl.v_lss rfl rfl) ?_
  refine Go.Sl.ow_nil ?_
  refine Go.Sl.xw_then ?_
  refine Go.Sl.cw_seq ?_
  refine Go.Sl.cw_dec rfl (fun hc9 => ?_) (fun hc9 => ?_)
  refine Go.Sl.cw_skip ?_
  refine Go.Sl.xw_then ?_
  refine Go.Sl.cw_seq ?_
  refine Go.Sl.cw_block ?_
  refine Go.Sl.cw_seq ?_
  refine Go.Sl.cw_region ?_
  refine Go.Sl.ow_val rfl rfl (Go.Sl.v_move rfl) ?_
  refine Go.Sl.ow_val rfl rfl (Go.Sl.v_assign rfl) ?_
  refine Go.Sl.ow_nil ?_
  refine Go.Sl.xw_then ?_
  refine Go.Sl.cw_seq ?_
  refine Go.Sl.cw_region ?_
  refine Go.Sl.ow_val rfl rfl (Go.Sl.v_move rfl) ?_
  refine Go.Sl.ow_val rfl rfl (Go.Sl.v_move rfl) ?_
  refine Go.Sl.ow_val rfl rfl (Go.Sl.v_move rfl) ?_
  refine Go.Sl.ow_val rfl rfl (Go.Sl.v_indexAddr_vw Try.underlying31 (eTy) rfl rfl (by assumption) rfl (by omega)) ?_
  refine Go.Sl.ow_val rfl rfl (Go.Sl.v_load rfl (Go.Sl.Vw.var (eTy) (hV) (by omega))) ?_
  refine Go.Sl.ow_val rfl rfl (Go.Sl.v_call rfl rfl (hf (l[i]'(by omega)) (List.getElem_mem _))) ?_
  refine Go.Sl.ow_nil ?_
  refine Go.Sl.xw_then ?_
  refine Go.Sl.cw_bool rfl (fun hc16 => ?_) (fun hc16 => ?_)
  refine Go.Sl.cw_seq ?_
  refine Go.Sl.cw_region ?_
  refine Go.Sl.ow_val rfl rfl (Go.Sl.v_move rfl) ?_
  refine Go.Sl.ow_val rfl rfl (Go.Sl.v_assign rfl) ?_
  refine Go.Sl.ow_nil ?_
  refine Go.Sl.xw_then ?_
  refine Go.Sl.cw_ret ?_
  refine Go.Sl.xw_block_ret ?_
  refine Go.Sl.xw_then_ret ?_
  refine Go.Sl.xw_round_ret ?_
  refine Go.Sl.xw_block_ret ?_
  refine Go.Sl.xw_then_ret ?_
  refine Go.Sl.ret1 rfl (Go.Sl.res_tmp rfl) ?_
  rotate_left
  refine Go.Sl.cw_skip ?_
  refine Go.Sl.xw_block ?_
  refine Go.Sl.xw_then ?_
  refine Go.Sl.cw_region ?_
  refine Go.Sl.ow_val rfl rfl (Go.Sl.v_add rfl rfl (Go.Sl.nw_i64 (by omega) (by omega))) ?_
  refine Go.Sl.ow_val rfl rfl (Go.Sl.v_move rfl) ?_
  refine Go.Sl.ow_nil ?_
  rotate_left
  refine Go.Sl.cw_exit ?_
  refine Go.Sl.xw_then_exit ?_
  refine Go.Sl.xw_round_exit ?_
  refine Go.Sl.xw_block_exit ?_
  refine Go.Sl.xw_then ?_
  refine Go.Sl.cw_seq ?_
  refine Go.Sl.cw_region ?_
  refine Go.Sl.ow_val rfl rfl (Go.Sl.v_assign rfl) ?_
  refine Go.Sl.ow_nil ?_
  refine Go.Sl.xw_then ?_
  refine Go.Sl.cw_ret ?_
  refine Go.Sl.ret1 rfl (Go.Sl.res_tmp rfl) ?_
  rotate_left
  · refine ⟨?_, (by first | exact Go.Sl.Cov.refl _ | (intro p; simp only [List.flatten_cons, List.flatten_nil, List.flatten_append, List.append_nil, List.nil_append, Go.Sl.cnt_append, Go.Sl.cnt_cons, Go.Sl.cnt_nil, List.set_cons_zero, List.set_cons_succ, List.length_nil, List.length_cons, Nat.zero_add, List.append]; omega))⟩
    rw [idxF_at (i := i) (by omega) hc16 hno]
  · exact xw_round (i + 1) ⟨by omega, fun j h hj => by
      by_cases hji : j = i
      · subst hji; exact hc16
      · exact hno j h (by omega)⟩ (by omega) (by first | exact Go.Sl.Cov.refl _ | (intro p; simp only [List.flatten_cons, List.flatten_nil, List.flatten_append, List.append_nil, List.nil_append, Go.Sl.cnt_append, Go.Sl.cnt_cons, Go.Sl.cnt_nil, List.set_cons_zero, List.set_cons_succ, List.length_nil, List.length_cons, Nat.zero_add, List.append]; omega)) (by repeat (first | exact True.intro | refine And.intro rfl ?_))
  · refine ⟨?_, (by first | exact Go.Sl.Cov.refl _ | (intro p; simp only [List.flatten_cons, List.flatten_nil, List.flatten_append, List.append_nil, List.nil_append, Go.Sl.cnt_append, Go.Sl.cnt_cons, Go.Sl.cnt_nil, List.set_cons_zero, List.set_cons_succ, List.length_nil, List.length_cons, Nat.zero_add, List.append]; omega))⟩
    rw [idxF_none (fun j h => hno j h (by omega))]

theorem containsU_c {B : Nat} {w0 : World} {G : List Hp} {v : Value} {l} {n : Int} (hV : Vw enU (St B w0 G) v l) (hb : l.length ≤ 100000000) :
    Go.Sl.Fn Try.prog 32 #[v, .int .u64 n] B w0 G fun u G' => u = .bool (l.any fun a => decide (n = a)) ∧ G' = G := by
  refine Fn.pure ?_
  refine fn_enter Try.func32 rfl (by kernel_rfl) Try.ntmps32 (by simp) ?_
  refine Go.Sl.cw_seq ?_
  refine Go.Sl.cw_region ?_
  refine Go.Sl.ow_val rfl rfl (Go.Sl.v_assign rfl) ?_
  refine Go.Sl.ow_nil ?_
  refine Go.Sl.xw_then ?_
  refine Go.Sl.cw_seq ?_
  refine Go.Sl.cw_region ?_
  refine Go.Sl.ow_val rfl rfl (Go.Sl.v_move rfl) ?_
  refine Go.Sl.ow_val rfl rfl (Go.Sl.v_move rfl) ?_
  refine Go.Sl.ow_val rfl rfl (Go.Sl.v_call rfl rfl (indexU_c hV hb)) ?_
  refine Go.Sl.ow_val rfl rfl (Go.Sl.v_geq rfl rfl) ?_
  refine Go.Sl.ow_val rfl rfl (Go.Sl.v_assign rfl) ?_
  refine Go.Sl.ow_nil ?_
  refine Go.Sl.xw_then ?_
  refine Go.Sl.cw_ret ?_
  refine Go.Sl.ret1 rfl (Go.Sl.res_tmp rfl) ?_
  refine ⟨?_, (by first | exact Go.Sl.Cov.refl _ | (intro p; simp only [List.flatten_cons, List.flatten_nil, List.flatten_append, List.append_nil, List.nil_append, Go.Sl.cnt_append, Go.Sl.cnt_cons, Go.Sl.cnt_nil, List.set_cons_zero, List.set_cons_succ, List.length_nil, List.length_cons, Nat.zero_add, List.append]; omega))⟩
  rw [← idxF_any]

theorem containsFuncE_c {B : Nat} {w0 : World} {G : List Hp} {v : Value} {l} {f : FuncId} {cs : List Value} {p} (hV : Vw enE (St B w0 G) v l) (hb : l.length ≤ 100000000)
    (hf : ∀ a ∈ l, Go.Sl.Fn Try.prog f ([] ++ [enE.val a] ++ cs).toArray B w0 G fun u G' => u = .bool (p a) ∧ G' = G) :
    Go.Sl.Fn Try.prog 39 #[v, .func (.func f) #[] cs.toArray] B w0 G fun u G' => u = .bool (l.any p) ∧ G' = G := by
  refine Fn.pure ?_
  refine fn_enter Try.func39 rfl (by kernel_rfl) Try.ntmps39 (by simp) ?_
  refine Go.Sl.cw_seq ?_
  refine Go.Sl.cw_region ?_
  refine Go.Sl.ow_val rfl rfl (Go.Sl.v_assign rfl) ?_
  refine Go.Sl.ow_nil ?_
  refine Go.Sl.xw_then ?_
  refine Go.Sl.cw_seq ?_
  refine Go.Sl.cw_region ?_
  refine Go.Sl.ow_val rfl rfl (Go.Sl.v_move rfl) ?_
  refine Go.Sl.ow_val rfl rfl (Go.Sl.v_move rfl) ?_
  refine Go.Sl.ow_val rfl rfl (Go.Sl.v_call rfl rfl (indexFuncE_c hV hb hf)) ?_
  refine Go.Sl.ow_val rfl rfl (Go.Sl.v_geq rfl rfl) ?_
  refine Go.Sl.ow_val rfl rfl (Go.Sl.v_assign rfl) ?_
  refine Go.Sl.ow_nil ?_
  refine Go.Sl.xw_then ?_
  refine Go.Sl.cw_ret ?_
  refine Go.Sl.ret1 rfl (Go.Sl.res_tmp rfl) ?_
  refine ⟨?_, (by first | exact Go.Sl.Cov.refl _ | (intro p; simp only [List.flatten_cons, List.flatten_nil, List.flatten_append, List.append_nil, List.nil_append, Go.Sl.cnt_append, Go.Sl.cnt_cons, Go.Sl.cnt_nil, List.set_cons_zero, List.set_cons_succ, List.length_nil, List.length_cons, Nat.zero_add, List.append]; omega))⟩
  rw [← idxF_any]

theorem deleteE_c {B : Nat} {w0 : World} {G : List Hp} {R : Hp → List Hp} {v : Value} {c : Hp} {l} {i j : Nat} {x y : Int} (hx : x = (i : Int)) (hy : y = (j : Int)) (hs : Sel G c R) (hL : Ls enE 30 v c l) (hi : i ≤ j) (hj : j ≤ l.length) (hb : l.length ≤ 100000000) :
    Go.Sl.Fn Try.prog 35 #[v, .int .i64 x, .int .i64 y] B w0 G fun u G' => ∃ x : Option Addr × Nat × Hp, u = .slice x.1 (l.take i ++ l.drop j).length x.2.1 ∧ Ls enE 30 (.slice x.1 (l.take i ++ l.drop j).length x.2.1) x.2.2 (l.take i ++ l.drop j) ∧ G' = R x.2.2 := by
  subst hx
  subst hy
  refine Fn.sel0 hs fun F _ _ => ?_
  obtain ⟨ao, cap, rfl, hcap⟩ := hL.view
  refine fn_enter Try.func35 rfl (by kernel_rfl) Try.ntmps35 (by simp) ?_
  refine Go.Sl.cw_seq ?_
  refine Go.Sl.cw_region ?_
  refine Go.Sl.ow_val rfl rfl (Go.Sl.v_assign rfl) ?_
  refine Go.Sl.ow_nil ?_
  refine Go.Sl.xw_then ?_
  refine Go.Sl.cw_seq ?_
  refine Go.Sl.cw_region ?_
  refine Go.Sl.ow_val rfl rfl (Go.Sl.v_move rfl) ?_
  refine Go.Sl.ow_val rfl rfl (Go.Sl.v_move rfl) ?_
  refine Go.Sl.ow_val rfl rfl (Go.Sl.v_move rfl) ?_
  refine Go.Sl.ow_val rfl rfl (Go.Sl.v_move rfl) ?_
  refine Go.Sl.ow_val rfl rfl (Go.Sl.v_len rfl Try.underlying31 rfl) ?_
  refine Go.Sl.ow_val rfl rfl (Go.Sl.v_slice_lhm Try.underlying31 Ty.el31 rfl rfl rfl rfl rfl rfl rfl (by omega) (by omega) (by omega)) ?_
  refine Go.Sl.ow_nil ?_
  refine Go.Sl.xw_then ?_
  refine Go.Sl.cw_seq ?_
  refine Go.Sl.cw_seq ?_
  refine Go.Sl.cw_region ?_
  refine Go.Sl.ow_val rfl rfl (Go.Sl.v_move rfl) ?_
  refine Go.Sl.ow_val rfl rfl (Go.Sl.v_move rfl) ?_
  refine Go.Sl.ow_val rfl rfl (Go.Sl.v_eql rfl rfl) ?_
  refine Go.Sl.ow_nil ?_
  refine Go.Sl.xw_then ?_
  refine Go.Sl.cw_dec rfl (fun hc16 => ?_) (fun hc16 => ?_)
  refine Go.Sl.cw_seq ?_
  refine Go.Sl.cw_region ?_
  refine Go.Sl.ow_val rfl rfl (Go.Sl.v_move rfl) ?_
  refine Go.Sl.ow_val rfl rfl (Go.Sl.v_assign rfl) ?_
  refine Go.Sl.ow_nil ?_
  refine Go.Sl.xw_then ?_
  refine Go.Sl.cw_ret ?_
  refine Go.Sl.xw_then_ret ?_
  refine Go.Sl.ret1 rfl (Go.Sl.res_tmp rfl) ?_
  rotate_left
  refine Go.Sl.cw_skip ?_
  refine Go.Sl.xw_then ?_
  refine Go.Sl.cw_seq ?_
  refine Go.Sl.cw_region ?_
  refine Go.Sl.ow_val rfl rfl (Go.Sl.v_move rfl) ?_
  refine Go.Sl.ow_val rfl rfl (Go.Sl.v_len rfl Try.underlying31 rfl) ?_
  refine Go.Sl.ow_val rfl rfl (Go.Sl.v_assign rfl) ?_
  refine Go.Sl.ow_nil ?_
  refine Go.Sl.xw_then ?_
  refine Go.Sl.cw_seq ?_
  refine Go.Sl.cw_mix [] [6, 7] [0, 1, 2, 3, 4, 5] Ty.mixed rfl rfl rfl rfl (by decide +kernel) ?_
  refine Go.Sl.hw_pure rfl rfl (Go.Sl.v_move rfl) rfl ?_
  refine Go.Sl.hw_pure rfl rfl (Go.Sl.v_move rfl) rfl ?_
  refine Go.Sl.hw_pure rfl rfl (Go.Sl.v_slice_nh Try.underlying31 Ty.el31 rfl rfl rfl (by omega)) rfl ?_
  refine Go.Sl.hw_pure rfl rfl (Go.Sl.v_move rfl) rfl ?_
  refine Go.Sl.hw_pure rfl rfl (Go.Sl.v_move rfl) rfl ?_
  refine Go.Sl.hw_pure rfl rfl (Go.Sl.v_slice_ln Try.underlying31 Ty.el31 rfl rfl rfl (by omega)) rfl ?_
  refine Go.Sl.hw_nil ?_
  refine Go.Sl.sw_nil ?_
  rotate_left
  · have hij : i = j := by omega
    subst hij
    exact ⟨(ao, cap, c), by simp, by simpa using hL, (by first | exact Go.Sl.Cov.refl _ | (intro p; simp only [List.flatten_cons, List.flatten_nil, List.flatten_append, List.append_nil, List.nil_append, Go.Sl.cnt_append, Go.Sl.cnt_cons, Go.Sl.cnt_nil, List.set_cons_zero, List.set_cons_succ, List.length_nil, List.length_cons, Nat.zero_add, List.append]; omega))⟩
  have hL1 := hL.take eTy (m := i) (by omega)
  have hV2 := (hL.vw (B := B) (w0 := w0) (G := c :: F) Sub.here).sub2 eTy (m := j) (by omega)
  refine Go.Sl.ow_appendL_room rfl rfl Try.underlying31 Try.underlying31 eTy rfl rfl hL1 .here hV2 (by rw [List.length_take, List.length_drop]; omega) ?_
  intro c26 hL26
  have hlen : (l.take i ++ l.drop j).length ≤ l.length := by rw [List.length_append, List.length_take, List.length_drop]; omega
  refine Go.Sl.ow_val rfl rfl (Go.Sl.v_assign rfl) ?_
  refine Go.Sl.ow_nil ?_
  refine Go.Sl.xw_np ?_
  refine Go.Sl.xw_then ?_
  refine Go.Sl.cw_seq ?_
  refine Go.Sl.cw_region ?_
  refine Go.Sl.ow_val rfl rfl (Go.Sl.v_move rfl) ?_
  refine Go.Sl.ow_val rfl rfl (Go.Sl.v_move rfl) ?_
  refine Go.Sl.ow_val rfl rfl (Go.Sl.v_len rfl Try.underlying31 rfl) ?_
  refine Go.Sl.ow_val rfl rfl (Go.Sl.v_move rfl) ?_
  refine Go.Sl.ow_val rfl rfl (Go.Sl.v_slice_lh Try.underlying31 Ty.el31 rfl rfl rfl rfl rfl (by omega) (by omega)) ?_
  refine Go.Sl.ow_clearL (En := enE) (e := 30) rfl Try.underlying31 Ty.em31 Ty.zo31 rfl (by omega) hL26 .here ?_
  intro c32 hL32
  refine Go.Sl.ow_nil ?_
  refine Go.Sl.xw_then ?_
  refine Go.Sl.cw_seq ?_
  refine Go.Sl.cw_region ?_
  refine Go.Sl.ow_val rfl rfl (Go.Sl.v_move rfl) ?_
  refine Go.Sl.ow_val rfl rfl (Go.Sl.v_assign rfl) ?_
  refine Go.Sl.ow_nil ?_
  refine Go.Sl.xw_then ?_
  refine Go.Sl.cw_ret ?_
  refine Go.Sl.ret1 rfl (Go.Sl.res_tmp rfl) ?_
  exact ⟨(ao, cap, c32), rfl, hL32, (by first | exact Go.Sl.Cov.refl _ | (intro p; simp only [List.flatten_cons, List.flatten_nil, List.flatten_append, List.append_nil, List.nil_append, Go.Sl.cnt_append, Go.Sl.cnt_cons, Go.Sl.cnt_nil, List.set_cons_zero, List.set_cons_succ, List.length_nil, List.length_cons, Nat.zero_add, List.append]; omega))⟩

theorem deleteFuncU_c {B : Nat} {w0 : World} {G : List Hp} {R : Hp → List Hp} {v : Value} {c : Hp} {l} {f : FuncId} {cs : List Value} {p : Int → Bool} (hs : Sel G c R) (hL : Ls enU 27 v c l) (hb : l.length ≤ 100000000)
    (hf : ∀ a, enU.ok a → ∀ c', Go.Sl.Fn Try.prog f ([] ++ [enU.val a] ++ cs).toArray B w0 (R c') fun u G' => u = .bool (p a) ∧ G' = R c') :
    Go.Sl.Fn Try.prog 36 #[v, .func (.func f) #[] cs.toArray] B w0 G fun u G' => ∃ x : Option Addr × Nat × Hp, u = .slice x.1 (l.filter fun a => !p a).length x.2.1 ∧ Ls enU 27 (.slice x.1 (l.filter fun a => !p a).length x.2.1) x.2.2 (l.filter fun a => !p a) ∧ G' = R x.2.2 := by
  refine Fn.sel0 hs fun F hR _ => ?_
  obtain ⟨ao, cap, rfl, hcap⟩ := hL.view
  have hf' : ∀ a, enU.ok a → ∀ c', Go.Sl.Fn Try.prog f ([] ++ [enU.val a] ++ cs).toArray B w0 (c' :: F) fun u G' => u = .bool (p a) ∧ G' = c' :: F := fun a ha c' =>
    Fn.pre (hR c').symm ((hf a ha c').weak fun u G' ⟨h1, h2⟩ => ⟨c' :: F, ⟨h1, rfl⟩, fun w hw => by rw [h2] at hw; exact hw.perm (hR c')⟩)
  have hbd := idxF_bd (p := p) (l := l)
  refine fn_enter Try.func36 rfl (by kernel_rfl) Try.ntmps36 (by simp) ?_
  refine Go.Sl.cw_seq ?_
  refine Go.Sl.cw_region ?_
  refine Go.Sl.ow_val rfl rfl (Go.Sl.v_assign rfl) ?_
  refine Go.Sl.ow_nil ?_
  refine Go.Sl.xw_then ?_
  refine Go.Sl.cw_seq ?_
  refine Go.Sl.cw_region ?_
  refine Go.Sl.ow_val rfl rfl (Go.Sl.v_move rfl) ?_
  refine Go.Sl.ow_val rfl rfl (Go.Sl.v_move rfl) ?_
  refine Go.Sl.ow_val rfl rfl (Go.Sl.v_call rfl rfl (indexFuncU_c (hL.vw Sub.here) hb (fun a ha => hf' a (hL.ok a ha) c))) ?_
  refine Go.Sl.ow_val rfl rfl (Go.Sl.v_assign rfl) ?_
  refine Go.Sl.ow_nil ?_
  refine Go.Sl.xw_then ?_
  refine Go.Sl.cw_seq ?_
  refine Go.Sl.cw_seq ?_
  refine Go.Sl.cw_region ?_
  refine Go.Sl.ow_val rfl rfl (Go.Sl.v_move rfl) ?_
  refine Go.Sl.ow_val rfl rfl (Go.Sl.v_eql rfl rfl) ?_
  refine Go.Sl.ow_nil ?_
  refine Go.Sl.xw_then ?_
  refine Go.Sl.cw_dec rfl (fun hc12 => ?_) (fun hc12 => ?_)
  refine Go.Sl.cw_seq ?_
  refine Go.Sl.cw_region ?_
  refine Go.Sl.ow_val rfl rfl (Go.Sl.v_move rfl) ?_
  refine Go.Sl.ow_val rfl rfl (Go.Sl.v_assign rfl) ?_
  refine Go.Sl.ow_nil ?_
  refine Go.Sl.xw_then ?_
  refine Go.Sl.cw_ret ?_
  refine Go.Sl.xw_then_ret ?_
  refine Go.Sl.ret1 rfl (Go.Sl.res_tmp rfl) ?_
  rotate_left
  refine Go.Sl.cw_skip ?_
  refine Go.Sl.xw_then ?_
  refine Go.Sl.cw_seq ?_
  refine Go.Sl.cw_seq ?_
  refine Go.Sl.cw_region ?_
  refine Go.Sl.ow_val rfl rfl (Go.Sl.v_move rfl) ?_
  refine Go.Sl.ow_val rfl rfl (Go.Sl.v_add rfl rfl (Go.Sl.nw_i64 (by omega) (by omega))) ?_
  refine Go.Sl.ow_val rfl rfl (Go.Sl.v_assign rfl) ?_
  refine Go.Sl.ow_nil ?_
  refine Go.Sl.xw_then ?_
  refine Go.Sl.cw_block ?_
  rotate_left
  · have hno := idxF_neg (by simpa using hc12)
    have : (l.filter fun a => !p a) = l := List.filter_eq_self.2 fun a ha => by simp [hno a ha]
    exact ⟨(ao, cap, c), by rw [this], by rw [this]; exact hL, (by first | exact Go.Sl.Cov.refl _ | (intro p; simp only [List.flatten_cons, List.flatten_nil, List.flatten_append, List.append_nil, List.nil_append, Go.Sl.cnt_append, Go.Sl.cnt_cons, Go.Sl.cnt_nil, List.set_cons_zero, List.set_cons_succ, List.length_nil, List.length_cons, Nat.zero_add, List.append]; omega))⟩
  · obtain ⟨i0, h0, hi0, hp0, hno⟩ := idxF_pos hc12
    rw [h0]
    refine Go.Sl.cw_loop2 (ι := ((Nat × Nat × List Int × Hp))) [(0, _), (1, _), (4, _)] ⟨rfl, rfl, rfl, trivial⟩ ((fun x => [(5, .int .i64 x.1), (6, .int .i64 x.2.1)])) ((fun x => x.1 < x.2.1 ∧ x.2.1 ≤ l.length ∧ x.2.2.1.length = l.length ∧ x.2.2.1.take x.1 = (l.take x.2.1).filter (fun a => !p a) ∧ x.2.2.1.drop x.2.1 = l.drop x.2.1 ∧ Ls enU 27 (.slice ao l.length cap) x.2.2.2 x.2.2.1)) ((fun x => l.length - x.2.1)) ((fun x => x.2.2.2 :: F)) ((i0, i0 + 1, l, c)) (by repeat (first | exact True.intro | refine And.intro rfl ?_)) (by first | exact Go.Sl.Cov.refl _ | (intro p; simp only [List.flatten_cons, List.flatten_nil, List.flatten_append, List.append_nil, List.nil_append, Go.Sl.cnt_append, Go.Sl.cnt_cons, Go.Sl.cnt_nil, List.set_cons_zero, List.set_cons_succ, List.length_nil, List.length_cons, Nat.zero_add, List.append]; omega)) ?_ ?_
    · refine ⟨by dsimp only; omega, by dsimp only; omega, rfl, ?_, rfl, hL⟩
      dsimp only
      rw [List.take_succ_eq_append_getElem hi0, List.filter_append]
      have : (l.take i0).filter (fun a => !p a) = l.take i0 := List.filter_eq_self.2 fun a ha => by
        obtain ⟨k, hk, rfl⟩ := List.mem_iff_getElem.1 ha
        simp at hk
        rw [List.getElem_take, hno k (by omega) (by omega)]
        rfl
      simp [this, hp0]
    rintro ⟨i, j, l', c'⟩ ⟨hij, hjl, hl', htake, hdrop, hL'⟩
    dsimp only at hij hjl hl' htake hdrop hL' ⊢
    refine Go.Sl.cw_seq ?_
    refine Go.Sl.cw_seq ?_
    refine Go.Sl.cw_region ?_
    refine Go.Sl.ow_val rfl rfl (Go.Sl.v_move rfl) ?_
    refine Go.Sl.ow_val rfl rfl (Go.Sl.v_move rfl) ?_
    refine Go.Sl.ow_val rfl rfl (Go.Sl.v_len rfl Try.underlying32 rfl) ?_
    refine Go.Sl.ow_val rfl rfl (Go.Sl.v_lss rfl rfl) ?_
    refine Go.Sl.ow_nil ?_
    refine Go.Sl.xw_then ?_
    refine Go.Sl.cw_dec rfl (fun hc19 => ?_) (fun hc19 => ?_)
    refine Go.Sl.cw_skip ?_
    refine Go.Sl.xw_then ?_
    refine Go.Sl.cw_seq ?_
    refine Go.Sl.cw_block ?_
    refine Go.Sl.cw_seq ?_
    refine Go.Sl.cw_region ?_
    refine Go.Sl.ow_val rfl rfl (Go.Sl.v_move rfl) ?_
    refine Go.Sl.ow_val rfl rfl (Go.Sl.v_move rfl) ?_
    rotate_left
    refine Go.Sl.cw_exit ?_
    refine Go.Sl.xw_then_exit ?_
    refine Go.Sl.xw_round_exit ?_
    refine Go.Sl.xw_block_exit ?_
    refine Go.Sl.xw_then ?_
    refine Go.Sl.cw_seq ?_
    refine Go.Sl.cw_region ?_
    refine Go.Sl.ow_val rfl rfl (Go.Sl.v_move rfl) ?_
    refine Go.Sl.ow_val rfl rfl (Go.Sl.v_move rfl) ?_
    refine Go.Sl.ow_val rfl rfl (Go.Sl.v_slice_ln Try.underlying32 Ty.el32 rfl rfl rfl (by omega)) ?_
    rotate_left
    · have hj2 : j < l.length := by omega
      have hjl' : j < l'.length := by omega
      have hget : l'[j] = l[j] := by
        have h1 : (l'.drop j)[0]? = (l.drop j)[0]? := by rw [hdrop]
        simp only [List.getElem?_drop, Nat.add_zero] at h1
        rw [List.getElem?_eq_getElem hjl', List.getElem?_eq_getElem hj2] at h1
        exact Option.some.inj h1
      have hok := hL'.ok _ (List.getElem_mem hjl')
      have htk : l.take (j + 1) = l.take j ++ [l[j]] := List.take_succ_eq_append_getElem hj2
      refine Go.Sl.ow_val rfl rfl (Go.Sl.v_indexAddr_ls Try.underlying32 (uTy) rfl rfl (by assumption) rfl (by omega)) ?_
      refine Go.Sl.ow_val rfl rfl (Go.Sl.v_load rfl (Go.Sl.Vw.var (uTy) (hL'.vw Sub.here) (by omega))) ?_
      refine Go.Sl.ow_val rfl rfl (Go.Sl.v_assign rfl) ?_
      refine Go.Sl.ow_nil ?_
      refine Go.Sl.xw_then ?_
      refine Go.Sl.cw_seq ?_
      refine Go.Sl.cw_region ?_
      refine Go.Sl.ow_val rfl rfl (Go.Sl.v_move rfl) ?_
      refine Go.Sl.ow_val rfl rfl (Go.Sl.v_move rfl) ?_
      refine Go.Sl.ow_val rfl rfl (Go.Sl.v_call rfl rfl (hf' (l'[j]'hjl') hok c')) ?_
      refine Go.Sl.ow_val rfl rfl (Go.Sl.v_not_bool rfl) ?_
      refine Go.Sl.ow_nil ?_
      refine Go.Sl.xw_then ?_
      refine Go.Sl.cw_bool rfl (fun hc29 => ?_) (fun hc29 => ?_)
      refine Go.Sl.cw_seq ?_
      refine Go.Sl.cw_region ?_
      refine Go.Sl.ow_val rfl rfl (Go.Sl.v_move rfl) ?_
      refine Go.Sl.ow_val rfl rfl (Go.Sl.v_move rfl) ?_
      refine Go.Sl.ow_val rfl rfl (Go.Sl.v_move rfl) ?_
      refine Go.Sl.ow_val rfl rfl (Go.Sl.v_indexAddr_ls Try.underlying32 (uTy) rfl rfl (by assumption) rfl (by omega)) ?_
      rotate_left
      refine Go.Sl.cw_skip ?_
      refine Go.Sl.xw_block ?_
      refine Go.Sl.xw_then ?_
      refine Go.Sl.cw_region ?_
      refine Go.Sl.ow_val rfl rfl (Go.Sl.v_move rfl) ?_
      refine Go.Sl.ow_val rfl rfl (Go.Sl.v_add rfl rfl (Go.Sl.nw_i64 (by omega) (by omega))) ?_
      refine Go.Sl.ow_val rfl rfl (Go.Sl.v_assign rfl) ?_
      refine Go.Sl.ow_nil ?_
      rotate_left
      · refine Go.Sl.ow_storeL (a := l'[j]'hjl') rfl rfl rfl uTy hL' .here (by omega) hok ?_
        intro c''  hL''
        refine Go.Sl.ow_nil ?_
        refine Go.Sl.xw_then ?_
        refine Go.Sl.cw_region ?_
        refine Go.Sl.ow_val rfl rfl (Go.Sl.v_move rfl) ?_
        refine Go.Sl.ow_val rfl rfl (Go.Sl.v_add rfl rfl (Go.Sl.nw_i64 (by omega) (by omega))) ?_
        refine Go.Sl.ow_val rfl rfl (Go.Sl.v_assign rfl) ?_
        refine Go.Sl.ow_nil ?_
        refine Go.Sl.xw_block ?_
        refine Go.Sl.xw_then ?_
        refine Go.Sl.cw_region ?_
        refine Go.Sl.ow_val rfl rfl (Go.Sl.v_move rfl) ?_
        refine Go.Sl.ow_val rfl rfl (Go.Sl.v_add rfl rfl (Go.Sl.nw_i64 (by omega) (by omega))) ?_
        refine Go.Sl.ow_val rfl rfl (Go.Sl.v_assign rfl) ?_
        refine Go.Sl.ow_nil ?_
        refine xw_round ((i + 1, j + 1, l'.set i l'[j], c'') : Nat × Nat × List Int × Hp) ⟨by dsimp only; omega, by dsimp only; omega, by simp [hl'], ?_, ?_, hL''⟩ (by dsimp only; omega) (by first | exact Go.Sl.Cov.refl _ | (intro p; simp only [List.flatten_cons, List.flatten_nil, List.flatten_append, List.append_nil, List.nil_append, Go.Sl.cnt_append, Go.Sl.cnt_cons, Go.Sl.cnt_nil, List.set_cons_zero, List.set_cons_succ, List.length_nil, List.length_cons, Nat.zero_add, List.append]; omega)) (by repeat (first | exact True.intro | refine And.intro rfl ?_))
        · dsimp only
          rw [List.take_succ_eq_append_getElem (by simp; omega), List.take_set_of_le (by omega), htake, htk, List.filter_append]
          have hpf : p l[j] = false := by simpa [hget] using hc29
          simp [hpf, hget]
        · dsimp only
          rw [List.drop_set_of_lt (by omega)]
          have h1 := congrArg (List.drop 1) hdrop
          simpa [List.drop_drop] using h1
      · refine xw_round ((i, j + 1, l', c') : Nat × Nat × List Int × Hp) ⟨by dsimp only; omega, by dsimp only; omega, hl', ?_, ?_, hL'⟩ (by dsimp only; omega) (by first | exact Go.Sl.Cov.refl _ | (intro p; simp only [List.flatten_cons, List.flatten_nil, List.flatten_append, List.append_nil, List.nil_append, Go.Sl.cnt_append, Go.Sl.cnt_cons, Go.Sl.cnt_nil, List.set_cons_zero, List.set_cons_succ, List.length_nil, List.length_cons, Nat.zero_add, List.append]; omega)) (by repeat (first | exact True.intro | refine And.intro rfl ?_))
        · dsimp only
          have hpf : p l[j] = true := by simpa [hget] using hc29
          rw [htake, htk, List.filter_append]
          simp [hpf]
        · dsimp only
          have h1 := congrArg (List.drop 1) hdrop
          simpa [List.drop_drop] using h1
    · have hje : j = l.length := by omega
      subst hje
      rw [List.take_length] at htake
      have hLt := hL'.take uTy (m := i) (by omega)
      have hlt : (l'.take i).length = i := by simp; omega
      rw [htake] at hLt hlt
      refine Go.Sl.ow_clearL (En := enU) (e := 27) rfl Try.underlying32 Ty.em32 Ty.zo32 rfl (by omega) hLt .here ?_
      intro c9 hL9
      refine Go.Sl.ow_nil ?_
      refine Go.Sl.xw_then ?_
      refine Go.Sl.cw_seq ?_
      refine Go.Sl.cw_region ?_
      refine Go.Sl.ow_val rfl rfl (Go.Sl.v_move rfl) ?_
      refine Go.Sl.ow_val rfl rfl (Go.Sl.v_move rfl) ?_
      refine Go.Sl.ow_val rfl rfl (Go.Sl.v_slice_nh Try.underlying32 Ty.el32 rfl rfl rfl (by omega)) ?_
      refine Go.Sl.ow_val rfl rfl (Go.Sl.v_assign rfl) ?_
      refine Go.Sl.ow_nil ?_
      refine Go.Sl.xw_then ?_
      refine Go.Sl.cw_ret ?_
      refine Go.Sl.ret1 rfl (Go.Sl.res_tmp rfl) ?_
      exact ⟨(ao, cap, c9), by rw [hlt], by rw [hlt]; exact hL9, (by first | exact Go.Sl.Cov.refl _ | (intro p; simp only [List.flatten_cons, List.flatten_nil, List.flatten_append, List.append_nil, List.nil_append, Go.Sl.cnt_append, Go.Sl.cnt_cons, Go.Sl.cnt_nil, List.set_cons_zero, List.set_cons_succ, List.length_nil, List.length_cons, Nat.zero_add, List.append]; omega))⟩

theorem insertE_c {B : Nat} {w0 : World} {G : List Hp} {R : Hp → List Hp} {v v2 : Value} {c c2 : Hp} {l l2} {i : Nat} {x : Int} (hx : x = (i : Int)) (hs : Sel G c R) (hL : Ls enE 30 v c l) (hL2 : Ls enE 30 v2 c2 l2) (hc2 : Cov [c, c2] G) (hl2 : 0 < l2.length) (hi : i ≤ l.length) (hb : l.length + l2.length ≤ 100000000) :
    Go.Sl.Fn Try.prog 34 #[v, .int .i64 x, v2] B w0 G fun u G' => ∃ x : Option Addr × Nat × Hp, u = .slice x.1 (l.take i ++ (l2 ++ l.drop i)).length x.2.1 ∧ Ls enE 30 (.slice x.1 (l.take i ++ (l2 ++ l.drop i)).length x.2.1) x.2.2 (l.take i ++ (l2 ++ l.drop i)) ∧ G' = R x.2.2 := by
  subst hx
  refine Fn.sel0 hs fun F hR _ => ?_
  have hc3 : ∀ c', Cov [c', c2] (c' :: F) := fun c' => cov_swap hs hR hc2
  obtain ⟨ao, cap, rfl, hcap⟩ := hL.view
  obtain ⟨ao2, cap2, rfl, hcap2⟩ := hL2.view
  refine fn_enter Try.func34 rfl (by kernel_rfl) Try.ntmps34 (by simp) ?_
  refine Go.Sl.cw_seq ?_
  refine Go.Sl.cw_region ?_
  refine Go.Sl.ow_val rfl rfl (Go.Sl.v_assign rfl) ?_
  refine Go.Sl.ow_nil ?_
  refine Go.Sl.xw_then ?_
  refine Go.Sl.cw_seq ?_
  refine Go.Sl.cw_region ?_
  refine Go.Sl.ow_val rfl rfl (Go.Sl.v_move rfl) ?_
  refine Go.Sl.ow_val rfl rfl (Go.Sl.v_move rfl) ?_
  refine Go.Sl.ow_val rfl rfl (Go.Sl.v_slice_ln Try.underlying31 Ty.el31 rfl rfl rfl (by omega)) ?_
  refine Go.Sl.ow_nil ?_
  refine Go.Sl.xw_then ?_
  refine Go.Sl.cw_seq ?_
  refine Go.Sl.cw_region ?_
  refine Go.Sl.ow_val rfl rfl (Go.Sl.v_move rfl) ?_
  refine Go.Sl.ow_val rfl rfl (Go.Sl.v_len rfl Try.underlying31 rfl) ?_
  refine Go.Sl.ow_val rfl rfl (Go.Sl.v_assign rfl) ?_
  refine Go.Sl.ow_nil ?_
  refine Go.Sl.xw_then ?_
  refine Go.Sl.cw_seq ?_
  refine Go.Sl.cw_seq ?_
  refine Go.Sl.cw_region ?_
  refine Go.Sl.ow_val rfl rfl (Go.Sl.v_move rfl) ?_
  refine Go.Sl.ow_val rfl rfl (Go.Sl.v_eql rfl rfl) ?_
  refine Go.Sl.ow_nil ?_
  refine Go.Sl.xw_then ?_
  refine Go.Sl.cw_dec rfl (fun hc16 => ?_) (fun hc16 => ?_)
  (exfalso; omega)
  refine Go.Sl.cw_skip ?_
  refine Go.Sl.xw_then ?_
  refine Go.Sl.cw_seq ?_
  refine Go.Sl.cw_region ?_
  refine Go.Sl.ow_val rfl rfl (Go.Sl.v_move rfl) ?_
  refine Go.Sl.ow_val rfl rfl (Go.Sl.v_len rfl Try.underlying31 rfl) ?_
  refine Go.Sl.ow_val rfl rfl (Go.Sl.v_assign rfl) ?_
  refine Go.Sl.ow_nil ?_
  refine Go.Sl.xw_then ?_
  refine Go.Sl.cw_seq ?_
  refine Go.Sl.cw_seq ?_
  refine Go.Sl.cw_region ?_
  refine Go.Sl.ow_val rfl rfl (Go.Sl.v_move rfl) ?_
  refine Go.Sl.ow_val rfl rfl (Go.Sl.v_move rfl) ?_
  refine Go.Sl.ow_val rfl rfl (Go.Sl.v_eql rfl rfl) ?_
  refine Go.Sl.ow_nil ?_
  refine Go.Sl.xw_then ?_
  refine Go.Sl.cw_dec rfl (fun hc22 => ?_) (fun hc22 => ?_)
  refine Go.Sl.cw_seq ?_
  refine Go.Sl.cw_region ?_
  refine Go.Sl.ow_val rfl rfl (Go.Sl.v_move rfl) ?_
  refine Go.Sl.ow_val rfl rfl (Go.Sl.v_move rfl) ?_
  (refine Go.Sl.ow_appendL rfl rfl Try.underlying31 Try.underlying31 Ty.em31 (eTy) rfl rfl (by assumption) (by repeat (first | exact Go.Sl.Sel.here | apply Go.Sl.Sel.there)) (hL2.vw (cov_sub (hc3 _))) (by first | omega | (simp only [List.length_append, List.length_take, List.length_drop, List.length_nil, List.length_cons]; omega)) (by first | omega | (simp only [List.length_append, List.length_take, List.length_drop, List.length_nil, List.length_cons]; omega)) ?_; intro ao25 cap25 c25 hL25)
  refine Go.Sl.ow_val rfl rfl (Go.Sl.v_assign rfl) ?_
  refine Go.Sl.ow_nil ?_
  refine Go.Sl.xw_then ?_
  refine Go.Sl.cw_ret ?_
  refine Go.Sl.xw_then_ret ?_
  refine Go.Sl.ret1 rfl (Go.Sl.res_tmp rfl) ?_
  rotate_left
  refine Go.Sl.cw_skip ?_
  refine Go.Sl.xw_then ?_
  refine Go.Sl.cw_seq ?_
  refine Go.Sl.cw_seq ?_
  refine Go.Sl.cw_region ?_
  refine Go.Sl.ow_val rfl rfl (Go.Sl.v_move rfl) ?_
  refine Go.Sl.ow_val rfl rfl (Go.Sl.v_move rfl) ?_
  refine Go.Sl.ow_val rfl rfl (Go.Sl.v_add rfl rfl (Go.Sl.nw_i64 (by omega) (by omega))) ?_
  refine Go.Sl.ow_val rfl rfl (Go.Sl.v_move rfl) ?_
  refine Go.Sl.ow_val rfl rfl (Go.Sl.v_cap rfl Try.underlying31 rfl) ?_
  refine Go.Sl.ow_val rfl rfl (Go.Sl.v_gtr rfl rfl) ?_
  refine Go.Sl.ow_nil ?_
  refine Go.Sl.xw_then ?_
  refine Go.Sl.cw_dec rfl (fun hc31 => ?_) (fun hc31 => ?_)
  refine Go.Sl.cw_seq ?_
  refine Go.Sl.cw_region ?_
  refine Go.Sl.ow_val rfl rfl (Go.Sl.v_move rfl) ?_
  refine Go.Sl.ow_val rfl rfl (Go.Sl.v_move rfl) ?_
  refine Go.Sl.ow_val rfl rfl (Go.Sl.v_slice_nh Try.underlying31 Ty.el31 rfl rfl rfl (by omega)) ?_
  refine Go.Sl.ow_val rfl rfl (Go.Sl.v_move rfl) ?_
  refine Go.Sl.ow_val rfl rfl (Go.Sl.v_move rfl) ?_
  refine Go.Sl.ow_val rfl rfl (Go.Sl.v_add rfl rfl (Go.Sl.nw_i64 (by omega) (by omega))) ?_
  refine Go.Sl.ow_val rfl rfl (Go.Sl.v_move rfl) ?_
  refine Go.Sl.ow_val rfl rfl (Go.Sl.v_sub rfl rfl (Go.Sl.nw_i64 (by omega) (by omega))) ?_
  rotate_left
  refine Go.Sl.cw_skip ?_
  refine Go.Sl.xw_then ?_
  refine Go.Sl.cw_seq ?_
  refine Go.Sl.cw_region ?_
  refine Go.Sl.ow_val rfl rfl (Go.Sl.v_move rfl) ?_
  refine Go.Sl.ow_val rfl rfl (Go.Sl.v_move rfl) ?_
  refine Go.Sl.ow_val rfl rfl (Go.Sl.v_move rfl) ?_
  refine Go.Sl.ow_val rfl rfl (Go.Sl.v_add rfl rfl (Go.Sl.nw_i64 (by omega) (by omega))) ?_
  refine Go.Sl.ow_val rfl rfl (Go.Sl.v_slice_nh Try.underlying31 Ty.el31 rfl rfl rfl (by omega)) ?_
  refine Go.Sl.ow_val rfl rfl (Go.Sl.v_assign rfl) ?_
  refine Go.Sl.ow_nil ?_
  refine Go.Sl.xw_then ?_
  refine Go.Sl.cw_seq ?_
  refine Go.Sl.cw_seq ?_
  refine Go.Sl.cw_region ?_
  refine Go.Sl.ow_val rfl rfl (Go.Sl.v_move rfl) ?_
  refine Go.Sl.ow_val rfl rfl (Go.Sl.v_move rfl) ?_
  refine Go.Sl.ow_val rfl rfl (Go.Sl.v_move rfl) ?_
  refine Go.Sl.ow_val rfl rfl (Go.Sl.v_move rfl) ?_
  refine Go.Sl.ow_val rfl rfl (Go.Sl.v_add rfl rfl (Go.Sl.nw_i64 (by omega) (by omega))) ?_
  refine Go.Sl.ow_val rfl rfl (Go.Sl.v_slice_ln Try.underlying31 Ty.el31 rfl rfl rfl (by omega)) ?_
  rotate_left
  · have hil : i = l.length := by omega
    subst hil
    exact ⟨(ao25, cap25, c25), by simp, by simpa using hL25, (by first | exact Go.Sl.Cov.refl _ | (intro p; simp only [List.flatten_cons, List.flatten_nil, List.flatten_append, List.append_nil, List.nil_append, Go.Sl.cnt_append, Go.Sl.cnt_cons, Go.Sl.cnt_nil, List.set_cons_zero, List.set_cons_succ, List.length_nil, List.length_cons, Nat.zero_add, List.append]; omega))⟩
  · have hX := fm_len (f := enE.f) (k := 18) (l := l) fun a ha => eTy.len a (hL.ok a ha)
    have hV := fm_len (f := enE.f) (k := 18) (l := l2) fun a ha => eTy.len a (hL2.ok a ha)
    have h1 : IsSl 30 18 (.slice ao i cap) c i ((l.flatMap enE.f).take (i * 18)) := hL.sl.take' hi
    have h2 : IsSl 30 18 (.slice (cutA ao cap i 18) (l.length - i) (cap - i)) c (l.length - i) ((l.flatMap enE.f).drop (i * 18)) := hL.sl.drop' hi
    refine Go.Sl.ow_appendZ (m := l.length + l2.length - i) rfl rfl Try.underlying31 Try.underlying3 Ty.em31 rfl rfl (by omega) (by omega) h1 .here (by omega) (by omega) (by omega) ?_
    intro ao40 cap40 c40 ys hys hcap40 h40
    refine Go.Sl.ow_val rfl rfl (Go.Sl.v_assign rfl) ?_
    refine Go.Sl.ow_nil ?_
    refine Go.Sl.xw_then ?_
    refine Go.Sl.cw_seq ?_
    refine Go.Sl.cw_region ?_
    refine Go.Sl.ow_val rfl rfl (Go.Sl.v_move rfl) ?_
    refine Go.Sl.ow_val rfl rfl (Go.Sl.v_move rfl) ?_
    refine Go.Sl.ow_val rfl rfl (Go.Sl.v_slice_ln Try.underlying31 Ty.el31 rfl rfl rfl (by omega)) ?_
    refine Go.Sl.ow_val rfl rfl (Go.Sl.v_move rfl) ?_
    have hr2 : ∀ c', Reads Try.prog (St B w0 (c' :: c :: F)) 18 (.slice ao2 l2.length cap2) l2.length (l2.flatMap enE.f) := fun c' => (hL2.vw (cov_sub (hc3 c)).there).reads_all eTy
    refine Go.Sl.ow_copyL (k := i) (n := i + (l.length + l2.length - i)) (size := 18) (m := l2.length) rfl rfl rfl Try.underlying31 eTy.size rfl rfl (by simp only [Nat.min_def]; split <;> omega) (by omega) h40 (hr2 _) (enc_one eTy hL2.ok) .here ?_
    intro c45 h45
    refine Go.Sl.ow_nil ?_
    refine Go.Sl.xw_then ?_
    refine Go.Sl.cw_seq ?_
    refine Go.Sl.cw_mix [] [8] [0, 1, 2, 3, 4, 5, 6, 7] Ty.mixed rfl rfl rfl rfl (by decide +kernel) ?_
    refine Go.Sl.hw_pure rfl rfl (Go.Sl.v_move rfl) rfl ?_
    refine Go.Sl.hw_pure rfl rfl (Go.Sl.v_move rfl) rfl ?_
    refine Go.Sl.hw_pure rfl rfl (Go.Sl.v_move rfl) rfl ?_
    refine Go.Sl.hw_pure rfl rfl (Go.Sl.v_add rfl rfl (Go.Sl.nw_i64 (by omega) (by omega))) rfl ?_
    refine Go.Sl.hw_pure rfl rfl (Go.Sl.v_slice_ln Try.underlying31 Ty.el31 rfl rfl rfl (by omega)) rfl ?_
    refine Go.Sl.hw_pure rfl rfl (Go.Sl.v_move rfl) rfl ?_
    refine Go.Sl.hw_pure rfl rfl (Go.Sl.v_move rfl) rfl ?_
    refine Go.Sl.hw_pure rfl rfl (Go.Sl.v_slice_ln Try.underlying31 Ty.el31 rfl rfl rfl (by omega)) rfl ?_
    refine Go.Sl.hw_nil ?_
    refine Go.Sl.sw_nil ?_
    have hr3 : Reads Try.prog (St B w0 (c45 :: c :: F)) 18 (.slice (cutA ao cap i 18) (l.length - i) (cap - i)) (l.length - i) ((l.flatMap enE.f).drop (i * 18)) := h2.readsA Sub.here.there
    have hone : ∀ u ∈ (l.flatMap enE.f).drop (i * 18), u.oneCell' = true := fun u hu => enc_one eTy hL.ok u (List.mem_of_mem_drop hu)
    refine Go.Sl.ow_copyL (k := i + l2.length) (n := i + (l.length + l2.length - i)) (size := 18) (m := l.length - i) rfl rfl rfl Try.underlying31 eTy.size rfl rfl (by simp only [Nat.min_def]; split <;> omega) (by omega) h45 hr3 hone .here ?_
    intro c54 h54
    have hfin := ins_eq2 (A := (l.flatMap enE.f).take (i * 18)) (Bl := (l.flatMap enE.f).drop (i * 18)) (ys := ys) (V := l2.flatMap enE.f) (a := i * 18) (b := (l.length - i) * 18) (m := l2.length * 18) (by rw [List.length_take, hX]; omega) (by rw [List.length_drop, hX]; omega) (by rw [hys]; omega) hV
    rw [← Nat.add_mul] at h54 hfin
    rw [hfin, fm_take (f := enE.f) (k := 18) i (fun a ha => eTy.len a (hL.ok a ha)), fm_drop (f := enE.f) (k := 18) i (fun a ha => eTy.len a (hL.ok a ha))] at h54
    have hlen : (l.take i ++ (l2 ++ l.drop i)).length = i + (l.length + l2.length - i) := by rw [List.length_append, List.length_append, List.length_take, List.length_drop]; omega
    have hLf : Ls enE 30 (.slice ao40 (l.take i ++ (l2 ++ l.drop i)).length cap40) c54 (l.take i ++ (l2 ++ l.drop i)) := ⟨by rw [hlen, List.flatMap_append, List.flatMap_append]; exact h54, fun a ha => by
      rcases List.mem_append.1 ha with h | h
      · exact hL.ok a (List.mem_of_mem_take h)
      · rcases List.mem_append.1 h with h | h
        · exact hL2.ok a h
        · exact hL.ok a (List.mem_of_mem_drop h)⟩
    refine Go.Sl.ow_nil ?_
    refine Go.Sl.xw_np ?_
    refine Go.Sl.xw_then ?_
    refine Go.Sl.cw_seq ?_
    refine Go.Sl.cw_region ?_
    refine Go.Sl.ow_val rfl rfl (Go.Sl.v_move rfl) ?_
    refine Go.Sl.ow_val rfl rfl (Go.Sl.v_assign rfl) ?_
    refine Go.Sl.ow_nil ?_
    refine Go.Sl.xw_then ?_
    refine Go.Sl.cw_ret ?_
    refine Go.Sl.xw_then_ret ?_
    refine Go.Sl.ret1 rfl (Go.Sl.res_tmp rfl) ?_
    exact ⟨(ao40, cap40, c54), by rw [hlen], hLf, (by first | exact Go.Sl.Cov.refl _ | (intro p; simp only [List.flatten_cons, List.flatten_nil, List.flatten_append, List.append_nil, List.nil_append, Go.Sl.cnt_append, Go.Sl.cnt_cons, Go.Sl.cnt_nil, List.set_cons_zero, List.set_cons_succ, List.length_nil, List.length_cons, Nat.zero_add, List.append]; omega))⟩
  · have hX := fm_len (f := enE.f) (k := 18) (l := l) fun a ha => eTy.len a (hL.ok a ha)
    have hV := fm_len (f := enE.f) (k := 18) (l := l2) fun a ha => eTy.len a (hL2.ok a ha)
    have h2 : IsSl 30 18 (.slice (cutA ao cap i 18) (l.length - i) (cap - i)) c (l.length - i) ((l.flatMap enE.f).drop (i * 18)) := hL.sl.drop' hi
    obtain ⟨ys, hys, hg⟩ := IsSl.grow (e := 30) (size := 18) hL.sl (k := l.length + l2.length) (by omega) (by omega)
    have h3 : IsSl 30 18 (.slice (cutA ao cap (i + l2.length) 18) (l.length + l2.length - (i + l2.length)) (cap - (i + l2.length))) c (l.length + l2.length - (i + l2.length)) ((l.flatMap enE.f ++ ys).drop ((i + l2.length) * 18)) := hg.drop' (by omega)
    refine Go.Sl.ow_overlaps (tR := 4) (size := 18) (e := 30) rfl rfl Try.func45 rfl rfl (by kernel_rfl) (by kernel_rfl) Try.underlying31 eTy.size (by decide) rfl rfl hL2.sl h3 (by omega) (by omega) (fun p => by have := hc3 c p; simp only [List.flatten_cons, List.flatten_nil, List.append_nil, cnt_append] at *; omega) ?_
    refine Go.Sl.ow_val rfl rfl (Go.Sl.v_not_false rfl) ?_
    refine Go.Sl.ow_nil ?_
    refine Go.Sl.xw_then ?_
    refine Go.Sl.cw_true rfl ?_
    refine Go.Sl.cw_seq ?_
    refine Go.Sl.cw_mix [] [8] [0, 1, 2, 3, 4, 5, 6, 7] Ty.mixed rfl rfl rfl rfl (by decide +kernel) ?_
    refine Go.Sl.hw_pure rfl rfl (Go.Sl.v_move rfl) rfl ?_
    refine Go.Sl.hw_pure rfl rfl (Go.Sl.v_move rfl) rfl ?_
    refine Go.Sl.hw_pure rfl rfl (Go.Sl.v_move rfl) rfl ?_
    refine Go.Sl.hw_pure rfl rfl (Go.Sl.v_add rfl rfl (Go.Sl.nw_i64 (by omega) (by omega))) rfl ?_
    refine Go.Sl.hw_pure rfl rfl (Go.Sl.v_slice_ln Try.underlying31 Ty.el31 rfl rfl rfl (by omega)) rfl ?_
    refine Go.Sl.hw_pure rfl rfl (Go.Sl.v_move rfl) rfl ?_
    refine Go.Sl.hw_pure rfl rfl (Go.Sl.v_move rfl) rfl ?_
    refine Go.Sl.hw_pure rfl rfl (Go.Sl.v_slice_ln Try.underlying31 Ty.el31 rfl rfl rfl (by omega)) rfl ?_
    refine Go.Sl.hw_nil ?_
    refine Go.Sl.sw_nil ?_
    have hr3 : Reads Try.prog (St B w0 (c :: F)) 18 (.slice (cutA ao cap i 18) (l.length + l2.length - i) (cap - i)) (l.length - i) (((l.flatMap enE.f ++ ys).drop (i * 18)).take ((l.length - i) * 18)) := (IsSl.drop' hg (l := i) (by omega)).readsR Sub.here (by omega)
    have hcells : ((l.flatMap enE.f ++ ys).drop (i * 18)).take ((l.length - i) * 18) = (l.flatMap enE.f).drop (i * 18) := by
      rw [List.drop_append_of_le_length (by rw [hX]; omega), List.take_append_of_le_length (by rw [List.length_drop, hX]; omega), List.take_of_length_le (by rw [List.length_drop, hX]; omega)]
    rw [hcells] at hr3
    have hone : ∀ u ∈ (l.flatMap enE.f).drop (i * 18), u.oneCell' = true := fun u hu => enc_one eTy hL.ok u (List.mem_of_mem_drop hu)
    refine Go.Sl.ow_copyL (k := i + l2.length) (n := l.length + l2.length) (size := 18) (m := l.length - i) rfl rfl rfl Try.underlying31 eTy.size rfl rfl (by simp only [Nat.min_def]; split <;> omega) (by omega) hg hr3 hone .here ?_
    intro c77 h77
    refine Go.Sl.ow_nil ?_
    refine Go.Sl.xw_np ?_
    refine Go.Sl.xw_then ?_
    refine Go.Sl.cw_seq ?_
    refine Go.Sl.cw_region ?_
    refine Go.Sl.ow_val rfl rfl (Go.Sl.v_move rfl) ?_
    refine Go.Sl.ow_val rfl rfl (Go.Sl.v_move rfl) ?_
    refine Go.Sl.ow_val rfl rfl (Go.Sl.v_slice_ln Try.underlying31 Ty.el31 rfl rfl rfl (by omega)) ?_
    refine Go.Sl.ow_val rfl rfl (Go.Sl.v_move rfl) ?_
    have hr2 : ∀ c', Reads Try.prog (St B w0 (c' :: F)) 18 (.slice ao2 l2.length cap2) l2.length (l2.flatMap enE.f) := fun c' => (hL2.vw (cov_sub (hc3 c'))).reads_all eTy
    refine Go.Sl.ow_copyL (k := i) (n := l.length + l2.length) (size := 18) (m := l2.length) rfl rfl rfl Try.underlying31 eTy.size rfl rfl (by simp only [Nat.min_def]; split <;> omega) (by omega) h77 (hr2 _) (enc_one eTy hL2.ok) .here ?_
    intro c82 h82
    have hfin := ins_eq (A := (l.flatMap enE.f).take (i * 18)) (Bl := (l.flatMap enE.f).drop (i * 18)) (ys := ys) (V := l2.flatMap enE.f) (a := i * 18) (b := (l.length - i) * 18) (m := l2.length * 18) (by rw [List.length_take, hX]; omega) (by rw [List.length_drop, hX]; omega) (by rw [hys]; omega)
    rw [List.take_append_drop] at hfin
    simp only [Nat.add_mul] at h82 hfin
    rw [hfin, fm_take (f := enE.f) (k := 18) i (fun a ha => eTy.len a (hL.ok a ha)), fm_drop (f := enE.f) (k := 18) i (fun a ha => eTy.len a (hL.ok a ha))] at h82
    have hlen : (l.take i ++ (l2 ++ l.drop i)).length = l.length + l2.length := by rw [List.length_append, List.length_append, List.length_take, List.length_drop]; omega
    have hLf : Ls enE 30 (.slice ao (l.take i ++ (l2 ++ l.drop i)).length cap) c82 (l.take i ++ (l2 ++ l.drop i)) := ⟨by rw [hlen, List.flatMap_append, List.flatMap_append]; exact h82, fun a ha => by
      rcases List.mem_append.1 ha with h | h
      · exact hL.ok a (List.mem_of_mem_take h)
      · rcases List.mem_append.1 h with h | h
        · exact hL2.ok a h
        · exact hL.ok a (List.mem_of_mem_drop h)⟩
    refine Go.Sl.ow_nil ?_
    refine Go.Sl.xw_then ?_
    refine Go.Sl.cw_seq ?_
    refine Go.Sl.cw_region ?_
    refine Go.Sl.ow_val rfl rfl (Go.Sl.v_move rfl) ?_
    refine Go.Sl.ow_val rfl rfl (Go.Sl.v_assign rfl) ?_
    refine Go.Sl.ow_nil ?_
    refine Go.Sl.xw_then ?_
    refine Go.Sl.cw_ret ?_
    refine Go.Sl.xw_then_ret ?_
    refine Go.Sl.ret1 rfl (Go.Sl.res_tmp rfl) ?_
    exact ⟨(ao, cap, c82), by rw [hlen], hLf, (by first | exact Go.Sl.Cov.refl _ | (intro p; simp only [List.flatten_cons, List.flatten_nil, List.flatten_append, List.append_nil, List.nil_append, Go.Sl.cnt_append, Go.Sl.cnt_cons, Go.Sl.cnt_nil, List.set_cons_zero, List.set_cons_succ, List.length_nil, List.length_cons, Nat.zero_add, List.append]; omega))⟩

end Go.Proofs.Ytfilpenkihdjiaa
