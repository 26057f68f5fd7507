/- What the document's answer for package span computes, as contracts. Conditions: lists are short. -/
import Derived.Test.YtckdhelnafjddaaSpanLaw
namespace Go.Proofs.Ytckdhelnafjddaa
open Go Go.Sl Go.Proofs
set_option maxRecDepth 20000
set_option linter.unusedVariables false
set_option linter.unusedSimpArgs false

theorem r2Ty : EncTy Try.prog 114 enR := EncTy.agg Ty.ag114 (by decide) (fun _ => rfl) (fun _ _ => rfl) (fun a _ u hu => by
  simp only [enR, Rg.cells, List.mem_cons, List.not_mem_nil, or_false] at hu
  rcases hu with rfl | rfl <;> rfl)
theorem b_rng2 {m n : Int} : Build Try.prog 114 #[(0, .int .u64 m), (1, .int .u64 n)] (.agg (Rg.cells ⟨m, n⟩).toArray) := fun w => by kernel_rfl
theorem b_rng20 : Build Try.prog 114 #[] (.agg (Rg.cells ⟨0, 0⟩).toArray) := fun w => by kernel_rfl
theorem eqR2_d (d : Nat) {a b a' b' : Int} (w : World) :
    (Op.equalIn (d + 3) 114 (.agg (Rg.cells ⟨a, b⟩).toArray) (.agg (Rg.cells ⟨a', b'⟩).toArray)).run Try.prog w = .ok (decide (a = a') && decide (b = b')) w := by
  have h0 := run_equalIn_struct (P := Try.prog) w (d + 2) 114 (Rg.cells ⟨a, b⟩).toArray (Rg.cells ⟨a', b'⟩).toArray (by kernel_rfl) (by kernel_rfl)
  refine h0.trans ?_
  simp only [Program.fieldsOf, Try.underlying114]
  have p1 := run_part_sc (xs := Rg.cells ⟨a, b⟩) (i := 0) (v := .int .u64 a) Ty.sc22 rfl w
  have p2 := run_part_sc (xs := Rg.cells ⟨a', b'⟩) (i := 0) (v := .int .u64 a') Ty.sc22 rfl w
  have p3 := run_part_sc (xs := Rg.cells ⟨a, b⟩) (i := 1) (v := .int .u64 b) Ty.sc22 rfl w
  have p4 := run_part_sc (xs := Rg.cells ⟨a', b'⟩) (i := 1) (v := .int .u64 b') Ty.sc22 rfl w
  have q1 : (Op.equalIn (d + 2) 22 (.int .u64 a) (.int .u64 a')).run Try.prog w = .ok (a == a') w := run_equalIn_int (P := Try.prog) w (d + 1) 22 .u64 .u64 a a' Try.underlying22
  have q2 : (Op.equalIn (d + 2) 22 (.int .u64 b) (.int .u64 b')).run Try.prog w = .ok (b == b') w := run_equalIn_int (P := Try.prog) w (d + 1) 22 .u64 .u64 b b' Try.underlying22
  generalize hx : (Rg.cells ⟨a, b⟩).toArray = xs at *
  generalize hy : (Rg.cells ⟨a', b'⟩).toArray = ys at *
  refine (eqFields_step (by decide) p1 p2 q1).trans ?_
  rw [eqFields_step (by decide) p3 p4 q2, eqFields_nil]
  by_cases h1 : a = a' <;> by_cases h2 : b = b' <;> simp [h1, h2]
theorem eqR2 {a b : Rg} : ∀ w : World, (Op.equal 114 (.agg a.cells.toArray) (.agg b.cells.toArray)).run Try.prog w = .ok (decide (a = b)) w := fun w => by
  obtain ⟨s, i⟩ := a
  obtain ⟨s', i'⟩ := b
  have h2 : decide ((⟨s, i⟩ : Rg) = ⟨s', i'⟩) = (decide (s = s') && decide (i = i')) := by
    by_cases c1 : s = s' <;> by_cases c2 : i = i' <;> simp [c1, c2]
  rw [h2]
  unfold Op.equal Op.maxDepth
  exact eqR2_d 9997 (a := s) (b := i) (a' := s') (b' := i') w

theorem ref_c {B : Nat} {w0 : World} {G : List Hp} {r : Rg} (hr : enR.ok r) :
    Go.Sl.Fn Try.prog 50 #[enR.val r] B w0 G fun u G' => u = enR.val r ∧ G' = G := by
  refine Fn.pure ?_
  have hr2 := len2 _ hr
  have hr3 := one2 _ hr
  have hz := len2 _ ok_z
  have hz1 := one2 _ ok_z
  refine fn_enter Try.func50 rfl (by kernel_rfl) Try.ntmps50 (by simp) ?_
  refine Go.Sl.cw_seq ?_
  refine Go.Sl.cw_region ?_
  (refine Go.Sl.ow_box rfl rfl rfl rfl ?_; intro b1)
  (refine Go.Sl.ow_alloc rfl rfl Ty.ze114 ?_; intro b2)
  refine Go.Sl.ow_nil ?_
  refine Go.Sl.xw_then ?_
  refine Go.Sl.cw_seq ?_
  refine Go.Sl.cw_region ?_
  refine Go.Sl.ow_val rfl rfl (Go.Sl.v_fieldAddr0 Ty.fd102_0 rfl) ?_
  refine Go.Sl.ow_val rfl rfl (Go.Sl.v_load rfl (Go.Sl.Var.at1 Ty.sc22 (.there .here) (Go.Sl.GetN.lit rfl))) ?_
  refine Go.Sl.ow_val rfl rfl (Go.Sl.v_fieldAddr0 Ty.fd102_1 rfl) ?_
  refine Go.Sl.ow_val rfl rfl (Go.Sl.v_load rfl (Go.Sl.Var.at1 Ty.sc22 (.there .here) (Go.Sl.GetN.lit rfl))) ?_
  refine Go.Sl.ow_val rfl rfl (Go.Sl.v_build rfl (b_rng2)) ?_
  refine Go.Sl.ow_storeN rfl rfl rfl Ty.ag114 (by first | rfl | assumption) (by first | assumption | simp) .here (Go.Sl.SetN.all (by first | rfl | assumption | simp_all)) ?_
  refine Go.Sl.ow_nil ?_
  refine Go.Sl.xw_then ?_
  refine Go.Sl.cw_ret ?_
  refine Go.Sl.ret1 rfl (Go.Sl.res_cell rfl (Go.Sl.Var.atN Ty.ag114 .here Go.Sl.GetN.all (by first | rfl | assumption))) ?_
  exact ⟨rfl, (by first | exact Go.Sl.Cov.refl _ | (intro p; simp only [List.flatten_cons, List.flatten_nil, List.flatten_append, List.append_nil, List.nil_append, Go.Sl.cnt_append, Go.Sl.cnt_cons, Go.Sl.cnt_nil, List.set_cons_zero, List.set_cons_succ, List.length_nil, List.length_cons, Nat.zero_add, List.append]; omega))⟩

structure RfIx where
  i : Nat
  r : Rg
  done : Bool
  l : List Rg
  ao : Option Addr
  cap : Nat
  c : Hp
theorem refAdd_at {r : Rg} {d : Bool} {l : List Rg} {i : Nat} (h : i < l.length) : refAdd r d (l.drop i) = if r.a ≤ l[i].b ∧ l[i].a ≤ r.b then refAdd ⟨min r.a l[i].a, max r.b l[i].b⟩ d (l.drop (i + 1)) else if r.b < l[i].a ∧ d = false then r :: l[i] :: refAdd r true (l.drop (i + 1)) else l[i] :: refAdd r d (l.drop (i + 1)) := by
  rw [List.drop_eq_getElem_cons h, refAdd]
structure RcIx where
  i : Nat
  l : List Rg
  ao : Option Addr
  cap : Nat
  c : Hp
theorem refCut_at {r : Rg} {l : List Rg} {i : Nat} (h : i < l.length) : refCut r (l.drop i) = refCut1 r l[i] ++ refCut r (l.drop (i + 1)) := by
  rw [List.drop_eq_getElem_cons h, refCut, List.flatMap_cons]
  rfl
end Go.Proofs.Ytckdhelnafjddaa
