/- Sets of ranges: how many ranges there may be, what is first, and sets between two places: plain facts. Conditions: none. -/
import Derived.Test.YtbpnnkkbaakdjaaSpanLaw
namespace Go.Proofs.Ytbpnnkkbaakdjaa
open Go Go.Sl Go.Proofs
set_option maxRecDepth 20000
set_option linter.unusedVariables false
set_option linter.unusedSimpArgs false

/-- a set has no more ranges than numbers -/
theorem good_len {l : List Rg} : ∀ {u v : Int}, Good l → u ≤ v → (∀ x ∈ l, u ≤ x.a ∧ x.b ≤ v) → (l.length : Int) ≤ v - u := by
  induction l with
  | nil => intro u v _ h _; simp; omega
  | cons x l ih =>
    intro u v hg huv hx
    obtain ⟨hxo, hxl, hl⟩ := Good.cons.1 hg
    have h1 := hx x (List.mem_cons_self)
    have h2 := hxo.2.1
    have := ih (u := x.b) (v := v) hl (by omega) fun y hy => ⟨by have := hxl y hy; omega, (hx y (List.mem_cons_of_mem _ hy)).2⟩
    simp
    omega
/-- ranges that don't meet: at most half as many as numbers -/
theorem good_len2 {l : List Rg} : ∀ {u v : Int}, Good l → u ≤ v → (∀ x ∈ l, u ≤ x.a ∧ x.b ≤ v) → 2 * (l.length : Int) ≤ v - u + 1 := by
  induction l with
  | nil => intro u v _ h _; simp; omega
  | cons x l ih =>
    intro u v hg huv hx
    obtain ⟨hxo, hxl, hl⟩ := Good.cons.1 hg
    have h1 := hx x (List.mem_cons_self)
    have h2 := hxo.2.1
    by_cases h0 : x.b + 1 ≤ v
    · have := ih (u := x.b + 1) (v := v) hl h0 fun y hy => ⟨by have := hxl y hy; omega, (hx y (List.mem_cons_of_mem _ hy)).2⟩
      simp
      omega
    · have hnil : l = [] := by
        cases l with
        | nil => rfl
        | cons y l =>
          have h3 := hxl y (List.mem_cons_self)
          have h4 := hx y (List.mem_cons_of_mem _ (List.mem_cons_self))
          have h5 := (hl.1 y (List.mem_cons_self)).2.1
          omega
      subst hnil
      simp
      omega
/-- all numbers of a set are in a piece: all ranges are -/
theorem in_bounds {l : List Rg} {u v : Int} (hg : Good l) (h : ∀ n, InR l n → u ≤ n ∧ n < v) : ∀ x ∈ l, u ≤ x.a ∧ x.b ≤ v := fun x hx => by
  have h1 := (hg.1 x hx).2.1
  have h2 := h x.a ⟨x, hx, Int.le_refl _, h1⟩
  have h3 := h (x.b - 1) ⟨x, hx, by omega, by omega⟩
  omega
theorem good_len' {l : List Rg} {u v : Int} (hg : Good l) (huv : u ≤ v) (h : ∀ n, InR l n → u ≤ n ∧ n < v) : (l.length : Int) ≤ v - u := good_len hg huv (in_bounds hg h)
/-- adding a piece to a set whose numbers are in [0, v) -/
theorem add_fits {l : List Rg} {r : Rg} {v : Int} (hg : Good l) (hr : RgIn r) (hv : 0 ≤ v) (h : ∀ n, InR l n → 0 ≤ n ∧ n < v) (hb : r.b ≤ v) : Good (addE l r) ∧ (∀ n, InR (addE l r) n ↔ InR l n ∨ (r.a ≤ n ∧ n < r.b)) ∧ ((addE l r).length : Int) ≤ v := by
  obtain ⟨g1, g2, _⟩ := addE_spec hg hr
  refine ⟨g1, g2, ?_⟩
  have := good_len' (u := 0) (v := v) g1 hv fun n hn => by
    rcases (g2 n).1 hn with h1 | h1
    · exact h n h1
    · have := hr.1.1; omega
  omega
theorem cut_fits {l : List Rg} {r : Rg} {v : Int} (hg : Good l) (hr : RgIn r) (hv : 0 ≤ v) (h : ∀ n, InR l n → 0 ≤ n ∧ n < v) : Good (cutE l r) ∧ (∀ n, InR (cutE l r) n ↔ InR l n ∧ ¬ (r.a ≤ n ∧ n < r.b)) ∧ ((cutE l r).length : Int) ≤ v := by
  obtain ⟨g1, g2, _⟩ := cutE_spec hg hr
  refine ⟨g1, g2, ?_⟩
  have := good_len' (u := 0) (v := v) g1 hv fun n hn => h n ((g2 n).1 hn).1
  omega
/-- the first range: from the lowest number on, as far as all numbers are there -/
theorem first_low {l : List Rg} {n : Int} (hg : Good l) : ((firstR l n).2 = false ∧ ∀ k, InR l k → k < n) ∨ ((firstR l n).2 = true ∧ n ≤ (firstR l n).1.a ∧ (firstR l n).1.a < (firstR l n).1.b ∧ (∀ k, (firstR l n).1.a ≤ k → k < (firstR l n).1.b → InR l k) ∧ (∀ k, InR l k → n ≤ k → (firstR l n).1.a ≤ k) ∧ ¬ InR l (firstR l n).1.b) := by
  unfold firstR
  split
  · rename_i h
    have h2 : (decide (n < l[cutAt (fun x => decide (n < x.b)) l].b)) = true := List.findIdx_getElem (w := h)
    have h2 := of_decide_eq_true h2
    have h3 := (hg.1 _ (List.getElem_mem h)).2.1
    refine .inr ⟨rfl, by dsimp only; omega, by dsimp only; omega, fun k h4 h5 => ⟨_, List.getElem_mem h, by dsimp only at h4; omega, h5⟩, ?_, ?_⟩
    · rintro k ⟨x, hx, h4, h5⟩ h6
      obtain ⟨i, hi, rfl⟩ := List.mem_iff_getElem.1 hx
      dsimp only
      rcases Nat.lt_trichotomy i (cutAt (fun x => decide (n < x.b)) l) with h7 | h7 | h7
      · have := List.not_of_lt_findIdx (p := fun x : Rg => decide (n < x.b)) h7
        simp at this
        omega
      · subst h7
        omega
      · have := List.pairwise_iff_getElem.1 hg.2 _ i h hi h7
        omega
    · rintro ⟨x, hx, h4, h5⟩
      obtain ⟨i, hi, rfl⟩ := List.mem_iff_getElem.1 hx
      dsimp only at h4 h5
      rcases Nat.lt_trichotomy i (cutAt (fun x => decide (n < x.b)) l) with h7 | h7 | h7
      · have := List.pairwise_iff_getElem.1 hg.2 i _ hi h h7
        omega
      · subst h7
        omega
      · have := List.pairwise_iff_getElem.1 hg.2 _ i h hi h7
        omega
  · rename_i h
    refine .inl ⟨rfl, ?_⟩
    rintro k ⟨x, hx, h4, h5⟩
    obtain ⟨i, hi, rfl⟩ := List.mem_iff_getElem.1 hx
    have h6 : i < cutAt (fun x => decide (n < x.b)) l := by omega
    have := List.not_of_lt_findIdx (p := fun x : Rg => decide (n < x.b)) h6
    simp at this
    omega
end Go.Proofs.Ytbpnnkkbaakdjaa
