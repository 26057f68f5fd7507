/- What the law IdsOther computes when it adds is what OtherM.add computes: plain facts on lists. Conditions: numbers rise. -/
import Derived.Test.YtfilpenkihdjiaaIdsOtherLaw
namespace Go.Proofs.Ytfilpenkihdjiaa
open Go Go.Sl Go.Proofs
set_option linter.unusedVariables false
set_option linter.unusedSimpArgs false

theorem insE_split {e : Entry} {a b : List Entry} (ha : ∀ x ∈ a, x.seq < e.seq) (hb : ∀ x ∈ b, ¬ x.seq < e.seq) : insE e (a ++ b) = a ++ ([e] ++ b) := by
  rw [insE_at (j := a.length) (by simp) (fun i h hi => by rw [List.getElem_append_left hi]; exact ha _ (List.getElem_mem _)) (fun h => by
    rw [List.getElem_append_right (Nat.le_refl _)]
    exact hb _ (List.getElem_mem _))]
  simp
theorem insE_snoc {e x : Entry} {k : List Entry} (h : ∃ y ∈ k, ¬ y.seq < e.seq) : insE e (k ++ [x]) = insE e k ++ [x] := by
  have key : ∀ k : List Entry, (∃ y ∈ k, ¬ y.seq < e.seq) → (k ++ [x]).takeWhile (fun x => decide (x.seq < e.seq)) = k.takeWhile (fun x => decide (x.seq < e.seq)) ∧ (k ++ [x]).dropWhile (fun x => decide (x.seq < e.seq)) = k.dropWhile (fun x => decide (x.seq < e.seq)) ++ [x] := by
    intro k
    induction k with
    | nil => rintro ⟨y, hy, _⟩; simp at hy
    | cons a k ih =>
      rintro ⟨y, hy, hn⟩
      by_cases ha : a.seq < e.seq
      · have : ∃ y ∈ k, ¬ y.seq < e.seq := by
          rcases List.mem_cons.1 hy with rfl | h1
          · exact absurd ha hn
          · exact ⟨y, h1, hn⟩
        obtain ⟨g1, g2⟩ := ih this
        simp only [List.cons_append, List.takeWhile_cons, List.dropWhile_cons, decide_eq_true ha, if_true, g1, g2, and_self]
      · simp [List.takeWhile_cons, List.dropWhile_cons, ha]
  obtain ⟨h1, h2⟩ := key k h
  rw [insE, h1, h2, insE]
  simp

/-- before and behind the place of e -/
theorem split_at {l : List Entry} (hr : l.Pairwise fun x y => x.seq < y.seq) (n : Int) : ∃ a b, l = a ++ b ∧ (∀ x ∈ a, x.seq < n) ∧ (∀ x ∈ b, ¬ x.seq < n) := by
  induction l with
  | nil => exact ⟨[], [], rfl, by simp, by simp⟩
  | cons x l ih =>
    obtain ⟨h1, h2⟩ := List.pairwise_cons.1 hr
    obtain ⟨a, b, rfl, ha, hb⟩ := ih h2
    by_cases hx : x.seq < n
    · exact ⟨x :: a, b, rfl, fun y hy => by rcases List.mem_cons.1 hy with rfl | h; exact hx; exact ha y h, hb⟩
    · refine ⟨[], x :: (a ++ b), rfl, by simp, fun y hy => ?_⟩
      rcases List.mem_cons.1 hy with rfl | h
      · exact hx
      · have := h1 y h; omega
theorem keep0_append {p : Int} {a b : List Entry} : keep0 p (a ++ b) = keep0 p a ++ keep0 p b := List.filter_append ..

/-- what the law lays into its list, and notes -/
def lawK (e : Entry) (g : Int) (l : List Entry) : List Entry := if (l.any fun x => decide (x = e)) = true then l else if e.seq < g then l else insE e l
def lawR (e : Entry) (g : Int) (l : List Entry) (r : List Int) : List Int := if (l.any fun x => decide (x = e)) = true then r else if e.seq < g then addR r e.seq else r

theorem addSame {l : List Entry} {e : Entry} {P p : Int} {r : List Int} (hr : l.Pairwise fun x y => x.seq < y.seq) (hP : ∀ x ∈ l, P ≤ x.seq) (hp : p ≤ e.seq) (hc : l.any (clashP e) = false) :
    keep0 p (lawK e (max P p) l) = keptF e (max P p) (keep0 p l) ∧ ret0 p (lawK e (max P p) l) (lawR e (max P p) l r) = retF e (max P p) (keep0 p l) (ret0 p l r) := by
  cases hh : (l.any fun x => decide (x = e)) with
  | true =>
    obtain ⟨x, hx, hxe⟩ := List.any_eq_true.1 hh
    have hxe : x = e := of_decide_eq_true hxe
    subst hxe
    have hk : x ∈ keep0 p l := List.mem_filter.2 ⟨hx, by simp; omega⟩
    have hi := idx_yes hk rfl
    rw [keptF, if_pos hi, retF, if_pos hi, lawK, if_pos hh, lawR, if_pos hh]
    exact ⟨rfl, rfl⟩
  | false =>
    have hne : ∀ x ∈ l, ¬ x.seq = e.seq := fun x hx hs => by
      have h1 := List.any_eq_false.1 hc x hx
      have h2 := List.any_eq_false.1 hh x hx
      have h3 : ¬ x = e := by simpa using h2
      exact h1 (by simp [clashP, h3, hs])
    have hi : idxF (fun x : Entry => decide (x.seq = e.seq)) (keep0 p l) = -1 := idx_no fun x hx => hne x (List.mem_filter.1 hx).1
    have hn : ¬ (l.any fun x => decide (x = e)) = true := by rw [hh]; decide
    rw [keptF, retF, hi, if_neg (show ¬ (0 : Int) ≤ -1 by decide), if_neg (show ¬ (0 : Int) ≤ -1 by decide), lawK, if_neg hn, lawR, if_neg hn]
    by_cases hg : e.seq < max P p
    · have hall : ∀ x ∈ l, ¬ x.seq < p := fun x hx => by have := hP x hx; omega
      have hk : keep0 p l = l := List.filter_eq_self.2 fun x hx => by simp; have := hall x hx; omega
      have hz : ∀ r : List Int, ret0 p l r = r := fun r => by
        have : (l.filter fun x => decide (x.seq < p)) = [] := List.filter_eq_nil_iff.2 fun x hx => by simp; have := hall x hx; omega
        rw [ret0, this]
        rfl
      rw [if_pos hg, if_pos hg, if_pos hg, if_pos hg, hk, hz, hz]
      exact ⟨rfl, rfl⟩
    · rw [if_neg hg, if_neg hg, if_neg hg, if_neg hg]
      obtain ⟨a, b, rfl, ha, hb⟩ := split_at hr e.seq
      rw [insE_split ha hb]
      have he : keep0 p [e] = [e] := List.filter_eq_self.2 fun x hx => by simp at hx; subst hx; simp; omega
      constructor
      · rw [keep0_append, keep0_append, keep0_append, he, insE_split (a := keep0 p a) (b := keep0 p b) (fun x hx => ha x (List.mem_filter.1 hx).1) (fun x hx => hb x (List.mem_filter.1 hx).1)]
      · have hf : (([e] : List Entry).filter fun x => decide (x.seq < p)) = [] := List.filter_eq_nil_iff.2 fun x hx => by simp at hx; subst hx; simp; omega
        rw [ret0, ret0, List.filter_append, List.filter_append, List.filter_append, hf, List.nil_append]

/-- the law's test of a clash -/
theorem clash_law (e x : Entry) : clashP e x = ((decide (x.seq = e.seq) && decide (x ≠ e)) || (decide (x.id = e.id) && decide (x.seq ≠ e.seq))) := by
  unfold clashP
  by_cases h1 : x = e
  · subst h1; simp
  · by_cases h2 : x.seq = e.seq <;> by_cases h3 : x.id = e.id <;> simp [h1, h2, h3]

theorem mem_insE {e x : Entry} {l : List Entry} : x ∈ insE e l ↔ x = e ∨ x ∈ l := by
  have h : l = l.takeWhile (fun x => decide (x.seq < e.seq)) ++ l.dropWhile (fun x => decide (x.seq < e.seq)) := List.takeWhile_append_dropWhile.symm
  rw [insE]
  conv => rhs; rw [h]
  simp only [List.mem_append, List.mem_singleton]
  constructor
  · rintro (h | h | h)
    · exact .inr (.inl h)
    · exact .inl h
    · exact .inr (.inr h)
  · rintro (h | h | h)
    · exact .inr (.inl h)
    · exact .inl h
    · exact .inr (.inr h)

/-- what the Other of the law keeps -/
structure Sd (n : Nat) (o : OtherM) : Prop where
  most : 1 ≤ o.most ∧ o.most ≤ 4
  len : (o.l.length : Int) ≤ o.most
  rise : o.l.Pairwise fun x y => x.seq < y.seq
  low : ∀ e ∈ o.l, o.prior ≤ e.seq
  now : ∃ e ∈ o.l, e.seq = o.now
  prior : 0 ≤ o.prior ∧ o.prior ≤ 18446744073709551615
  ret : o.retired.length ≤ 8 + n
  ok : ∀ e ∈ o.l, enE.ok e

theorem Sd.wf {n : Nat} {o : OtherM} (h : Sd n o) (hn : n ≤ 100) : o.WF := by
  obtain ⟨x, hx, hq⟩ := h.now
  have h1 := h.ok x hx
  have h2 := h.ret
  exact ⟨h.most, h.len, by rw [← hq]; exact ⟨h1.1, h1.2.1⟩, h.prior, by omega⟩
theorem Sd.later {n : Nat} {o : OtherM} (h : Sd n o) : Sd (n + 1) o := { h with ret := by have := h.ret; omega }
theorem Sd.told {n : Nat} {o : OtherM} (h : Sd n o) (s : Int) : Sd (n + 1) (o.told s) := ⟨h.most, h.len, h.rise, h.low, h.now, h.prior, by
  have := h.ret
  have h2 := List.length_filter_le (fun k => !decide (k = s)) o.retired
  show (o.retired.filter fun k => !decide (k = s)).length ≤ _
  omega, h.ok⟩
theorem Sd.lost {n : Nat} {o : OtherM} (h : Sd n o) (s : Int) : Sd (n + 1) (o.lost s) := by
  have := h.ret
  unfold OtherM.lost
  split
  · exact h.later
  · exact ⟨h.most, h.len, h.rise, h.low, h.now, h.prior, by simp; omega, h.ok⟩
end Go.Proofs.Ytfilpenkihdjiaa
