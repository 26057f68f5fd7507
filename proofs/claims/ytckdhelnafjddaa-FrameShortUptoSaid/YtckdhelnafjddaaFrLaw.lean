/- What was taken, plainly: as many frames as were written, and the same. Conditions: none. -/
import Derived.Test.YtckdhelnafjddaaFrS
namespace Go.Proofs.Ytckdhelnafjddaa
open Go Go.Sl Go.Proofs Go.RowKit Go.ChangeShapes Go.WideShapes Go.ChangeAt
set_option maxRecDepth 20000
set_option linter.unusedVariables false
set_option linter.unusedSimpArgs false

theorem takes_det {l : List UInt8} {fs : List FrM} {e : Int} (h : Takes l fs e) : ∀ {gs : List FrM} {e' : Int}, Takes l gs e' → fs = gs ∧ e = e' := by
  induction h with
  | nil =>
    intro gs e' h2
    cases h2 with
    | nil => exact ⟨rfl, rfl⟩
    | bad h0 _ => exact absurd rfl h0
    | more h0 _ _ => exact absurd rfl h0
  | bad h0 h =>
    intro gs e' h2
    cases h2 with
    | nil => exact absurd rfl h0
    | bad _ _ => exact ⟨rfl, rfl⟩
    | more _ h1 _ => exact absurd h1 h
  | more h0 h ht ih =>
    intro gs e' h2
    cases h2 with
    | nil => exact absurd rfl h0
    | bad _ h1 => exact absurd h h1
    | more _ _ ht2 =>
      obtain ⟨h3, h4⟩ := ih ht2
      exact ⟨by rw [h3], h4⟩
theorem Took.good {l : List UInt8} {n : Nat} {e' : Int} {es : List FrE} {D : Hp} {ms : List FrM} (h : Took l n e' es D) (ht : Takes l ms 0) (hm : ms ≠ []) : e' = 0 ∧ es.map (·.m) = ms := by
  obtain ⟨ms2, e, h1, h2⟩ := h.run
  obtain ⟨rfl, rfl⟩ := takes_det h1 ht
  rcases h2 with ⟨h3, _⟩ | ⟨_, h3, _⟩ | ⟨_, _, h3, h4⟩
  · exact absurd rfl h3
  · exact absurd h3 hm
  · exact ⟨h3, h4⟩
theorem Took.bad {l : List UInt8} {n : Nat} {e' e : Int} {es : List FrE} {D : Hp} {ms : List FrM} (h : Took l n e' es D) (ht : Takes l ms e) (he : e ≠ 0) : e' = e ∧ es = [] := by
  obtain ⟨ms2, e2, h1, h2⟩ := h.run
  obtain ⟨rfl, rfl⟩ := takes_det h1 ht
  rcases h2 with ⟨_, h3, h4⟩ | ⟨h3, _⟩ | ⟨h3, _⟩
  · exact ⟨h3, h4⟩
  · exact absurd h3 he
  · exact absurd h3 he
theorem Took.none {n : Nat} {e' : Int} {es : List FrE} {D : Hp} (h : Took [] n e' es D) : e' = 27 ∧ es = [] := by
  obtain ⟨ms2, e2, h1, h2⟩ := h.run
  obtain ⟨rfl, rfl⟩ := takes_det h1 Takes.nil
  rcases h2 with ⟨h3, _⟩ | ⟨_, _, h3, h4⟩ | ⟨_, h3, _⟩
  · exact absurd rfl h3
  · exact ⟨h3, h4⟩
  · exact absurd rfl h3
def decF (f : FrM) : FrM := (pTake (encF f, 0)).1
theorem dec_rt {f : FrM} (hok : f.ok) (h : CanF f) : RT pTake (encF f) (decF f) := by
  obtain ⟨g, hg⟩ := take_rt hok h
  have h1 := hg []
  rw [List.append_nil] at h1
  have h2 : decF f = g := by unfold decF; rw [h1]
  rw [h2]
  exact hg
theorem pTake_nil : (pTake ([], 0)).2.2 = 3 := by decide +kernel
theorem encF_ne {f : FrM} (hok : f.ok) (h : CanF f) : encF f ≠ [] := by
  intro h0
  have h1 := dec_rt hok h []
  rw [h0] at h1
  have h2 := pTake_nil
  rw [List.append_nil] at h1
  rw [h1] at h2
  cases h2
theorem takes_encs : ∀ {l : List FrM}, (∀ f ∈ l, CanF f ∧ f.ok) → Takes (encs l) (l.map decF) 0
  | [], _ => Takes.nil
  | f :: l, h => by
    obtain ⟨h1, h2⟩ := h f List.mem_cons_self
    have h3 := dec_rt h2 h1 (encs l)
    have h4 := takes_encs (l := l) fun g hg => h g (List.mem_cons_of_mem _ hg)
    have h5 : encs (f :: l) = encF f ++ encs l := rfl
    rw [h5, List.map_cons]
    have hne : encF f ++ encs l ≠ [] := by
      intro h6
      exact encF_ne h2 h1 (List.append_eq_nil_iff.1 h6).1
    have h7 := Takes.more (l := encF f ++ encs l) (fs := l.map decF) (e := 0) hne (by rw [h3]) (by rw [h3]; exact h4)
    rw [h3] at h7
    exact h7
theorem decF_ok {f : FrM} : (decF f).ok := take_ok _
/-- a frame that is cut -/
theorem takes_cut {f : FrM} (hok : f.ok) (h : CanF f) {p q : List UInt8} (hp : p ++ q = encF f) (hq : q ≠ []) (h0 : p ≠ []) : ∃ e, Takes p [] e ∧ e ≠ 0 := ⟨_, Takes.bad h0 (take_cut hok h hp hq), take_cut hok h hp hq⟩
end Go.Proofs.Ytckdhelnafjddaa
