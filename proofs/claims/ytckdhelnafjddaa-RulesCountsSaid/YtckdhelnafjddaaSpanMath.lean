/- Sets of numbers as rising ranges: what adding and cutting yield, and that the document's answer is the same: plain facts. Conditions: none. -/
import Derived.Test.YtckdhelnafjddaaTypes
namespace Go.Proofs.Ytckdhelnafjddaa
set_option linter.unusedVariables false
set_option linter.unusedSimpArgs false

structure Rg where
  a : Int
  b : Int
deriving DecidableEq

def RgOk (r : Rg) : Prop := 0 ≤ r.a ∧ r.a < r.b ∧ r.b ≤ 18446744073709551615
def Good (l : List Rg) : Prop := (∀ r ∈ l, RgOk r) ∧ l.Pairwise fun x y => x.b < y.a
def InR (l : List Rg) (n : Int) : Prop := ∃ r ∈ l, r.a ≤ n ∧ n < r.b

theorem InR.nil {n : Int} : ¬ InR [] n := fun ⟨r, h, _⟩ => by simp at h
theorem InR.cons {r : Rg} {l : List Rg} {n : Int} : InR (r :: l) n ↔ (r.a ≤ n ∧ n < r.b) ∨ InR l n := by
  constructor
  · rintro ⟨x, hx, h⟩
    rcases List.mem_cons.1 hx with rfl | hx
    · exact .inl h
    · exact .inr ⟨x, hx, h⟩
  · rintro (h | ⟨x, hx, h⟩)
    · exact ⟨r, List.mem_cons_self, h⟩
    · exact ⟨x, List.mem_cons_of_mem _ hx, h⟩
theorem InR.append {l l' : List Rg} {n : Int} : InR (l ++ l') n ↔ InR l n ∨ InR l' n := by
  induction l with
  | nil => simp [InR.nil]
  | cons x l ih => rw [List.cons_append, InR.cons, InR.cons, ih, or_assoc]
theorem Good.nil : Good [] := ⟨by simp, by simp⟩
theorem Good.cons {r : Rg} {l : List Rg} : Good (r :: l) ↔ RgOk r ∧ (∀ x ∈ l, r.b < x.a) ∧ Good l := by
  unfold Good
  simp only [List.mem_cons, forall_eq_or_imp, List.pairwise_cons]
  constructor
  · rintro ⟨⟨h1, h2⟩, h3, h4⟩; exact ⟨h1, h3, h2, h4⟩
  · rintro ⟨h1, h3, h2, h4⟩; exact ⟨⟨h1, h2⟩, h3, h4⟩
theorem Good.append {l l' : List Rg} : Good (l ++ l') ↔ Good l ∧ Good l' ∧ ∀ x ∈ l, ∀ y ∈ l', x.b < y.a := by
  unfold Good
  simp only [List.mem_append, List.pairwise_append]
  constructor
  · rintro ⟨h1, h2, h3, h4⟩; exact ⟨⟨fun r hr => h1 r (.inl hr), h2⟩, ⟨fun r hr => h1 r (.inr hr), h3⟩, h4⟩
  · rintro ⟨⟨h1, h2⟩, ⟨h3, h4⟩, h5⟩; exact ⟨fun r hr => hr.elim (h1 r) (h3 r), h2, h4, h5⟩

theorem Good.ext {l : List Rg} : ∀ {l' : List Rg}, Good l → Good l' → (∀ n, InR l n ↔ InR l' n) → l = l' := by
  induction l with
  | nil =>
    intro l' _ h' hn
    cases l' with
    | nil => rfl
    | cons y l' =>
      have := (Good.cons.1 h').1
      exact absurd ((hn y.a).2 (InR.cons.2 (.inl ⟨Int.le_refl _, this.2.1⟩))) InR.nil
  | cons x l ih =>
    intro l' h h' hn
    cases l' with
    | nil =>
      have := (Good.cons.1 h).1
      exact absurd ((hn x.a).1 (InR.cons.2 (.inl ⟨Int.le_refl _, this.2.1⟩))) InR.nil
    | cons y l' =>
      obtain ⟨hx, hxl, hl⟩ := Good.cons.1 h
      obtain ⟨hy, hyl, hl'⟩ := Good.cons.1 h'
      have hx2 := hx.2.1
      have hy2 := hy.2.1
      have ha : x.a = y.a := by
        have h1 : y.a ≤ x.a := by
          rcases InR.cons.1 ((hn x.a).1 (InR.cons.2 (.inl ⟨Int.le_refl _, hx2⟩))) with h1 | ⟨r, hr, h1⟩
          · exact h1.1
          · have := hyl r hr; omega
        have h2 : x.a ≤ y.a := by
          rcases InR.cons.1 ((hn y.a).2 (InR.cons.2 (.inl ⟨Int.le_refl _, hy2⟩))) with h1 | ⟨r, hr, h1⟩
          · exact h1.1
          · have := hxl r hr; omega
        omega
      have hb : x.b = y.b := by
        rcases Int.lt_trichotomy x.b y.b with h1 | h1 | h1
        · rcases InR.cons.1 ((hn x.b).2 (InR.cons.2 (.inl ⟨by omega, h1⟩))) with h2 | ⟨r, hr, h2⟩
          · omega
          · have := hxl r hr; omega
        · exact h1
        · rcases InR.cons.1 ((hn y.b).1 (InR.cons.2 (.inl ⟨by omega, h1⟩))) with h2 | ⟨r, hr, h2⟩
          · omega
          · have := hyl r hr; omega
      have hxy : x = y := by cases x; cases y; simp_all
      subst hxy
      have := ih hl hl' fun n => by
        constructor
        · intro hi
          obtain ⟨r, hr, h1⟩ := hi
          have h2 := hxl r hr
          rcases InR.cons.1 ((hn n).1 (InR.cons.2 (.inr ⟨r, hr, h1⟩))) with h3 | h3
          · omega
          · exact h3
        · intro hi
          obtain ⟨r, hr, h1⟩ := hi
          have h2 := hyl r hr
          rcases InR.cons.1 ((hn n).2 (InR.cons.2 (.inr ⟨r, hr, h1⟩))) with h3 | h3
          · omega
          · exact h3
      rw [this]

/-- where the first range is that ends at a number or behind it -/
def cutAt (p : Rg → Bool) (l : List Rg) : Nat := l.findIdx p
theorem cutAt_le {p : Rg → Bool} {l : List Rg} : cutAt p l ≤ l.length := List.findIdx_le_length
theorem cutAt_pre {p : Rg → Bool} {l : List Rg} : ∀ x ∈ l.take (cutAt p l), p x = false := by
  intro x hx
  obtain ⟨i, hi, rfl⟩ := List.mem_iff_getElem.1 hx
  rw [List.getElem_take]
  have : i < cutAt p l := by simp at hi; omega
  simpa using List.not_of_lt_findIdx this
theorem cutAt_post {p : Rg → Bool} {l : List Rg} (hm : l.Pairwise fun x y => p x = true → p y = true) : ∀ x ∈ l.drop (cutAt p l), p x = true := by
  intro x hx
  obtain ⟨i, hi, rfl⟩ := List.mem_iff_getElem.1 hx
  rw [List.getElem_drop]
  rw [List.length_drop] at hi
  have h0 : cutAt p l < l.length := by omega
  have h1 : p l[cutAt p l] = true := List.findIdx_getElem (w := h0)
  by_cases hi0 : i = 0
  · subst hi0; exact h1
  · exact List.pairwise_iff_getElem.1 hm (cutAt p l) (cutAt p l + i) h0 (by omega) (by omega) h1
theorem Good.mono {l : List Rg} (h : Good l) : l.Pairwise fun x y => x.b < y.b := by
  refine h.2.imp_of_mem fun hx hy hxy => ?_
  have := (h.1 _ hy).2.1
  omega
theorem Good.ends {l : List Rg} (h : Good l) (n : Int) : l.Pairwise fun x y => (decide (n ≤ x.b)) = true → (decide (n ≤ y.b)) = true := h.mono.imp fun hxy hx => by simp at *; omega
theorem Good.behinds {l : List Rg} (h : Good l) (n : Int) : l.Pairwise fun x y => (decide (n < x.b)) = true → (decide (n < y.b)) = true := h.mono.imp fun hxy hx => by simp at *; omega

/-! ### Add -/
def mrg (r : Rg) : List Rg → Rg × Nat
  | [] => (r, 0)
  | x :: l => if x.a ≤ r.b then ((mrg ⟨min r.a x.a, max r.b x.b⟩ l).1, (mrg ⟨min r.a x.a, max r.b x.b⟩ l).2 + 1) else (r, 0)
def addL (l : List Rg) (r : Rg) : List Rg :=
  l.take (cutAt (fun x => decide (r.a ≤ x.b)) l) ++ ([(mrg r (l.drop (cutAt (fun x => decide (r.a ≤ x.b)) l))).1] ++ l.drop (cutAt (fun x => decide (r.a ≤ x.b)) l + (mrg r (l.drop (cutAt (fun x => decide (r.a ≤ x.b)) l))).2))

structure MrgS (r : Rg) (B : List Rg) (w : Rg) (k : Nat) : Prop where
  le : k ≤ B.length
  lo : w.a ≤ r.a
  hi : r.b ≤ w.b
  ok : RgOk w
  mem : ∀ n, (w.a ≤ n ∧ n < w.b) ↔ (r.a ≤ n ∧ n < r.b) ∨ InR (B.take k) n
  post : ∀ x ∈ B.drop k, w.b < x.a
  pre : ∀ c, c < r.a → (∀ x ∈ B, c < x.a) → c < w.a
theorem mrgS {B : List Rg} : ∀ {r : Rg}, Good B → RgOk r → (∀ x ∈ B, r.a ≤ x.b) → MrgS r B (mrg r B).1 (mrg r B).2 := by
  induction B with
  | nil => intro r _ hr _; exact ⟨by simp [mrg], Int.le_refl _, Int.le_refl _, hr, fun n => by simp [mrg, InR.nil], by simp, fun c hc _ => hc⟩
  | cons x B ih =>
    intro r hB hr hx
    obtain ⟨hxo, hxB, hBg⟩ := Good.cons.1 hB
    have hxr := hx x (List.mem_cons_self)
    obtain ⟨r1, r2, r3⟩ := hr
    obtain ⟨x1, x2, x3⟩ := hxo
    by_cases hc : x.a ≤ r.b
    · have hr' : RgOk ⟨min r.a x.a, max r.b x.b⟩ := ⟨by dsimp only; omega, by dsimp only; omega, by dsimp only; omega⟩
      have h := ih hBg hr' fun y hy => by
        have := hxB y hy
        have := (hBg.1 y hy).2.1
        dsimp only
        omega
      have e1 : (mrg r (x :: B)).1 = (mrg ⟨min r.a x.a, max r.b x.b⟩ B).1 := by rw [mrg, if_pos hc]
      have e2 : (mrg r (x :: B)).2 = (mrg ⟨min r.a x.a, max r.b x.b⟩ B).2 + 1 := by rw [mrg, if_pos hc]
      have hlo := h.lo
      have hhi := h.hi
      dsimp only at hlo hhi
      rw [e1, e2]
      refine ⟨by have := h.le; simp; omega, by omega, by omega, h.ok, fun n => ?_, fun y hy => h.post y (by simpa using hy), fun c h1 h2 => h.pre c (by have := h2 x (List.mem_cons_self); dsimp only; omega) fun y hy => h2 y (List.mem_cons_of_mem _ hy)⟩
      rw [h.mem n, List.take_succ_cons, InR.cons]
      dsimp only
      constructor
      · rintro (h1 | h1)
        · by_cases h2 : r.a ≤ n ∧ n < r.b
          · exact .inl h2
          · exact .inr (.inl (by omega))
        · exact .inr (.inr h1)
      · rintro (h1 | h1 | h1)
        · exact .inl (by omega)
        · exact .inl (by omega)
        · exact .inr h1
    · have e1 : mrg r (x :: B) = (r, 0) := by rw [mrg, if_neg hc]
      rw [e1]
      refine ⟨by simp, Int.le_refl _, Int.le_refl _, ⟨r1, r2, r3⟩, fun n => by simp [InR.nil], fun y hy => ?_, fun c h1 _ => h1⟩
      rcases List.mem_cons.1 (by simpa using hy) with rfl | hy
      · dsimp only; omega
      · have := hxB y hy; dsimp only; omega

theorem addS {l : List Rg} {r : Rg} (hl : Good l) (hr : RgOk r) : MrgS r (l.drop (cutAt (fun x => decide (r.a ≤ x.b)) l)) (mrg r (l.drop (cutAt (fun x => decide (r.a ≤ x.b)) l))).1 (mrg r (l.drop (cutAt (fun x => decide (r.a ≤ x.b)) l))).2 := by
  refine mrgS ?_ hr fun x hx => by simpa using cutAt_post (hl.ends r.a) x hx
  have := hl
  rw [← List.take_append_drop (cutAt (fun x => decide (r.a ≤ x.b)) l) l] at this
  exact (Good.append.1 this).2.1

theorem add_spec {l : List Rg} {r : Rg} (hl : Good l) (hr : RgOk r) : Good (addL l r) ∧ (∀ n, InR (addL l r) n ↔ InR l n ∨ (r.a ≤ n ∧ n < r.b)) ∧ (addL l r).length ≤ l.length + 1 := by
  have h := addS hl hr
  unfold addL
  have hp : ∀ x ∈ l.take (cutAt (fun x => decide (r.a ≤ x.b)) l), x.b < r.a := fun x hx => by simpa using cutAt_pre x hx
  have hc := @cutAt_le (fun x => decide (r.a ≤ x.b)) l
  generalize cutAt (fun x => decide (r.a ≤ x.b)) l = f at *
  generalize mrg r (l.drop f) = m at *
  obtain ⟨w, k⟩ := m
  dsimp only at *
  have hl0 := hl
  rw [← List.take_append_drop f l] at hl0
  obtain ⟨g1, g2, g3⟩ := Good.append.1 hl0
  have g4 := g2
  rw [← List.take_append_drop k (l.drop f)] at g4
  obtain ⟨g5, g6, g7⟩ := Good.append.1 g4
  rw [List.drop_drop] at g6 g7
  have hpost := h.post
  rw [List.drop_drop] at hpost
  have hle := h.le
  rw [List.length_drop] at hle
  refine ⟨Good.append.2 ⟨g1, Good.append.2 ⟨Good.cons.2 ⟨h.ok, by simp, Good.nil⟩, g6, fun x hx y hy => ?_⟩, fun x hx y hy => ?_⟩, fun n => ?_, ?_⟩
  · simp at hx; subst hx; exact hpost y hy
  · rcases List.mem_append.1 hy with hy | hy
    · simp at hy
      subst hy
      exact h.pre _ (hp x hx) fun z hz => g3 x hx z hz
    · refine g3 x hx y ?_
      rw [← List.drop_drop] at hy
      exact List.mem_of_mem_drop hy
  · conv => rhs; rw [← List.take_append_drop f l, ← List.take_append_drop k (l.drop f), List.drop_drop]
    simp only [InR.append, InR.cons, h.mem n]
    have := @InR.nil n
    constructor
    · rintro (h1 | ((h1 | h1) | h1) | h1)
      · exact .inl (.inl h1)
      · exact .inr h1
      · exact .inl (.inr (.inl h1))
      · exact absurd h1 this
      · exact .inl (.inr (.inr h1))
    · rintro ((h1 | h1 | h1) | h1)
      · exact .inl h1
      · exact .inr (.inl (.inl (.inr h1)))
      · exact .inr (.inr h1)
      · exact .inr (.inl (.inl (.inl h1)))
  · simp only [List.length_append, List.length_take, List.length_drop, List.length_singleton]
    omega

/-! ### Cut -/
def below (r x : Rg) : List Rg := if x.a < r.a then [⟨x.a, r.a⟩] else []
def above (r x : Rg) : List Rg := if r.b < x.b then [⟨r.b, x.b⟩] else []
def cutM (r : Rg) : List Rg → List Rg × Nat
  | [] => ([], 0)
  | x :: l => if x.a < r.b then (below r x ++ (above r x ++ (cutM r l).1), (cutM r l).2 + 1) else ([], 0)
def cutL (l : List Rg) (r : Rg) : List Rg :=
  l.take (cutAt (fun x => decide (r.a < x.b)) l) ++ ((cutM r (l.drop (cutAt (fun x => decide (r.a < x.b)) l))).1 ++ l.drop (cutAt (fun x => decide (r.a < x.b)) l + (cutM r (l.drop (cutAt (fun x => decide (r.a < x.b)) l))).2))

structure CutS (r : Rg) (B : List Rg) (L : List Rg) (k : Nat) : Prop where
  le : k ≤ B.length
  good : Good L
  mem : ∀ n, InR L n ↔ InR (B.take k) n ∧ ¬ (r.a ≤ n ∧ n < r.b)
  post : ∀ x ∈ B.drop k, ∀ s ∈ L, s.b < x.a
  postr : ∀ x ∈ B.drop k, r.b ≤ x.a
  pre : ∀ c, c < r.b → (∀ x ∈ B, c < x.a) → ∀ s ∈ L, c < s.a
  len : L.length ≤ k + 1
theorem cutM_none {r : Rg} {B : List Rg} (h : ∀ x ∈ B, r.b ≤ x.a) : cutM r B = ([], 0) := by
  cases B with
  | nil => rfl
  | cons x B => rw [cutM, if_neg (by have := h x (List.mem_cons_self); omega)]
theorem CutS.none {r : Rg} {B : List Rg} (h : ∀ x ∈ B, r.b ≤ x.a) : CutS r B [] 0 :=
  ⟨by simp, Good.nil, fun n => by simp [InR.nil], by simp, fun x hx => h x (by simpa using hx), by simp, by simp⟩
theorem cutT {r : Rg} (hr : RgOk r) : ∀ {B : List Rg}, Good B → (∀ x ∈ B, r.a ≤ x.a) → CutS r B (cutM r B).1 (cutM r B).2 ∧ (cutM r B).1.length ≤ (cutM r B).2 ∧ ∀ s ∈ (cutM r B).1, s.a = r.b := by
  obtain ⟨r1, r2, r3⟩ := hr
  intro B
  induction B with
  | nil => intro _ _; exact ⟨CutS.none (by simp), by simp [cutM], by simp [cutM]⟩
  | cons x B ih =>
    intro hB hx
    obtain ⟨⟨x1, x2, x3⟩, hxB, hBg⟩ := Good.cons.1 hB
    have hxr := hx x (List.mem_cons_self)
    by_cases hc : x.a < r.b
    · have hbe : below r x = [] := if_neg (by omega)
      by_cases hab : r.b < x.b
      · have h0 : cutM r B = ([], 0) := cutM_none fun y hy => by have := hxB y hy; omega
        have e : cutM r (x :: B) = ([⟨r.b, x.b⟩], 1) := by rw [cutM, if_pos hc, h0, hbe, above, if_pos hab]; rfl
        rw [e]
        refine ⟨⟨by simp, Good.cons.2 ⟨⟨by dsimp only; omega, hab, x3⟩, by simp, Good.nil⟩, fun n => ?_, fun y hy s hs => ?_, fun y hy => ?_, fun c h1 _ s hs => ?_, by simp⟩, by simp, by simp⟩
        · simp only [List.take_succ_cons, List.take_zero, InR.cons]
          have := @InR.nil n
          constructor
          · rintro (h | h)
            · exact ⟨.inl (by omega), by omega⟩
            · exact absurd h this
          · rintro ⟨h | h, h2⟩
            · exact .inl (by omega)
            · exact absurd h this
        · simp at hs hy; subst hs; exact hxB y hy
        · simp at hy; have := hxB y hy; omega
        · simp at hs; subst hs; exact h1
      · obtain ⟨h, hlen, hsa⟩ := ih hBg fun y hy => hx y (List.mem_cons_of_mem _ hy)
        have e1 : (cutM r (x :: B)).1 = (cutM r B).1 := by rw [cutM, if_pos hc, hbe, above, if_neg hab]; rfl
        have e2 : (cutM r (x :: B)).2 = (cutM r B).2 + 1 := by rw [cutM, if_pos hc]
        rw [e1, e2]
        refine ⟨⟨by have := h.le; simp; omega, h.good, fun n => ?_, fun y hy => h.post y (by simpa using hy), fun y hy => h.postr y (by simpa using hy), fun c h1 _ s hs => by rw [hsa s hs]; exact h1, by omega⟩, by omega, hsa⟩
        rw [h.mem n, List.take_succ_cons, InR.cons]
        constructor
        · rintro ⟨h1, h2⟩; exact ⟨.inr h1, h2⟩
        · rintro ⟨h1 | h1, h2⟩
          · omega
          · exact ⟨h1, h2⟩
    · have h0 : ∀ y ∈ x :: B, r.b ≤ y.a := fun y hy => by
        rcases List.mem_cons.1 hy with rfl | hy
        · omega
        · have := hxB y hy; omega
      rw [cutM_none h0]
      exact ⟨CutS.none h0, by simp, by simp⟩

theorem cutS {r : Rg} (hr : RgOk r) {B : List Rg} (hB : Good B) (hx : ∀ x ∈ B, r.a < x.b) : CutS r B (cutM r B).1 (cutM r B).2 := by
  obtain ⟨r1, r2, r3⟩ := hr
  cases B with
  | nil => exact CutS.none (by simp)
  | cons x B =>
    obtain ⟨⟨x1, x2, x3⟩, hxB, hBg⟩ := Good.cons.1 hB
    have hxr := hx x (List.mem_cons_self)
    by_cases hxa : r.a ≤ x.a
    · exact (cutT ⟨r1, r2, r3⟩ hB fun y hy => by
        rcases List.mem_cons.1 hy with rfl | hy
        · exact hxa
        · have := hxB y hy; omega).1
    · have hbe : below r x = [⟨x.a, r.a⟩] := if_pos (by omega)
      have hc : x.a < r.b := by omega
      by_cases hab : r.b < x.b
      · have h0 : cutM r B = ([], 0) := cutM_none fun y hy => by have := hxB y hy; omega
        have e : cutM r (x :: B) = ([⟨x.a, r.a⟩, ⟨r.b, x.b⟩], 1) := by rw [cutM, if_pos hc, h0, hbe, above, if_pos hab]; rfl
        rw [e]
        refine ⟨by simp, Good.cons.2 ⟨⟨by dsimp only; omega, by dsimp only; omega, by dsimp only; omega⟩, by simp; omega, Good.cons.2 ⟨⟨by dsimp only; omega, hab, x3⟩, by simp, Good.nil⟩⟩, fun n => ?_, fun y hy s hs => ?_, fun y hy => ?_, fun c h1 h2 s hs => ?_, by simp⟩
        · simp only [List.take_succ_cons, List.take_zero, InR.cons]
          have := @InR.nil n
          constructor
          · rintro (h | h | h)
            · exact ⟨.inl (by omega), by omega⟩
            · exact ⟨.inl (by omega), by omega⟩
            · exact absurd h this
          · rintro ⟨h | h, h2⟩
            · skip
              by_cases h3 : n < r.a
              · exact .inl (by omega)
              · exact .inr (.inl (by omega))
            · exact absurd h this
        · simp at hs hy
          have := hxB y hy
          rcases hs with rfl | rfl
          · dsimp only; omega
          · exact this
        · simp at hy; have := hxB y hy; omega
        · have := h2 x (List.mem_cons_self)
          simp at hs
          rcases hs with rfl | rfl
          · exact this
          · exact h1
      · obtain ⟨h, hlen, hsa⟩ := cutT ⟨r1, r2, r3⟩ hBg fun y hy => by have := hxB y hy; omega
        have e1 : (cutM r (x :: B)).1 = ⟨x.a, r.a⟩ :: (cutM r B).1 := by rw [cutM, if_pos hc, hbe, above, if_neg hab]; rfl
        have e2 : (cutM r (x :: B)).2 = (cutM r B).2 + 1 := by rw [cutM, if_pos hc]
        rw [e1, e2]
        refine ⟨by have := h.le; simp; omega, Good.cons.2 ⟨⟨by dsimp only; omega, by dsimp only; omega, by dsimp only; omega⟩, fun s hs => by rw [hsa s hs]; exact r2, h.good⟩, fun n => ?_, fun y hy s hs => ?_, fun y hy => h.postr y (by simpa using hy), fun c h1 h2 s hs => ?_, by simp; omega⟩
        · rw [List.take_succ_cons, InR.cons, InR.cons, h.mem n]
          dsimp only
          constructor
          · rintro (h1 | ⟨h1, h2⟩)
            · exact ⟨.inl (by omega), by omega⟩
            · exact ⟨.inr h1, h2⟩
          · rintro ⟨h1 | h1, h2⟩
            · exact .inl (by omega)
            · exact .inr ⟨h1, h2⟩
        · have hy2 : y ∈ B.drop (cutM r B).2 := by simpa using hy
          rcases List.mem_cons.1 hs with rfl | hs
          · have := h.postr y hy2; dsimp only; omega
          · exact h.post y hy2 s hs
        · have := h2 x (List.mem_cons_self)
          rcases List.mem_cons.1 hs with rfl | hs
          · exact this
          · rw [hsa s hs]; exact h1

theorem cut_spec {l : List Rg} {r : Rg} (hl : Good l) (hr : RgOk r) : Good (cutL l r) ∧ (∀ n, InR (cutL l r) n ↔ InR l n ∧ ¬ (r.a ≤ n ∧ n < r.b)) ∧ (cutL l r).length ≤ l.length + 1 := by
  have hB : Good (l.drop (cutAt (fun x => decide (r.a < x.b)) l)) := by
    have := hl
    rw [← List.take_append_drop (cutAt (fun x => decide (r.a < x.b)) l) l] at this
    exact (Good.append.1 this).2.1
  have h := cutS hr hB fun x hx => by simpa using cutAt_post (hl.behinds r.a) x hx
  unfold cutL
  have hp : ∀ x ∈ l.take (cutAt (fun x => decide (r.a < x.b)) l), x.b ≤ r.a := fun x hx => by simpa using cutAt_pre x hx
  have hc := @cutAt_le (fun x => decide (r.a < x.b)) l
  generalize cutAt (fun x => decide (r.a < x.b)) l = f at *
  generalize cutM r (l.drop f) = m at *
  obtain ⟨L, k⟩ := m
  dsimp only at *
  have hl0 := hl
  rw [← List.take_append_drop f l] at hl0
  obtain ⟨g1, g2, g3⟩ := Good.append.1 hl0
  have g4 := g2
  rw [← List.take_append_drop k (l.drop f)] at g4
  obtain ⟨g5, g6, g7⟩ := Good.append.1 g4
  rw [List.drop_drop] at g6 g7
  have hpost := h.post
  have hpostr := h.postr
  rw [List.drop_drop] at hpost hpostr
  have hle := h.le
  rw [List.length_drop] at hle
  obtain ⟨r1, r2, r3⟩ := hr
  refine ⟨Good.append.2 ⟨g1, Good.append.2 ⟨h.good, g6, fun x hx y hy => hpost y hy x hx⟩, fun x hx y hy => ?_⟩, fun n => ?_, ?_⟩
  · rcases List.mem_append.1 hy with hy | hy
    · exact h.pre _ (by have := hp x hx; omega) (fun z hz => g3 x hx z hz) y hy
    · refine g3 x hx y ?_
      rw [← List.drop_drop] at hy
      exact List.mem_of_mem_drop hy
  · conv => rhs; rw [← List.take_append_drop f l, ← List.take_append_drop k (l.drop f), List.drop_drop]
    simp only [InR.append, h.mem n]
    constructor
    · rintro (⟨x, hx, h1⟩ | h1 | ⟨x, hx, h1⟩)
      · have := hp x hx
        exact ⟨.inl ⟨x, hx, h1⟩, by omega⟩
      · exact ⟨.inr (.inl h1.1), h1.2⟩
      · have := hpostr x hx
        exact ⟨.inr (.inr ⟨x, hx, h1⟩), by omega⟩
    · rintro ⟨h1 | h1 | h1, h2⟩
      · exact .inl h1
      · exact .inr (.inl ⟨h1, h2⟩)
      · exact .inr (.inr h1)
  · have := h.len
    simp only [List.length_append, List.length_take, List.length_drop]
    omega

/-! ### How many -/
def cntR (l : List Rg) : Int := (l.map fun r => r.b - r.a).foldl (· + ·) 0
theorem cntR_cons {r : Rg} {l : List Rg} : cntR (r :: l) = (r.b - r.a) + cntR l := by
  have key : ∀ (l : List Int) (x : Int), l.foldl (· + ·) x = x + l.foldl (· + ·) 0 := by
    intro l
    induction l with
    | nil => simp
    | cons y l ih => intro x; simp only [List.foldl_cons]; rw [ih (x + y), ih (0 + y)]; omega
  unfold cntR
  rw [List.map_cons, List.foldl_cons, key]
  omega
theorem cntR_append {l l' : List Rg} : cntR (l ++ l') = cntR l + cntR l' := by
  induction l with
  | nil => simp [cntR]
  | cons x l ih => rw [List.cons_append, cntR_cons, cntR_cons, ih]; omega
theorem cntR_le {l : List Rg} : ∀ {u v : Int}, Good l → u ≤ v → (∀ x ∈ l, u ≤ x.a ∧ x.b ≤ v) → 0 ≤ cntR l ∧ cntR l ≤ v - u := by
  induction l with
  | nil => intro u v _ h _; simp [cntR]; omega
  | cons x l ih =>
    intro u v hg huv hx
    obtain ⟨hxo, hxl, hl⟩ := Good.cons.1 hg
    have h1 := hx x (List.mem_cons_self)
    have := ih (u := x.b) (v := v) hl (by omega) fun y hy => ⟨by have := hxl y hy; omega, (hx y (List.mem_cons_of_mem _ hy)).2⟩
    have := hxo.2.1
    rw [cntR_cons]
    omega

/-! ### The document's answer -/
def refAdd : Rg → Bool → List Rg → List Rg
  | r, done, [] => if done = true then [] else [r]
  | r, done, x :: l => if r.a ≤ x.b ∧ x.a ≤ r.b then refAdd ⟨min r.a x.a, max r.b x.b⟩ done l else if r.b < x.a ∧ done = false then r :: x :: refAdd r true l else x :: refAdd r done l
theorem refAdd_done {r : Rg} : ∀ {B : List Rg}, (∀ x ∈ B, r.b < x.a) → refAdd r true B = B := by
  intro B
  induction B with
  | nil => intro _; rfl
  | cons x B ih =>
    intro h
    have h1 := h x (List.mem_cons_self)
    rw [refAdd, if_neg (by omega), if_neg (by simp), ih fun y hy => h y (List.mem_cons_of_mem _ hy)]
theorem refAdd_mrg {B : List Rg} : ∀ {r : Rg}, Good B → RgOk r → (∀ x ∈ B, r.a ≤ x.b) → refAdd r false B = [(mrg r B).1] ++ B.drop (mrg r B).2 := by
  induction B with
  | nil => intro r _ _ _; rfl
  | cons x B ih =>
    intro r hB hr hx
    obtain ⟨hxo, hxB, hBg⟩ := Good.cons.1 hB
    have hxr := hx x (List.mem_cons_self)
    obtain ⟨r1, r2, r3⟩ := hr
    obtain ⟨x1, x2, x3⟩ := hxo
    by_cases hc : x.a ≤ r.b
    · rw [refAdd, if_pos ⟨hxr, hc⟩, ih hBg ⟨by dsimp only; omega, by dsimp only; omega, by dsimp only; omega⟩ fun y hy => by
        have := hxB y hy
        have := (hBg.1 y hy).2.1
        dsimp only
        omega]
      rw [show (mrg r (x :: B)).1 = (mrg ⟨min r.a x.a, max r.b x.b⟩ B).1 from by rw [mrg, if_pos hc], show (mrg r (x :: B)).2 = (mrg ⟨min r.a x.a, max r.b x.b⟩ B).2 + 1 from by rw [mrg, if_pos hc]]
      rfl
    · have hall : ∀ y ∈ B, r.b < y.a := fun y hy => by have := hxB y hy; omega
      rw [refAdd, if_neg (by omega), if_pos ⟨by omega, rfl⟩, refAdd_done hall, show mrg r (x :: B) = (r, 0) from by rw [mrg, if_neg hc]]
      rfl
theorem refAdd_pre {r : Rg} {B : List Rg} : ∀ {A : List Rg}, (∀ x ∈ A, x.b < r.a ∧ x.a < x.b) → RgOk r → refAdd r false (A ++ B) = A ++ refAdd r false B := by
  intro A
  induction A with
  | nil => intro _ _; rfl
  | cons x A ih =>
    intro h hr
    have h1 := h x (List.mem_cons_self)
    have h2 := hr.2.1
    rw [List.cons_append, refAdd, if_neg (by omega), if_neg (by omega), ih (fun y hy => h y (List.mem_cons_of_mem _ hy)) hr]
    rfl
theorem refAdd_eq {l : List Rg} {r : Rg} (hl : Good l) (hr : RgOk r) : refAdd r false l = addL l r := by
  have hp : ∀ x ∈ l.take (cutAt (fun x => decide (r.a ≤ x.b)) l), x.b < r.a ∧ x.a < x.b := fun x hx => ⟨by simpa using cutAt_pre x hx, (hl.1 x (List.mem_of_mem_take hx)).2.1⟩
  have hB : Good (l.drop (cutAt (fun x => decide (r.a ≤ x.b)) l)) := by
    have := hl
    rw [← List.take_append_drop (cutAt (fun x => decide (r.a ≤ x.b)) l) l] at this
    exact (Good.append.1 this).2.1
  conv => lhs; rw [← List.take_append_drop (cutAt (fun x => decide (r.a ≤ x.b)) l) l]
  rw [refAdd_pre hp hr, refAdd_mrg hB hr fun x hx => by simpa using cutAt_post (hl.ends r.a) x hx, List.drop_drop]
  rfl

def refCut1 (r x : Rg) : List Rg := if x.b ≤ r.a ∨ r.b ≤ x.a then [x] else below r x ++ above r x
def refCut (r : Rg) (l : List Rg) : List Rg := l.flatMap (refCut1 r)
theorem refCut_out {r : Rg} : ∀ {B : List Rg}, (∀ x ∈ B, x.b ≤ r.a ∨ r.b ≤ x.a) → refCut r B = B := by
  intro B
  induction B with
  | nil => intro _; rfl
  | cons x B ih =>
    intro h
    have h1 := h x (List.mem_cons_self)
    have := ih fun y hy => h y (List.mem_cons_of_mem _ hy)
    unfold refCut at this ⊢
    rw [List.flatMap_cons, this, refCut1, if_pos h1]
    rfl
theorem refCut_cut {r : Rg} : ∀ {B : List Rg}, Good B → (∀ x ∈ B, r.a < x.b) → refCut r B = (cutM r B).1 ++ B.drop (cutM r B).2 := by
  intro B
  induction B with
  | nil => intro _ _; rfl
  | cons x B ih =>
    intro hB hx
    obtain ⟨hxo, hxB, hBg⟩ := Good.cons.1 hB
    have h1 := hx x (List.mem_cons_self)
    by_cases hc : x.a < r.b
    · have := ih hBg fun y hy => hx y (List.mem_cons_of_mem _ hy)
      rw [show (cutM r (x :: B)).1 = below r x ++ (above r x ++ (cutM r B).1) from by rw [cutM, if_pos hc], show (cutM r (x :: B)).2 = (cutM r B).2 + 1 from by rw [cutM, if_pos hc]]
      unfold refCut at this ⊢
      rw [List.flatMap_cons, this, refCut1, if_neg (by omega), List.drop_succ_cons]
      simp only [List.append_assoc]
    · have h0 : ∀ y ∈ x :: B, r.b ≤ y.a := fun y hy => by
        rcases List.mem_cons.1 hy with rfl | hy
        · omega
        · have := hxB y hy; have := hxo.2.1; omega
      rw [cutM_none h0, refCut_out fun y hy => .inr (h0 y hy)]
      rfl
theorem refCut_eq {l : List Rg} {r : Rg} (hl : Good l) (hr : RgOk r) : refCut r l = cutL l r := by
  have hp : ∀ x ∈ l.take (cutAt (fun x => decide (r.a < x.b)) l), x.b ≤ r.a := fun x hx => by simpa using cutAt_pre x hx
  have hB : Good (l.drop (cutAt (fun x => decide (r.a < x.b)) l)) := by
    have := hl
    rw [← List.take_append_drop (cutAt (fun x => decide (r.a < x.b)) l) l] at this
    exact (Good.append.1 this).2.1
  have h1 := refCut_out fun x hx => .inl (hp x hx)
  have h2 := refCut_cut (r := r) hB fun x hx => by simpa using cutAt_post (hl.behinds r.a) x hx
  conv => lhs; rw [← List.take_append_drop (cutAt (fun x => decide (r.a < x.b)) l) l]
  unfold refCut at h1 h2 ⊢
  rw [List.flatMap_append, h1, h2, List.drop_drop]
  rfl

/-! ### What is asked -/
theorem has_eq {l : List Rg} (hl : Good l) {n : Int} : (∃ h : cutAt (fun x => decide (n < x.b)) l < l.length, l[cutAt (fun x => decide (n < x.b)) l].a ≤ n) ↔ InR l n := by
  constructor
  · rintro ⟨h, h1⟩
    have h2 : (decide (n < l[cutAt (fun x => decide (n < x.b)) l].b)) = true := List.findIdx_getElem (w := h)
    exact ⟨_, List.getElem_mem h, h1, of_decide_eq_true h2⟩
  · rintro ⟨r, hr, h1, h2⟩
    obtain ⟨i, hi, rfl⟩ := List.mem_iff_getElem.1 hr
    have h3 : cutAt (fun x => decide (n < x.b)) l ≤ i := by
      refine Nat.le_of_not_lt fun h => ?_
      have := List.not_of_lt_findIdx (p := fun x : Rg => decide (n < x.b)) h
      simp at this
      omega
    have h4 : cutAt (fun x => decide (n < x.b)) l < l.length := by omega
    refine ⟨h4, ?_⟩
    rcases Nat.lt_or_eq_of_le h3 with h5 | h5
    · have := List.pairwise_iff_getElem.1 hl.2 _ i h4 hi h5
      have := (hl.1 _ (List.getElem_mem h4)).2.1
      omega
    · have : l[cutAt (fun x => decide (n < x.b)) l] = l[i] := by congr
      rw [this]; exact h1
theorem covers_eq {l : List Rg} (hl : Good l) {r : Rg} (hr : r.a < r.b) : (∃ h : cutAt (fun x => decide (r.a < x.b)) l < l.length, l[cutAt (fun x => decide (r.a < x.b)) l].a ≤ r.a ∧ r.b ≤ l[cutAt (fun x => decide (r.a < x.b)) l].b) ↔ ∃ x ∈ l, x.a ≤ r.a ∧ r.b ≤ x.b := by
  constructor
  · rintro ⟨h, h1, h2⟩
    exact ⟨_, List.getElem_mem h, h1, h2⟩
  · rintro ⟨x, hx, h1, h2⟩
    obtain ⟨i, hi, rfl⟩ := List.mem_iff_getElem.1 hx
    have h3 : cutAt (fun x => decide (r.a < x.b)) l ≤ i := by
      refine Nat.le_of_not_lt fun h => ?_
      have := List.not_of_lt_findIdx (p := fun x : Rg => decide (r.a < x.b)) h
      simp at this
      omega
    have h4 : cutAt (fun x => decide (r.a < x.b)) l < l.length := by omega
    rcases Nat.lt_or_eq_of_le h3 with h5 | h5
    · have h6 := List.pairwise_iff_getElem.1 hl.2 _ i h4 hi h5
      have h7 : (decide (r.a < l[cutAt (fun x => decide (r.a < x.b)) l].b)) = true := List.findIdx_getElem (w := h4)
      have := of_decide_eq_true h7
      omega
    · have : l[cutAt (fun x => decide (r.a < x.b)) l] = l[i] := by congr
      exact ⟨h4, by rw [this]; exact ⟨h1, h2⟩⟩

/-! ### More than one set -/
theorem Good.noRange {l : List Rg} {r : Rg} (h : ¬ r.a < r.b) (n : Int) : ¬ (r.a ≤ n ∧ n < r.b) := by omega
theorem cntR_add {l : List Rg} {r : Rg} (hl : Good l) (hr : RgOk r) : cntR l ≤ cntR (addL l r) := by
  have h := addS hl hr
  unfold addL
  generalize cutAt (fun x => decide (r.a ≤ x.b)) l = f at *
  generalize mrg r (l.drop f) = m at *
  obtain ⟨w, k⟩ := m
  dsimp only at *
  have hl0 := hl
  rw [← List.take_append_drop f l] at hl0
  have g4 := (Good.append.1 hl0).2.1
  rw [← List.take_append_drop k (l.drop f)] at g4
  have g5 := (Good.append.1 g4).1
  have hm := cntR_le (u := w.a) (v := w.b) g5 (by have := h.ok.2.1; omega) fun x hx => by
    have hx2 := (g5.1 x hx).2.1
    have h1 := (h.mem x.a).2 (.inr ⟨x, hx, Int.le_refl _, hx2⟩)
    have h2 := (h.mem (x.b - 1)).2 (.inr ⟨x, hx, by omega, by omega⟩)
    omega
  conv => lhs; rw [← List.take_append_drop f l, ← List.take_append_drop k (l.drop f), List.drop_drop]
  simp only [cntR_append, cntR_cons]
  have : cntR [] = 0 := rfl
  omega
theorem cntR_max {l : List Rg} (hl : Good l) : 0 ≤ cntR l ∧ cntR l ≤ 18446744073709551615 := by
  have := cntR_le (u := 0) (v := 18446744073709551615) hl (by decide) fun x hx => ⟨(hl.1 x hx).1, (hl.1 x hx).2.2⟩
  omega
/-- what was added to a set that had none of it is cut again -/
theorem cut_add {l : List Rg} {r : Rg} (hl : Good l) (hr : RgOk r) (h : ∀ x ∈ l, x.b ≤ r.a ∨ r.b ≤ x.a) : cutL (addL l r) r = l := by
  obtain ⟨g1, g2, _⟩ := add_spec hl hr
  obtain ⟨g3, g4, _⟩ := cut_spec g1 hr
  refine Good.ext g3 hl fun n => ?_
  rw [g4, g2]
  constructor
  · rintro ⟨h1 | h1, h2⟩
    · exact h1
    · exact absurd h1 h2
  · rintro ⟨x, hx, h1⟩
    have := h x hx
    exact ⟨.inl ⟨x, hx, h1⟩, by omega⟩

/-! ### A set, and ranges that may be empty -/
structure SetM where
  limit : Int
  l : List Rg
def RgIn (r : Rg) : Prop := (0 ≤ r.a ∧ r.a ≤ 18446744073709551615) ∧ (0 ≤ r.b ∧ r.b ≤ 18446744073709551615)
theorem RgIn.ok {r : Rg} (h : RgIn r) (h1 : r.a < r.b) : RgOk r := ⟨h.1.1, h1, h.2.2⟩
theorem RgOk.inn {r : Rg} (h : RgOk r) : RgIn r := by obtain ⟨h1, h2, h3⟩ := h; exact ⟨by omega, by omega⟩
def addE (l : List Rg) (r : Rg) : List Rg := if r.a < r.b then addL l r else l
def cutE (l : List Rg) (r : Rg) : List Rg := if r.a < r.b then cutL l r else l
theorem addE_spec {l : List Rg} {r : Rg} (hl : Good l) (hr : RgIn r) : Good (addE l r) ∧ (∀ n, InR (addE l r) n ↔ InR l n ∨ (r.a ≤ n ∧ n < r.b)) ∧ (addE l r).length ≤ l.length + 1 := by
  unfold addE
  split
  · rename_i h; exact add_spec hl (hr.ok h)
  · rename_i h
    refine ⟨hl, fun n => ⟨.inl, fun h1 => h1.elim id fun h2 => absurd h2 (by omega)⟩, by omega⟩
theorem cutE_spec {l : List Rg} {r : Rg} (hl : Good l) (hr : RgIn r) : Good (cutE l r) ∧ (∀ n, InR (cutE l r) n ↔ InR l n ∧ ¬ (r.a ≤ n ∧ n < r.b)) ∧ (cutE l r).length ≤ l.length + 1 := by
  unfold cutE
  split
  · rename_i h; exact cut_spec hl (hr.ok h)
  · rename_i h
    refine ⟨hl, fun n => ⟨fun h1 => ⟨h1, by omega⟩, And.left⟩, by omega⟩
def SetM.add (m : SetM) (r : Rg) : SetM × Int := if ¬ r.a < r.b then (m, 0) else if max m.limit 1 < ((addL m.l r).length : Int) then (m, 7) else (⟨m.limit, addL m.l r⟩, 0)
def SetM.addLast (m : SetM) (r : Rg) : SetM × Int := if ¬ r.a < r.b then (m, 0) else (⟨m.limit, (addL m.l r).drop (max (((addL m.l r).length : Int) - max m.limit 1) 0).toNat⟩, max (((addL m.l r).length : Int) - max m.limit 1) 0)
def SetM.cut (m : SetM) (r : Rg) : SetM × Int := if ¬ r.a < r.b then (m, 0) else if max m.limit 1 < ((cutL m.l r).length : Int) then (m, 7) else (⟨m.limit, cutL m.l r⟩, 0)
theorem SetM.addOk {m : SetM} {r : Rg} (h : ((addE m.l r).length : Int) ≤ max m.limit 1) : m.add r = (⟨m.limit, addE m.l r⟩, 0) := by
  unfold SetM.add addE at *
  by_cases h1 : r.a < r.b
  · rw [if_pos h1] at h ⊢
    rw [if_neg (by omega), if_neg (by omega)]
  · rw [if_pos h1, if_neg h1]
theorem SetM.cutOk {m : SetM} {r : Rg} (h : ((cutE m.l r).length : Int) ≤ max m.limit 1) : m.cut r = (⟨m.limit, cutE m.l r⟩, 0) := by
  unfold SetM.cut cutE at *
  by_cases h1 : r.a < r.b
  · rw [if_pos h1] at h ⊢
    rw [if_neg (by omega), if_neg (by omega)]
  · rw [if_pos h1, if_neg h1]
theorem Good.drop {l : List Rg} (h : Good l) (n : Nat) : Good (l.drop n) := by
  rw [← List.take_append_drop n l] at h
  exact (Good.append.1 h).2.1
theorem SetM.add_good {m : SetM} {r : Rg} (h : Good m.l) (hr : RgIn r) : Good (m.add r).1.l ∧ (m.add r).1.l.length ≤ m.l.length + 1 := by
  unfold SetM.add
  split
  · exact ⟨h, by dsimp only; omega⟩
  · rename_i h1
    obtain ⟨g1, _, g3⟩ := add_spec h (hr.ok (by omega))
    split
    · exact ⟨h, by dsimp only; omega⟩
    · exact ⟨g1, g3⟩
theorem SetM.cut_good {m : SetM} {r : Rg} (h : Good m.l) (hr : RgIn r) : Good (m.cut r).1.l ∧ (m.cut r).1.l.length ≤ m.l.length + 1 := by
  unfold SetM.cut
  split
  · exact ⟨h, by dsimp only; omega⟩
  · rename_i h1
    obtain ⟨g1, _, g3⟩ := cut_spec h (hr.ok (by omega))
    split
    · exact ⟨h, by dsimp only; omega⟩
    · exact ⟨g1, g3⟩
theorem SetM.addLast_good {m : SetM} {r : Rg} (h : Good m.l) (hr : RgIn r) : Good (m.addLast r).1.l ∧ (m.addLast r).1.l.length ≤ m.l.length + 1 := by
  unfold SetM.addLast
  split
  · exact ⟨h, by dsimp only; omega⟩
  · rename_i h1
    obtain ⟨g1, _, g3⟩ := add_spec h (hr.ok (by omega))
    exact ⟨g1.drop _, by dsimp only; rw [List.length_drop]; omega⟩
/-- cut into two by a number, and put together again -/
theorem parts_again {l lo hi m : List Rg} {n : Int} (hl : Good l) (hm : Good m) (h1 : ∀ x, InR lo x ↔ InR l x ∧ ¬ (n ≤ x ∧ x < 18446744073709551615)) (h2 : ∀ x, InR hi x ↔ InR l x ∧ ¬ (0 ≤ x ∧ x < n)) (h3 : ∀ x, InR m x ↔ InR lo x ∨ InR hi x) : m = l := by
  refine Good.ext hm hl fun x => ?_
  rw [h3, h1, h2]
  constructor
  · rintro (h | h) <;> exact h.1
  · intro h
    obtain ⟨r, hr, h4⟩ := h
    have h5 := hl.1 r hr
    obtain ⟨h6, h7, h8⟩ := h5
    by_cases hx : x < n
    · exact .inl ⟨⟨r, hr, h4⟩, by omega⟩
    · exact .inr ⟨⟨r, hr, h4⟩, by omega⟩
end Go.Proofs.Ytckdhelnafjddaa
