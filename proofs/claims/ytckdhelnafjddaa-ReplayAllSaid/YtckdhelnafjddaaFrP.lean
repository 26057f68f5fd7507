/- Frames, plainly: what was written is taken as it was; what is cut isn't taken. Conditions: none; no program is spoken of. -/
import Derived.Test.YtckdhelnafjddaaFrM
namespace Go.Proofs.Ytckdhelnafjddaa
open Go Go.Sl Go.Proofs
set_option maxRecDepth 20000
set_option linter.unusedVariables false
set_option linter.unusedSimpArgs false

/-! ### Written -/
theorem vlen_lt {n : Int} (h : vlen n ≠ 0) : n < 4611686018427387904 := by
  unfold vlen at h
  split at h
  · omega
  · split at h
    · omega
    · split at h
      · omega
      · split at h
        · assumption
        · exact absurd rfl h
theorem encAll_cons (n : Int) (ns : List Int) : encAll (n :: ns) = encV n (vlen n) ++ encAll ns := rfl
theorem wGo_ok : ∀ {ns : List Int} {l : List UInt8}, (wGo l ns).2 = 0 → (∀ n ∈ ns, n < 4611686018427387904) ∧ (wGo l ns).1 = l ++ encAll ns
  | [], l, _ => ⟨by simp, by simp [wGo, encAll]⟩
  | n :: ns, l, h => by
    unfold wGo at h ⊢
    by_cases h0 : vlen n = 0
    · rw [if_pos h0] at h; cases h
    · rw [if_neg h0] at h ⊢
      obtain ⟨h1, h2⟩ := wGo_ok h
      refine ⟨fun m hm => ?_, by rw [h2, encAll_cons, List.append_assoc]⟩
      rcases List.mem_cons.1 hm with rfl | hm
      · exact vlen_lt h0
      · exact h1 m hm
theorem wGo_good : ∀ {ns : List Int} {l : List UInt8}, (∀ n ∈ ns, n < 4611686018427387904) → wGo l ns = (l ++ encAll ns, 0)
  | [], l, _ => by simp [wGo, encAll]
  | n :: ns, l, h => by
    have h0 : vlen n ≠ 0 := by
      have := vlen_ok (h n List.mem_cons_self)
      omega
    unfold wGo
    rw [if_neg h0, wGo_good fun m hm => h m (List.mem_cons_of_mem _ hm), encAll_cons, List.append_assoc]
theorem wI_ok {s : Rs} {ns : List Int} (h : (wI s ns).2 = 0) : s.2 = 0 ∧ (∀ n ∈ ns, n < 4611686018427387904) ∧ (wI s ns).1 = s.1 ++ encAll ns := by
  unfold wI at h ⊢
  by_cases h0 : s.2 ≠ 0
  · rw [if_pos h0] at h; exact absurd h h0
  · rw [if_neg h0] at h ⊢
    exact ⟨Decidable.not_not.1 h0, wGo_ok h⟩
theorem wI_good {l : List UInt8} {ns : List Int} (h : ∀ n ∈ ns, n < 4611686018427387904) : wI (l, 0) ns = (l ++ encAll ns, 0) := by
  unfold wI
  rw [if_neg (by simp), wGo_good h]
theorem wB_ok {s : Rs} {d : List UInt8} (h : (wB s d).2 = 0) : s.2 = 0 ∧ (wB s d).1 = s.1 ++ d := by
  unfold wB at h ⊢
  by_cases h0 : s.2 = 0
  · rw [if_pos h0]; exact ⟨h0, rfl⟩
  · rw [if_neg h0] at h; exact absurd h h0
theorem wL_ok {s : Rs} {d : List UInt8} (h : (wL s d).2 = 0) : s.2 = 0 ∧ (wL s d).1 = s.1 ++ (encV (d.length : Int) (vlen d.length) ++ d) ∧ (d.length : Int) < 4611686018427387904 := by
  unfold wL at h ⊢
  obtain ⟨h1, h2⟩ := wB_ok h
  obtain ⟨h3, h4, h5⟩ := wI_ok h1
  refine ⟨h3, by rw [h2, h5]; simp [encAll], h4 _ (by simp)⟩
theorem wGo_le : ∀ {ns : List Int} {l : List UInt8}, (wGo l ns).1.length ≤ l.length + 8 * ns.length
  | [], l => by simp [wGo]
  | n :: ns, l => by
    unfold wGo
    split
    · simp only [List.length_cons]; omega
    · have h := wGo_le (ns := ns) (l := l ++ encV n (vlen n))
      rename_i h0
      have h1 := vlen_ok (vlen_lt h0)
      rw [List.length_append, encV_len] at h
      rw [List.length_cons]
      omega
theorem wI_le {s : Rs} {ns : List Int} : (wI s ns).1.length ≤ s.1.length + 8 * ns.length := by
  unfold wI
  split
  · omega
  · exact wGo_le
theorem wB_le {s : Rs} {d : List UInt8} : (wB s d).1.length ≤ s.1.length + d.length := by
  unfold wB
  split
  · simp
  · omega
theorem wL_le {s : Rs} {d : List UInt8} : (wL s d).1.length ≤ s.1.length + 8 + d.length := by
  have h1 := wB_le (s := wI s [(d.length : Int)]) (d := d)
  have h2 := wI_le (s := s) (ns := [(d.length : Int)])
  simp only [List.length_cons, List.length_nil] at h2
  unfold wL
  omega
theorem wRg_le : ∀ {l : List Rg} {s : Rs} {p : Rg}, (wRg s p l).1.length ≤ s.1.length + 16 * l.length
  | [], s, p => by simp [wRg]
  | r :: l, s, p => by
    unfold wRg
    have h := wRg_le (l := l) (s := wI s [p.a - r.b - 1, r.b - r.a - 1]) (p := r)
    have h2 := wI_le (s := s) (ns := [p.a - r.b - 1, r.b - r.a - 1])
    simp only [List.length_cons, List.length_nil] at h2 ⊢
    omega
theorem wAck_le {s : Rs} {f : FrM} : (wAck s f).1.length ≤ s.1.length + 32 + 16 * f.rg.length := by
  unfold wAck
  split
  · omega
  · rename_i p l hr
    have h := wRg_le (l := l) (s := wI s [p.b - 1, f.dl, ((f.rg.length : Int) - 1), p.b - p.a - 1]) (p := p)
    have h2 := wI_le (s := s) (ns := [p.b - 1, f.dl, ((f.rg.length : Int) - 1), p.b - p.a - 1])
    have h3 : f.rg.length = l.length + 1 := by rw [← List.length_reverse, hr]; rfl
    simp only [List.length_cons, List.length_nil] at h2 ⊢
    omega
theorem encF_le {f : FrM} (h : Chk f) (hok : f.ok) : (encF f).length ≤ 2000 := by
  have h0 := wI_le (s := (([] : List UInt8), (0 : Int))) (ns := [kindOf f])
  unfold encF wAll
  generalize wI ([], 0) [kindOf f] = s at h0 ⊢
  simp only [List.length_cons, List.length_nil] at h0
  have hk := h.k
  unfold wBody
  have I1 := fun a : Int => wI_le (s := s) (ns := [a])
  have I2 := fun a b : Int => wI_le (s := s) (ns := [a, b])
  have I3 := fun a b c : Int => wI_le (s := s) (ns := [a, b, c])
  simp only [List.length_cons, List.length_nil] at I1 I2 I3
  split
  · rename_i e
    have := h.ack (by omega)
    have h1 := wAck_le (s := s) (f := f)
    have := this.len
    omega
  · rename_i e
    have := h.ack (by omega)
    have h1 := wAck_le (s := s) (f := f)
    have h2 := wI_le (s := wAck s f) (ns := [f.e0, f.e1, f.e2])
    have := this.len
    simp only [List.length_cons, List.length_nil] at h2
    omega
  · have := I3 f.st f.cod f.lim; omega
  · have := I2 f.st f.cod; omega
  · rename_i e
    have h1 := (h.str (by omega)).1
    have h2 := wL_le (s := wI s [f.off]) (d := f.data)
    have := I1 f.off
    omega
  · rename_i e
    have h1 := h.tok (by omega)
    have h2 := wL_le (s := s) (d := f.data)
    omega
  · rename_i e
    have h1 := (h.str (by omega)).1
    have h2 := wL_le (s := wI s [f.st, f.off]) (d := f.data)
    have := I2 f.st f.off
    omega
  · have := I1 f.lim; omega
  · have := I2 f.st f.lim; omega
  · have := I1 f.lim; omega
  · have := I1 f.lim; omega
  · have := I1 f.lim; omega
  · have := I2 f.st f.lim; omega
  · have := I1 f.lim; omega
  · have := I1 f.lim; omega
  · rename_i e
    have h1 := h.id (by omega)
    have h2 := wB_le (s := wB (wB (wI s [f.sq, f.pr]) [toB (f.id.length : Int)]) f.id) (d := f.tok)
    have h3 := wB_le (s := wB (wI s [f.sq, f.pr]) [toB (f.id.length : Int)]) (d := f.id)
    have h4 := wB_le (s := wI s [f.sq, f.pr]) (d := [toB (f.id.length : Int)])
    have := I2 f.sq f.pr
    have := hok.tok
    simp only [List.length_cons, List.length_nil] at h4
    omega
  · have := I1 f.sq; omega
  · have h2 := wB_le (s := s) (d := f.wd)
    have := hok.wd
    omega
  · have h2 := wB_le (s := s) (d := f.wd)
    have := hok.wd
    omega
  · rename_i e
    have h1 := h.cls (by omega)
    have h2 := wL_le (s := wI s [f.cod, f.lim]) (d := f.data)
    have := I2 f.cod f.lim
    omega
  · rename_i e
    have h1 := h.cls (by omega)
    have h2 := wL_le (s := wI s [f.cod]) (d := f.data)
    have := I1 f.cod
    omega
  · omega

/-! ### Taken -/
def RT {α : Type} (m : Pr α) (x : List UInt8) (v : α) : Prop := ∀ rest, m (x ++ rest, 0) = (v, (rest, 0))
theorem RT.ret {α : Type} (a : α) : RT (Pr.ret a) [] a := fun _ => rfl
theorem RT.bind {α β : Type} {m : Pr α} {f : α → Pr β} {x y : List UInt8} {v : α} {w : β} (h1 : RT m x v) (h2 : RT (f v) y w) : RT (m.bind f) (x ++ y) w := fun rest => by
  unfold Pr.bind
  rw [List.append_assoc, h1 (y ++ rest)]
  exact h2 rest
theorem RT.bind0 {α β : Type} {m : Pr α} {f : α → Pr β} {y : List UInt8} {v : α} {w : β} (h1 : RT m [] v) (h2 : RT (f v) y w) : RT (m.bind f) y w := by
  have := h1.bind (f := f) h2
  simpa using this
theorem RT.last {α β : Type} {m : Pr α} {f : α → Pr β} {x : List UInt8} {v : α} {w : β} (h1 : RT m x v) (h2 : RT (f v) [] w) : RT (m.bind f) x w := by
  have := h1.bind (f := f) h2
  simpa using this
theorem next_enc {n : Int} (h0 : 0 ≤ n) (h : n < 4611686018427387904) (rest : List UInt8) : nextM (encV n (vlen n) ++ rest) 0 = ⟨n, (vlen n : Int), true, rest, 0⟩ := by
  unfold nextM
  rw [takeV_enc h0 h, if_neg (by simp), if_neg (by simp)]
  congr 1
  have hd := List.drop_left (l₁ := encV n (vlen n)) (l₂ := rest)
  rw [encV_len] at hd
  exact hd
theorem rt_int {n : Int} (h0 : 0 ≤ n) (h : n < 4611686018427387904) : RT pInt (encV n (vlen n)) n := fun rest => by
  unfold pInt
  rw [next_enc h0 h]
theorem rt_least {n : Int} (h0 : 0 ≤ n) (h : n < 4611686018427387904) : RT pLeast (encV n (vlen n)) n := fun rest => by
  unfold pLeast leastM
  rw [next_enc h0 h]
  simp
theorem rt_count {n k : Int} (h0 : 0 ≤ n) (h : n < 4611686018427387904) (hk : n ≤ k) : RT (pCount k) (encV n (vlen n)) n := fun rest => by
  unfold pCount countM
  rw [next_enc h0 h, if_pos rfl, if_neg (by dsimp only; omega)]
theorem rt_bytes {d : List UInt8} {n : Int} (h : n = (d.length : Int)) : RT (pBytes n) d d := fun rest => by
  subst h
  unfold pBytes bytesM
  rw [if_neg (by simp), if_neg (by simp; omega)]
  simp
theorem rt_long {d : List UInt8} {k : Int} (h : (d.length : Int) < 4611686018427387904) (hk : (d.length : Int) ≤ k) : RT (pLong k) (encV (d.length : Int) (vlen d.length) ++ d) d := fun rest => by
  have h1 := rt_count (n := (d.length : Int)) (k := k) (by omega) h hk (d ++ rest)
  have h2 := rt_bytes (d := d) (n := (d.length : Int)) rfl rest
  unfold pCount at h1
  unfold pBytes at h2
  unfold pLong longM
  rw [List.append_assoc]
  dsimp only at h1 h2 ⊢
  rw [h1]
  exact h2
theorem rt_if {p : Prop} [Decidable p] {k : Int} (h : ¬ p) : RT (pIf p k) [] () := fun rest => by
  unfold pIf
  rw [if_neg h]
  rfl
theorem rt_byte {x : UInt8} {n : Int} (h : n = (x.toNat : Int)) : RT pByte [x] n := fun rest => by
  subst h
  unfold pByte bytesM
  dsimp only
  rw [if_neg (by simp), if_neg (by simp; omega)]
  rfl
theorem rt_one {top less : Int} {acc : List Rg} (h : less ≤ top) : RT (pOne top less acc) [] (true, acc ++ [⟨top - less, top + 1⟩]) := by
  unfold pOne
  refine RT.bind0 (rt_if (by omega)) fun rest => ?_
  simp
/-- the ranges from the highest one on, each above the next one -/
def Falls (p : Rg) : List Rg → Prop
  | [] => 0 ≤ p.a ∧ p.a < p.b ∧ p.b ≤ 4611686018427387904
  | r :: l => (p.a < p.b ∧ p.b ≤ 4611686018427387904 ∧ r.b < p.a) ∧ Falls r l
theorem Falls.pos {p : Rg} {l : List Rg} (h : Falls p l) : 0 ≤ p.a := by
  induction l generalizing p with
  | nil => exact h.1
  | cons r l ih =>
    have h1 := ih h.2
    have h2 : r.a < r.b := by
      cases l with
      | nil => exact h.2.2.1
      | cons _ _ => exact h.2.1.1
    have := h.1.2.2
    omega
theorem Falls.lt {p : Rg} {l : List Rg} (h : Falls p l) : p.a < p.b ∧ p.b ≤ 4611686018427387904 := by
  cases l with
  | nil => exact h.2
  | cons _ _ => exact ⟨h.1.1, h.1.2.1⟩
theorem wRg_rt : ∀ {l : List Rg} {p : Rg} {s : Rs} {acc : List Rg}, Falls p l → (wRg s p l).2 = 0 → s.2 = 0 ∧ ∃ x, (wRg s p l).1 = s.1 ++ x ∧ RT (pMore l.length (p.b - 1) (p.b - p.a - 1) acc) x ((acc ++ p :: l).reverse)
  | [], p, s, acc, hf, h => by
    refine ⟨h, [], by simp [wRg], ?_⟩
    have h1 := hf.lt
    have h2 := hf.pos
    unfold pMore
    refine RT.bind0 (rt_one (by omega)) ?_
    have e1 : (⟨p.b - 1 - (p.b - p.a - 1), p.b - 1 + 1⟩ : Rg) = p := by
      obtain ⟨a, b⟩ := p
      simp
      omega
    rw [e1]
    exact RT.ret _
  | r :: l, p, s, acc, hf, h => by
    unfold wRg at h ⊢
    have h1 := hf.lt
    have h2 := hf.pos
    have h3 := hf.2.lt
    have h4 := hf.2.pos
    have h5 := hf.1.2.2
    have e1 : (⟨p.b - 1 - (p.b - p.a - 1), p.b - 1 + 1⟩ : Rg) = p := by
      obtain ⟨a, b⟩ := p
      simp
      omega
    obtain ⟨g1, x, g2, g3⟩ := wRg_rt (acc := acc ++ [p]) hf.2 h
    obtain ⟨g4, g5, g6⟩ := wI_ok g1
    refine ⟨g4, encV (p.a - r.b - 1) (vlen (p.a - r.b - 1)) ++ (encV (r.b - r.a - 1) (vlen (r.b - r.a - 1)) ++ x), ?_, ?_⟩
    · rw [g2, g6]
      simp [encAll, List.append_assoc]
    · rw [List.length_cons]
      unfold pMore
      refine RT.bind0 (rt_one (by omega)) ?_
      rw [if_neg (by simp)]
      refine RT.bind (rt_int (by omega) (by omega)) (RT.bind (rt_int (by omega) (by omega)) ?_)
      rw [if_neg (by omega), e1]
      have e2 : p.b - 1 - (p.b - p.a - 1) - (p.a - r.b - 1) - 2 = r.b - 1 := by omega
      rw [e2]
      have e3 : (acc ++ p :: r :: l).reverse = (acc ++ [p] ++ r :: l).reverse := by simp
      rw [e3]
      exact g3
theorem falls_of {l : List Rg} (h : RgUp l) (hin : ∀ r ∈ l, RgIn r) (hb : ∀ r ∈ l, r.b ≤ 4611686018427387904) {p : Rg} {t : List Rg} (hr : l.reverse = p :: t) : Falls p t := by
  have key : ∀ (t : List Rg) (p : Rg), (∀ r ∈ p :: t, 0 ≤ r.a ∧ r.a < r.b ∧ r.b ≤ 4611686018427387904) → (p :: t).Pairwise (fun x y => y.b < x.a) → Falls p t := by
    intro t
    induction t with
    | nil => intro p h _; exact h p (by simp)
    | cons r t ih =>
      intro p h hp
      have h1 := h p (by simp)
      rw [List.pairwise_cons] at hp
      exact ⟨⟨h1.2.1, h1.2.2, hp.1 r (by simp)⟩, ih r (fun x hx => h x (List.mem_cons_of_mem _ hx)) hp.2⟩
  have h1 : ∀ r ∈ l, 0 ≤ r.a ∧ r.a < r.b ∧ r.b ≤ 4611686018427387904 := fun r hr => by
    obtain ⟨i, hi, rfl⟩ := List.getElem_of_mem hr
    exact ⟨(hin _ hr).1.1, h.lt i hi, hb _ hr⟩
  have h2 : l.Pairwise fun x y => x.b < y.a := by
    have up : ∀ i j (hij : i < j) (hj : j < l.length), (l[i]'(by omega)).b < l[j].a := by
      intro i j hij
      induction j with
      | zero => omega
      | succ j ih =>
        intro hj
        have h3 := h.up j hj
        by_cases he : i = j
        · subst he; exact h3
        · have h4 := ih (by omega) (by omega)
          have h5 := h.lt j (by omega)
          omega
    rw [List.pairwise_iff_getElem]
    intro i j hi hj hij
    exact up i j hij hj
  refine key t p ?_ ?_
  · intro r hm
    rw [← hr] at hm
    exact h1 r (List.mem_reverse.1 hm)
  · rw [← hr, List.pairwise_reverse]
    exact h2
theorem wAck_rt {f : FrM} {s : Rs} {k : Int} (hok : f.ok) (hc : RgUp f.rg) (h : (wAck s f).2 = 0) : s.2 = 0 ∧ ∃ x, (wAck s f).1 = s.1 ++ x ∧ RT (pAck k) x { FrM.zero k with dl := f.dl, rg := f.rg } := by
  have hpos := hc.pos
  have hlen := hc.len
  cases hr : f.rg.reverse with
  | nil =>
    have : f.rg.length = 0 := by rw [← List.length_reverse, hr]; rfl
    omega
  | cons p t =>
    have h3 : f.rg.length = t.length + 1 := by rw [← List.length_reverse, hr]; rfl
    have hw : wAck s f = wRg (wI s [p.b - 1, f.dl, ((f.rg.length : Int) - 1), p.b - p.a - 1]) p t := by unfold wAck; rw [hr]
    rw [hw] at h ⊢
    have hpa : p ∈ f.rg := by rw [← List.mem_reverse, hr]; simp
    have hpl : p.a < p.b := by
      obtain ⟨i, hi, he⟩ := List.getElem_of_mem hpa
      rw [← he]
      exact hc.lt i hi
    -- the highest is below 2^62, so all are
    have hs : (wI s [p.b - 1, f.dl, ((f.rg.length : Int) - 1), p.b - p.a - 1]).2 = 0 := by
      have key : ∀ (l : List Rg) (s : Rs) (p : Rg), (wRg s p l).2 = 0 → s.2 = 0 := by
        intro l
        induction l with
        | nil => intro s p h; exact h
        | cons r l ih => intro s p h; exact (wI_ok (ih _ _ h)).1
      exact key _ _ _ h
    obtain ⟨g1, g2, g3⟩ := wI_ok hs
    have gb := g2 (p.b - 1) (by simp)
    have gd := g2 f.dl (by simp)
    have hb : ∀ r ∈ f.rg, r.b ≤ 4611686018427387904 := by
      have hfl : ∀ i (h : i < f.rg.length), f.rg[i].b ≤ p.b := by
        have hlast : f.rg[f.rg.length - 1]'(by omega) = p := by
          have h5 : f.rg.reverse[0]? = some p := by rw [hr]; rfl
          rw [List.getElem?_reverse (by omega)] at h5
          rw [List.getElem?_eq_getElem (by omega)] at h5
          simpa using h5
        intro i hi
        have mono : ∀ d i (h : i + d < f.rg.length), (f.rg[i]'(by omega)).b ≤ (f.rg[i + d]).b := by
          intro d
          induction d with
          | zero => intro i h; exact Int.le_refl _
          | succ d ih =>
            intro i h
            have h6 := ih i (by omega)
            have h7 := hc.up (i + d) (by omega)
            have h8 := hc.lt (i + d + 1) (by omega)
            have h9 : i + (d + 1) = i + d + 1 := by omega
            simp only [h9]
            omega
        have h10 := mono (f.rg.length - 1 - i) i (by omega)
        have h11 : i + (f.rg.length - 1 - i) = f.rg.length - 1 := by omega
        simp only [h11, hlast] at h10
        exact h10
      intro r hm
      obtain ⟨i, hi, rfl⟩ := List.getElem_of_mem hm
      have := hfl i hi
      omega
    have hF := falls_of hc hok.rg hb hr
    obtain ⟨_, x, g4, g5⟩ := wRg_rt (acc := []) hF h
    have hp0 := hF.pos
    have hdl := hok.dl
    unfold inU at hdl
    refine ⟨g1, encV (p.b - 1) (vlen (p.b - 1)) ++ (encV f.dl (vlen f.dl) ++ (encV ((f.rg.length : Int) - 1) (vlen ((f.rg.length : Int) - 1)) ++ (encV (p.b - p.a - 1) (vlen (p.b - p.a - 1)) ++ x))), ?_, ?_⟩
    · rw [g4, g3]
      simp [encAll, List.append_assoc]
    · unfold pAck
      refine RT.bind (rt_int (by omega) (by omega)) (RT.bind (rt_int (by omega) (by omega)) (RT.bind (rt_count (by omega) (by omega) (by omega)) (RT.bind (rt_int (by omega) (by omega)) ?_)))
      have e1 : ((f.rg.length : Int) - 1).toNat = t.length := by omega
      rw [e1]
      refine RT.last g5 ?_
      have e2 : ([] ++ p :: t).reverse = f.rg := by rw [List.nil_append, ← hr, List.reverse_reverse]
      rw [e2]
      exact RT.ret _

set_option maxHeartbeats 1000000 in
theorem body_rt {f : FrM} {s : Rs} (hok : f.ok) (hc : Chk f) (h8 : f.k ≠ 8) (h : (wBody s f).2 = 0) : s.2 = 0 ∧ ∃ x g, (wBody s f).1 = s.1 ++ x ∧ RT (pFields f.k.toNat) x g := by
  have hk := hc.k
  have hst := hok.st
  have hoff := hok.off
  have hlim := hok.lim
  have hcod := hok.cod
  have he0 := hok.e0
  have he1 := hok.e1
  have he2 := hok.e2
  have hsq := hok.sq
  have hpr := hok.pr
  unfold inU at hst hoff hlim hcod he0 he1 he2 hsq hpr
  have W1 : ∀ {a : Int}, (wI s [a]).2 = 0 → s.2 = 0 ∧ a < 4611686018427387904 ∧ (wI s [a]).1 = s.1 ++ encV a (vlen a) := fun {a} h => by
    obtain ⟨h1, h2, h3⟩ := wI_ok h
    exact ⟨h1, h2 a (by simp), by rw [h3]; simp [encAll]⟩
  have W2 : ∀ {a b : Int}, (wI s [a, b]).2 = 0 → s.2 = 0 ∧ a < 4611686018427387904 ∧ b < 4611686018427387904 ∧ (wI s [a, b]).1 = s.1 ++ (encV a (vlen a) ++ encV b (vlen b)) := fun {a b} h => by
    obtain ⟨h1, h2, h3⟩ := wI_ok h
    exact ⟨h1, h2 a (by simp), h2 b (by simp), by rw [h3]; simp [encAll]⟩
  have hn : f.k.toNat = 0 ∨ f.k.toNat = 1 ∨ f.k.toNat = 2 ∨ f.k.toNat = 3 ∨ f.k.toNat = 4 ∨ f.k.toNat = 5 ∨ f.k.toNat = 6 ∨ f.k.toNat = 7 ∨ f.k.toNat = 16 ∨ f.k.toNat = 17 ∨ f.k.toNat = 18 ∨ f.k.toNat = 19 ∨ f.k.toNat = 20 ∨ f.k.toNat = 21 ∨ f.k.toNat = 22 ∨ f.k.toNat = 23 ∨ f.k.toNat = 24 ∨ f.k.toNat = 25 ∨ f.k.toNat = 26 ∨ f.k.toNat = 27 ∨ f.k.toNat = 28 ∨ f.k.toNat = 29 ∨ f.k.toNat = 30 := by omega
  have lim0 : ∀ k : Int, (wI s [f.lim]).2 = 0 → s.2 = 0 ∧ ∃ x g, (wI s [f.lim]).1 = s.1 ++ x ∧ RT (pInt.bind fun a => .ret { FrM.zero k with lim := a }) x g := fun k h => by
    obtain ⟨h1, h2, h3⟩ := W1 h
    exact ⟨h1, _, _, h3, RT.last (rt_int (by omega) h2) (RT.ret _)⟩
  have lim1 : ∀ k : Int, f.lim ≤ 1152921504606846976 → (wI s [f.lim]).2 = 0 → s.2 = 0 ∧ ∃ x g, (wI s [f.lim]).1 = s.1 ++ x ∧ RT (pInt.bind fun a => (pIf (1152921504606846976 < a) 15).bind fun _ => .ret { FrM.zero k with lim := a }) x g := fun k hl h => by
    obtain ⟨h1, h2, h3⟩ := W1 h
    exact ⟨h1, _, _, h3, RT.last (rt_int (by omega) h2) (RT.bind0 (rt_if (by omega)) (RT.ret _))⟩
  have lim2 : ∀ k : Int, (wI s [f.st, f.lim]).2 = 0 → s.2 = 0 ∧ ∃ x g, (wI s [f.st, f.lim]).1 = s.1 ++ x ∧ RT (pInt.bind fun a => pInt.bind fun b => .ret { FrM.zero k with st := a, lim := b }) x g := fun k h => by
    obtain ⟨h1, h2, h3, h4⟩ := W2 h
    exact ⟨h1, _, _, h4, RT.bind (rt_int (by omega) h2) (RT.last (rt_int (by omega) h3) (RT.ret _))⟩
  have wd0 : ∀ k : Int, (wB s f.wd).2 = 0 → s.2 = 0 ∧ ∃ x g, (wB s f.wd).1 = s.1 ++ x ∧ RT ((pBytes 8).bind fun d => .ret { FrM.zero k with wd := pad 8 d }) x g := fun k h => by
    obtain ⟨h1, h2⟩ := wB_ok h
    have := hok.wd
    exact ⟨h1, _, _, h2, RT.last (rt_bytes (by omega)) (RT.ret _)⟩
  rcases hn with e | e | e | e | e | e | e | e | e | e | e | e | e | e | e | e | e | e | e | e | e | e | e
  · have hb : wBody s f = s := by unfold wBody; rw [e]; rfl
    rw [hb] at h ⊢
    rw [e, pF0]
    exact ⟨h, [], _, by simp, RT.ret _⟩
  · have hb : wBody s f = s := by unfold wBody; rw [e]; rfl
    rw [hb] at h ⊢
    rw [e, pF1]
    exact ⟨h, [], _, by simp, RT.ret _⟩
  · have hb : wBody s f = wAck s f := by unfold wBody; rw [e]; rfl
    rw [hb] at h ⊢
    rw [e, pF2]
    obtain ⟨h1, x, h2, h3⟩ := wAck_rt (k := 2) hok (hc.ack (by omega)) h
    exact ⟨h1, x, _, h2, h3⟩
  · have hb : wBody s f = wI (wAck s f) [f.e0, f.e1, f.e2] := by unfold wBody; rw [e]; rfl
    rw [hb] at h ⊢
    rw [e, pF3]
    obtain ⟨g1, g2, g3⟩ := wI_ok h
    obtain ⟨h1, x, h2, h3⟩ := wAck_rt (k := 3) hok (hc.ack (by omega)) g1
    have a0 := g2 f.e0 (by simp)
    have a1 := g2 f.e1 (by simp)
    have a2 := g2 f.e2 (by simp)
    refine ⟨h1, x ++ (encV f.e0 (vlen f.e0) ++ (encV f.e1 (vlen f.e1) ++ encV f.e2 (vlen f.e2))), _, by rw [g3, h2]; simp [encAll], RT.bind h3 (RT.bind (rt_int (by omega) a0) (RT.bind (rt_int (by omega) a1) (RT.last (rt_int (by omega) a2) (RT.ret _))))⟩
  · have hb : wBody s f = wI s [f.st, f.cod, f.lim] := by unfold wBody; rw [e]; rfl
    rw [hb] at h ⊢
    rw [e, pF4]
    obtain ⟨g1, g2, g3⟩ := wI_ok h
    have a0 := g2 f.st (by simp)
    have a1 := g2 f.cod (by simp)
    have a2 := g2 f.lim (by simp)
    refine ⟨g1, encV f.st (vlen f.st) ++ (encV f.cod (vlen f.cod) ++ encV f.lim (vlen f.lim)), _, by rw [g3]; simp [encAll], RT.bind (rt_int (by omega) a0) (RT.bind (rt_int (by omega) a1) (RT.last (rt_int (by omega) a2) (RT.ret _)))⟩
  · have hb : wBody s f = wI s [f.st, f.cod] := by unfold wBody; rw [e]; rfl
    rw [hb] at h ⊢
    rw [e, pF5]
    obtain ⟨g1, g2, g3, g4⟩ := W2 h
    exact ⟨g1, _, _, g4, RT.bind (rt_int (by omega) g2) (RT.last (rt_int (by omega) g3) (RT.ret _))⟩
  · have hb : wBody s f = wL (wI s [f.off]) f.data := by unfold wBody; rw [e]; rfl
    rw [hb] at h ⊢
    rw [e, pF6]
    obtain ⟨g1, g2, g3⟩ := wL_ok h
    obtain ⟨h1, h2, h3⟩ := W1 g1
    have hd := hc.str (by omega)
    refine ⟨h1, encV f.off (vlen f.off) ++ (encV (f.data.length : Int) (vlen f.data.length) ++ f.data), _, by rw [g2, h3]; simp, RT.bind (rt_int (by omega) h2) (RT.last (rt_long g3 (by omega)) (RT.bind0 (rt_if (by dsimp only; omega)) (RT.ret _)))⟩
  · have hb : wBody s f = wL s f.data := by unfold wBody; rw [e]; rfl
    rw [hb] at h ⊢
    rw [e, pF7]
    obtain ⟨g1, g2, g3⟩ := wL_ok h
    have hd := hc.tok (by omega)
    refine ⟨g1, _, _, g2, RT.bind (rt_count (by omega) g3 (by omega)) (RT.bind0 (rt_if (by omega)) (RT.last (rt_bytes rfl) (RT.ret _)))⟩
  · have hb : wBody s f = wI s [f.lim] := by unfold wBody; rw [e]; rfl
    rw [hb] at h ⊢
    rw [e, pF16]
    exact lim0 16 h
  · have hb : wBody s f = wI s [f.st, f.lim] := by unfold wBody; rw [e]; rfl
    rw [hb] at h ⊢
    rw [e, pF17]
    exact lim2 17 h
  · have hb : wBody s f = wI s [f.lim] := by unfold wBody; rw [e]; rfl
    rw [hb] at h ⊢
    rw [e, pF18]
    exact lim1 18 (hc.lim (by omega)) h
  · have hb : wBody s f = wI s [f.lim] := by unfold wBody; rw [e]; rfl
    rw [hb] at h ⊢
    rw [e, pF19]
    exact lim1 19 (hc.lim (by omega)) h
  · have hb : wBody s f = wI s [f.lim] := by unfold wBody; rw [e]; rfl
    rw [hb] at h ⊢
    rw [e, pF20]
    exact lim0 20 h
  · have hb : wBody s f = wI s [f.st, f.lim] := by unfold wBody; rw [e]; rfl
    rw [hb] at h ⊢
    rw [e, pF21]
    exact lim2 21 h
  · have hb : wBody s f = wI s [f.lim] := by unfold wBody; rw [e]; rfl
    rw [hb] at h ⊢
    rw [e, pF22]
    exact lim1 22 (hc.lim (by omega)) h
  · have hb : wBody s f = wI s [f.lim] := by unfold wBody; rw [e]; rfl
    rw [hb] at h ⊢
    rw [e, pF23]
    exact lim1 23 (hc.lim (by omega)) h
  · have hb : wBody s f = wB (wB (wB (wI s [f.sq, f.pr]) [toB (f.id.length : Int)]) f.id) f.tok := by unfold wBody; rw [e]; rfl
    rw [hb] at h ⊢
    rw [e, pF24]
    obtain ⟨g1, g2⟩ := wB_ok h
    obtain ⟨g3, g4⟩ := wB_ok g1
    obtain ⟨g5, g6⟩ := wB_ok g3
    obtain ⟨h1, h2, h3, h4⟩ := W2 g5
    obtain ⟨i1, i2, i3⟩ := hc.id (by omega)
    have hb : (toB (f.id.length : Int)).toNat = f.id.length := by
      have := toB_val (n := (f.id.length : Int)) (show 0 ≤ (f.id.length : Int) ∧ (f.id.length : Int) ≤ 255 by omega)
      omega
    have ht := hok.tok
    refine ⟨h1, encV f.sq (vlen f.sq) ++ (encV f.pr (vlen f.pr) ++ ([toB (f.id.length : Int)] ++ (f.id ++ f.tok))), _, by rw [g2, g4, g6, h4]; simp, RT.bind (rt_int (by omega) h2) (RT.bind (rt_int (by omega) h3) (RT.bind (rt_byte (n := (f.id.length : Int)) (by rw [hb])) (RT.bind0 (rt_if (by omega)) (RT.bind (rt_bytes rfl) (RT.last (rt_bytes (by omega)) (RT.bind0 (rt_if (by omega)) (RT.ret _)))))))⟩
  · have hb : wBody s f = wI s [f.sq] := by unfold wBody; rw [e]; rfl
    rw [hb] at h ⊢
    rw [e, pF25]
    obtain ⟨h1, h2, h3⟩ := W1 h
    exact ⟨h1, _, _, h3, RT.last (rt_int (by omega) h2) (RT.ret _)⟩
  · have hb : wBody s f = wB s f.wd := by unfold wBody; rw [e]; rfl
    rw [hb] at h ⊢
    rw [e, pF26]
    exact wd0 26 h
  · have hb : wBody s f = wB s f.wd := by unfold wBody; rw [e]; rfl
    rw [hb] at h ⊢
    rw [e, pF27]
    exact wd0 27 h
  · have hb : wBody s f = wL (wI s [f.cod, f.lim]) f.data := by unfold wBody; rw [e]; rfl
    rw [hb] at h ⊢
    rw [e, pF28]
    obtain ⟨g1, g2, g3⟩ := wL_ok h
    obtain ⟨h1, h2, h3, h4⟩ := W2 g1
    have hd := hc.cls (by omega)
    refine ⟨h1, encV f.cod (vlen f.cod) ++ (encV f.lim (vlen f.lim) ++ (encV (f.data.length : Int) (vlen f.data.length) ++ f.data)), _, by rw [g2, h4]; simp, RT.bind (rt_int (by omega) h2) (RT.bind (rt_int (by omega) h3) (RT.last (rt_long g3 (by omega)) (RT.ret _)))⟩
  · have hb : wBody s f = wL (wI s [f.cod]) f.data := by unfold wBody; rw [e]; rfl
    rw [hb] at h ⊢
    rw [e, pF29]
    obtain ⟨g1, g2, g3⟩ := wL_ok h
    obtain ⟨h1, h2, h3⟩ := W1 g1
    have hd := hc.cls (by omega)
    refine ⟨h1, encV f.cod (vlen f.cod) ++ (encV (f.data.length : Int) (vlen f.data.length) ++ f.data), _, by rw [g2, h3]; simp, RT.bind (rt_int (by omega) h2) (RT.last (rt_long g3 (by omega)) (RT.ret _))⟩
  · have hb : wBody s f = s := by unfold wBody; rw [e]; rfl
    rw [hb] at h ⊢
    rw [e, pF30]
    exact ⟨h, [], _, by simp, RT.ret _⟩
theorem str_rt {f : FrM} {s : Rs} (hok : f.ok) (hc : Chk f) (h8 : f.k = 8) (h : (wBody s f).2 = 0) : s.2 = 0 ∧ ∃ x g, (wBody s f).1 = s.1 ++ x ∧ RT (pStream true true f.fin) x g := by
  have hst := hok.st
  have hoff := hok.off
  unfold inU at hst hoff
  have e : f.k.toNat = 8 := by omega
  have hb : wBody s f = wL (wI s [f.st, f.off]) f.data := by unfold wBody; rw [e]; rfl
  rw [hb] at h ⊢
  obtain ⟨g1, g2, g3⟩ := wL_ok h
  obtain ⟨h1, h2, h3⟩ := wI_ok g1
  have a0 := h2 f.st (by simp)
  have a1 := h2 f.off (by simp)
  have hd := hc.str (by omega)
  unfold pStream
  rw [if_pos rfl, if_pos rfl]
  refine ⟨h1, encV f.st (vlen f.st) ++ (encV f.off (vlen f.off) ++ (encV (f.data.length : Int) (vlen f.data.length) ++ f.data)), _, by rw [g2, h3]; simp [encAll], RT.bind (rt_int (by omega) a0) (RT.bind (rt_int (by omega) a1) (RT.last (rt_long g3 (by omega)) (RT.bind0 (rt_if (by dsimp only; omega)) (RT.ret _))))⟩
theorem kindOf_ok {f : FrM} (hc : Chk f) : 0 ≤ kindOf f ∧ kindOf f < 64 := by
  have hk := hc.k
  unfold kindOf
  split
  · split <;> omega
  · omega
/-- what was written is taken, and no more -/
theorem take_rt {f : FrM} (hok : f.ok) (h : CanF f) : ∃ g, RT pTake (encF f) g := by
  obtain ⟨hc, h⟩ := h
  unfold encF
  unfold wAll at h ⊢
  have hk := hc.k
  have hkk := kindOf_ok hc
  have hlast : ∀ {x : List UInt8} {g : FrM} {m : Pr FrM}, (wI ([], 0) [kindOf f]).2 = 0 → (wBody (wI ([], 0) [kindOf f]) f).1 = (wI ([], 0) [kindOf f]).1 ++ x → RT m x g → (∀ k, k = kindOf f → (if 8 ≤ k ∧ k < 16 then pStream (decide (k.toNat / 4 % 2 = 1)) (decide (k.toNat / 2 % 2 = 1)) (decide (k.toNat % 2 = 1)) else if 30 < k then (pFail 5).bind fun _ => .ret (FrM.zero 0) else pFields k.toNat) = m) → RT pTake (wBody (wI ([], 0) [kindOf f]) f).1 g := by
    intro x g m h1 h2 h3 h4
    obtain ⟨_, _, h5⟩ := wI_ok h1
    rw [h2, h5]
    have e : ([] : List UInt8) ++ encAll [kindOf f] = encV (kindOf f) (vlen (kindOf f)) := by simp [encAll]
    rw [e]
    unfold pTake
    refine RT.bind (rt_least hkk.1 (by omega)) ?_
    rw [h4 _ rfl]
    exact h3
  by_cases h8 : f.k = 8
  · obtain ⟨h1, x, g, h2, h3⟩ := str_rt hok hc h8 h
    refine ⟨g, hlast h1 h2 h3 fun k hk => ?_⟩
    unfold kindOf at hk
    rw [if_pos h8] at hk
    cases hf : f.fin with
    | true =>
      rw [hf, if_pos rfl] at hk
      subst hk
      rfl
    | false =>
      rw [hf, if_neg (by simp)] at hk
      subst hk
      rfl
  · obtain ⟨h1, x, g, h2, h3⟩ := body_rt hok hc h8 h
    refine ⟨g, hlast h1 h2 h3 fun k hk => ?_⟩
    unfold kindOf at hk
    rw [if_neg h8] at hk
    subst hk
    rw [if_neg (by omega), if_neg (by omega)]
/-- an acknowledgement is taken as it was -/
theorem ack_rt {f : FrM} (hok : f.ok) (h : CanF f) (h2 : f.k = 2) : RT pTake (encF f) { FrM.zero 2 with dl := f.dl, rg := f.rg } := by
  obtain ⟨hc, h⟩ := h
  unfold encF
  unfold wAll at h ⊢
  have hkk := kindOf_ok hc
  have e2 : f.k.toNat = 2 := by omega
  have hb : ∀ s, wBody s f = wAck s f := fun s => by unfold wBody; rw [e2]; rfl
  rw [hb] at h ⊢
  obtain ⟨h1, x, h3, h4⟩ := wAck_rt (k := 2) hok (hc.ack (by omega)) h
  obtain ⟨_, _, h5⟩ := wI_ok h1
  rw [h3, h5]
  have e : ([] : List UInt8) ++ encAll [kindOf f] = encV (kindOf f) (vlen (kindOf f)) := by simp [encAll]
  rw [e]
  unfold pTake
  refine RT.bind (rt_least hkk.1 (by omega)) ?_
  have e3 : kindOf f = 2 := by unfold kindOf; rw [if_neg (by omega), h2]
  rw [e3, if_neg (by omega), if_neg (by omega)]
  exact h4

/-! ### Cut -/
def Mono {α : Type} (m : Pr α) : Prop := ∀ l e v l', m (l, e) = (v, (l', 0)) → e = 0 ∧ ∀ q, m (l ++ q, 0) = (v, (l' ++ q, 0))
theorem Mono.ret {α : Type} (a : α) : Mono (Pr.ret a) := fun l e v l' h => by
  simp only [Pr.ret, Prod.mk.injEq] at h
  obtain ⟨rfl, rfl, rfl⟩ := h
  exact ⟨rfl, fun _ => rfl⟩
theorem Mono.bind {α β : Type} {m : Pr α} {f : α → Pr β} (h1 : Mono m) (h2 : ∀ v, Mono (f v)) : Mono (m.bind f) := fun l e w l' h => by
  unfold Pr.bind at h ⊢
  obtain ⟨e0, h3⟩ := h2 (m (l, e)).1 (m (l, e)).2.1 (m (l, e)).2.2 w l' h
  obtain ⟨e1, h4⟩ := h1 l e (m (l, e)).1 (m (l, e)).2.1 (Prod.ext rfl (Prod.ext rfl e0))
  refine ⟨e1, fun q => ?_⟩
  rw [h4 q]
  exact h3 q
theorem mono_next {l : List UInt8} {e : Int} (h : (nextM l e).e = 0) : e = 0 ∧ (nextM l e).ok = true ∧ ∀ q, nextM (l ++ q) 0 = ⟨(nextM l e).v, (nextM l e).size, true, (nextM l e).l ++ q, 0⟩ := by
  unfold nextM at h ⊢
  by_cases h0 : e ≠ 0
  · rw [if_pos h0] at h; exact absurd h h0
  · rw [if_neg h0] at h ⊢
    by_cases h1 : (takeV l).2.2 ≠ 0
    · rw [if_pos h1] at h; exact absurd h h1
    · rw [if_neg h1]
      have h2 : (takeV l).2.2 = 0 := Decidable.not_not.1 h1
      obtain ⟨t1, t2, t3, _, _⟩ := takeV_ok h2
      refine ⟨Decidable.not_not.1 h0, rfl, fun q => ?_⟩
      rw [if_neg (by simp), takeV_app q h2, if_neg h1]
      dsimp only
      rw [List.drop_append_of_le_length (by omega)]
theorem mono_int : Mono pInt := fun l e v l' h => by
  simp only [pInt, Prod.mk.injEq] at h
  obtain ⟨rfl, rfl, h⟩ := h
  obtain ⟨h1, _, h2⟩ := mono_next h
  exact ⟨h1, fun q => by simp only [pInt]; rw [h2 q]⟩
theorem mono_least : Mono pLeast := fun l e v l' h => by
  unfold pLeast leastM at h ⊢
  dsimp only at h ⊢
  by_cases h0 : (nextM l e).ok = true
  · rw [if_pos h0] at h
    by_cases h1 : (nextM l e).size ≠ (vlen (nextM l e).v : Nat)
    · rw [if_pos h1] at h
      simp at h
    · rw [if_neg h1] at h
      simp only [Prod.mk.injEq] at h
      obtain ⟨rfl, rfl, h⟩ := h
      obtain ⟨h2, _, h3⟩ := mono_next h
      refine ⟨h2, fun q => ?_⟩
      rw [h3 q]
      dsimp only
      rw [if_pos rfl, if_neg h1]
  · rw [if_neg h0] at h
    simp only [Prod.mk.injEq] at h
    exact absurd (mono_next h.2.2).2.1 h0
theorem mono_count (k : Int) : Mono (pCount k) := fun l e v l' h => by
  unfold pCount countM at h ⊢
  dsimp only at h ⊢
  by_cases h0 : (nextM l e).ok = true
  · rw [if_pos h0] at h
    by_cases h1 : max k 0 < (nextM l e).v
    · rw [if_pos h1] at h
      simp at h
    · rw [if_neg h1] at h
      simp only [Prod.mk.injEq] at h
      obtain ⟨rfl, rfl, h⟩ := h
      obtain ⟨h2, _, h3⟩ := mono_next h
      refine ⟨h2, fun q => ?_⟩
      rw [h3 q]
      dsimp only
      rw [if_pos rfl, if_neg h1]
  · rw [if_neg h0] at h
    simp only [Prod.mk.injEq] at h
    exact absurd (mono_next h.2.2).2.1 h0
theorem mono_bytes (n : Int) : Mono (pBytes n) := fun l e v l' h => by
  unfold pBytes bytesM at h ⊢
  dsimp only at h ⊢
  by_cases h0 : e ≠ 0
  · rw [if_pos h0] at h
    simp only [Prod.mk.injEq] at h
    exact absurd h.2.2 h0
  · rw [if_neg h0] at h
    by_cases h1 : n < 0 ∨ (l.length : Int) < n
    · rw [if_pos h1] at h
      simp at h
    · rw [if_neg h1] at h
      simp only [Prod.mk.injEq] at h
      obtain ⟨rfl, rfl, _⟩ := h
      refine ⟨Decidable.not_not.1 h0, fun q => ?_⟩
      rw [if_neg (by simp), if_neg (by simp; omega), List.take_append_of_le_length (by omega), List.drop_append_of_le_length (by omega)]
theorem mono_long (k : Int) : Mono (pLong k) := by
  have h : pLong k = (pCount k).bind fun n => pBytes n := rfl
  rw [h]
  exact (mono_count k).bind fun n => mono_bytes n
theorem mono_byte : Mono pByte := by
  have h : pByte = (pBytes 1).bind fun b => .ret (((b.headD 0).toNat : Nat) : Int) := rfl
  rw [h]
  exact (mono_bytes 1).bind fun n => Mono.ret _
theorem mono_fail {k : Int} (hk : k ≠ 0) : Mono (pFail k) := fun l e v l' h => by
  unfold pFail failM at h
  simp only [Prod.mk.injEq] at h
  have h2 := h.2.2
  by_cases h0 : k = 0 ∨ e ≠ 0
  · rw [if_pos h0] at h2
    rcases h0 with h0 | h0
    · exact absurd h0 hk
    · exact absurd h2 h0
  · rw [if_neg h0] at h2
    exact absurd h2 hk
theorem mono_if {p : Prop} [Decidable p] {k : Int} (hk : k ≠ 0) : Mono (pIf p k) := by
  by_cases hp : p
  · have : pIf p k = pFail k := by
      funext s
      unfold pIf pFail
      rw [if_pos hp]
    rw [this]
    exact mono_fail hk
  · have : pIf p k = .ret () := by
      funext s
      unfold pIf
      rw [if_neg hp]
      rfl
    rw [this]
    exact Mono.ret _
theorem mono_one {top less : Int} {acc : List Rg} : Mono (pOne top less acc) := by
  unfold pOne
  refine (mono_if (by decide)).bind fun _ => fun l e v l' h => ?_
  dsimp only at h ⊢
  by_cases h0 : e ≠ 0
  · rw [if_pos h0] at h
    simp only [Prod.mk.injEq] at h
    exact absurd h.2.2 h0
  · rw [if_neg h0] at h
    simp only [Prod.mk.injEq] at h
    obtain ⟨rfl, rfl, h1⟩ := h
    exact ⟨h1, fun q => by simp⟩
theorem mono_more : ∀ {n : Nat} {top less : Int} {acc : List Rg}, Mono (pMore n top less acc)
  | 0, _, _, _ => mono_one.bind fun _ => Mono.ret _
  | n + 1, _, _, _ => mono_one.bind fun x => by
    split
    · exact Mono.ret _
    · refine mono_int.bind fun _ => mono_int.bind fun _ => ?_
      split
      · exact (mono_fail (by decide)).bind fun _ => Mono.ret _
      · exact mono_more
theorem mono_ack (k : Int) : Mono (pAck k) := mono_int.bind fun _ => mono_int.bind fun _ => (mono_count _).bind fun _ => mono_int.bind fun _ => mono_more.bind fun _ => Mono.ret _
theorem mono_fits (f : FrM) : Mono (pFits f) := (mono_if (by decide)).bind fun _ => Mono.ret _
theorem mono_fields (k : Nat) : Mono (pFields k) := by
  unfold pFields
  split
  · exact mono_ack _
  · exact (mono_ack _).bind fun _ => mono_int.bind fun _ => mono_int.bind fun _ => mono_int.bind fun _ => Mono.ret _
  · exact mono_int.bind fun _ => mono_int.bind fun _ => mono_int.bind fun _ => Mono.ret _
  · exact mono_int.bind fun _ => mono_int.bind fun _ => Mono.ret _
  · exact mono_int.bind fun _ => (mono_long _).bind fun _ => mono_fits _
  · exact (mono_count _).bind fun _ => (mono_if (by decide)).bind fun _ => (mono_bytes _).bind fun _ => Mono.ret _
  · exact mono_int.bind fun _ => Mono.ret _
  · exact mono_int.bind fun _ => mono_int.bind fun _ => Mono.ret _
  · exact mono_int.bind fun _ => (mono_if (by decide)).bind fun _ => Mono.ret _
  · exact mono_int.bind fun _ => (mono_if (by decide)).bind fun _ => Mono.ret _
  · exact mono_int.bind fun _ => Mono.ret _
  · exact mono_int.bind fun _ => mono_int.bind fun _ => Mono.ret _
  · exact mono_int.bind fun _ => (mono_if (by decide)).bind fun _ => Mono.ret _
  · exact mono_int.bind fun _ => (mono_if (by decide)).bind fun _ => Mono.ret _
  · exact mono_int.bind fun _ => mono_int.bind fun _ => mono_byte.bind fun _ => (mono_if (by decide)).bind fun _ => (mono_bytes _).bind fun _ => (mono_bytes _).bind fun _ => (mono_if (by decide)).bind fun _ => Mono.ret _
  · exact mono_int.bind fun _ => Mono.ret _
  · exact (mono_bytes _).bind fun _ => Mono.ret _
  · exact (mono_bytes _).bind fun _ => Mono.ret _
  · exact mono_int.bind fun _ => mono_int.bind fun _ => (mono_long _).bind fun _ => Mono.ret _
  · exact mono_int.bind fun _ => (mono_long _).bind fun _ => Mono.ret _
  · exact Mono.ret _
theorem mono_stream (a c : Bool) : Mono (pStream a true c) := by
  unfold pStream
  refine mono_int.bind fun _ => Mono.bind ?_ fun _ => ?_
  · split
    · exact mono_int
    · exact Mono.ret _
  · rw [if_pos rfl]
    exact (mono_long _).bind fun _ => mono_fits _
/-- what is cut isn't taken -/
theorem take_cut {f : FrM} (hok : f.ok) (h : CanF f) {p q : List UInt8} (hp : p ++ q = encF f) (hq : q ≠ []) : (pTake (p, 0)).2.2 ≠ 0 := by
  intro h0
  obtain ⟨g, hg⟩ := take_rt hok h
  -- the kind
  have hk : ∀ rest, pLeast (encF f ++ rest, 0) = (kindOf f, ((pLeast (encF f ++ rest, 0)).2)) := by
    intro rest
    obtain ⟨hc, h⟩ := h
    have hkk := kindOf_ok hc
    have h1 : (wI ([], 0) [kindOf f]).2 = 0 := by
      rw [wI_good (fun n hn => by simp at hn; omega)]
    have hx : ∃ x, encF f = encV (kindOf f) (vlen (kindOf f)) ++ x := by
      unfold encF wAll
      unfold wAll at h
      obtain ⟨_, _, h5⟩ := wI_ok h1
      have e : ([] : List UInt8) ++ encAll [kindOf f] = encV (kindOf f) (vlen (kindOf f)) := by simp [encAll]
      by_cases h8 : f.k = 8
      · obtain ⟨_, x, _, h2, _⟩ := str_rt hok hc h8 h
        exact ⟨x, by rw [h2, h5, e]⟩
      · obtain ⟨_, x, _, h2, _⟩ := body_rt hok hc h8 h
        exact ⟨x, by rw [h2, h5, e]⟩
    obtain ⟨x, hx⟩ := hx
    rw [hx, List.append_assoc, rt_least hkk.1 (by omega) (x ++ rest)]
  have key : ∀ (k : Int) (l : List UInt8) (e : Int) (s : FrM × Rs), (if 8 ≤ k ∧ k < 16 then pStream (decide (k.toNat / 4 % 2 = 1)) (decide (k.toNat / 2 % 2 = 1)) (decide (k.toNat % 2 = 1)) else if 30 < k then (pFail 5).bind fun _ => .ret (FrM.zero 0) else pFields k.toNat) (l, e) = s → s.2.2 = 0 → e = 0 := by
    intro k l e s hs h0
    have pl : ∀ f : FrM, ∀ l e, (pFits f (l, e)).2.2 = 0 → e = 0 := fun f l e h => (mono_fits f l e _ _ (Prod.ext rfl (Prod.ext rfl h))).1
    by_cases h1 : 8 ≤ k ∧ k < 16
    · rw [if_pos h1] at hs
      unfold pStream Pr.bind at hs
      rw [← hs] at h0
      have e1 := pl _ _ _ h0
      have st1 : ∀ (b : Bool) l e, ((if b = true then pLong 1200 else pLeft) (l, e)).2.2 = 0 → e = 0 := by
        intro b l e h
        cases b with
        | true => exact (mono_long _ _ _ _ _ (Prod.ext rfl (Prod.ext rfl h))).1
        | false =>
          rw [if_neg (by simp)] at h
          unfold pLeft bytesM at h
          by_cases h1 : e ≠ 0
          · dsimp only at h
            rw [if_pos h1] at h
            exact h
          · exact Decidable.not_not.1 h1
      have st2 : ∀ (b : Bool) l e, ((if b = true then pInt else Pr.ret 0) (l, e)).2.2 = 0 → e = 0 := by
        intro b l e h
        cases b with
        | true => exact (mono_int _ _ _ _ (Prod.ext rfl (Prod.ext rfl h))).1
        | false => exact h
      have e2 := st1 _ _ _ e1
      have e3 := st2 _ _ _ e2
      exact (mono_int _ _ _ _ (Prod.ext rfl (Prod.ext rfl e3))).1
    · rw [if_neg h1] at hs
      by_cases h2 : 30 < k
      · rw [if_pos h2] at hs
        exact ((mono_fail (k := 5) (by decide)).bind (fun _ => Mono.ret _) l e s.1 s.2.1 (by rw [hs]; exact Prod.ext rfl (Prod.ext rfl h0))).1
      · rw [if_neg h2] at hs
        exact (mono_fields _ l e s.1 s.2.1 (by rw [hs]; exact Prod.ext rfl (Prod.ext rfl h0))).1
  have h0' := h0
  unfold pTake Pr.bind at h0
  have e1 := key _ _ _ _ rfl h0
  obtain ⟨_, hm⟩ := mono_least p 0 _ _ (Prod.ext rfl (Prod.ext rfl e1))
  have hkp : (pLeast (p, 0)).1 = kindOf f := by
    have h1 := hm q
    rw [hp] at h1
    have h2 := hk []
    rw [List.append_nil] at h2
    rw [h1] at h2
    exact (Prod.ext_iff.1 h2).1
  have hM : Mono (if 8 ≤ kindOf f ∧ kindOf f < 16 then pStream (decide ((kindOf f).toNat / 4 % 2 = 1)) (decide ((kindOf f).toNat / 2 % 2 = 1)) (decide ((kindOf f).toNat % 2 = 1)) else if 30 < kindOf f then (pFail 5).bind fun _ => .ret (FrM.zero 0) else pFields (kindOf f).toNat) := by
    have hk := h.1.k
    by_cases h8 : f.k = 8
    · unfold kindOf
      rw [if_pos h8]
      cases f.fin
      · exact mono_stream _ _
      · exact mono_stream _ _
    · have : kindOf f = f.k := by unfold kindOf; rw [if_neg h8]
      rw [this, if_neg (by omega), if_neg (by omega)]
      exact mono_fields _
  have hT : pTake (p ++ q, 0) = ((pTake (p, 0)).1, ((pTake (p, 0)).2.1 ++ q, 0)) := by
    have h1 := hm q
    have e2 : pTake (p, 0) = (if 8 ≤ kindOf f ∧ kindOf f < 16 then pStream (decide ((kindOf f).toNat / 4 % 2 = 1)) (decide ((kindOf f).toNat / 2 % 2 = 1)) (decide ((kindOf f).toNat % 2 = 1)) else if 30 < kindOf f then (pFail 5).bind fun _ => .ret (FrM.zero 0) else pFields (kindOf f).toNat) (pLeast (p, 0)).2 := by
      unfold pTake Pr.bind
      rw [hkp]
    have e3 : pTake (p ++ q, 0) = (if 8 ≤ kindOf f ∧ kindOf f < 16 then pStream (decide ((kindOf f).toNat / 4 % 2 = 1)) (decide ((kindOf f).toNat / 2 % 2 = 1)) (decide ((kindOf f).toNat % 2 = 1)) else if 30 < kindOf f then (pFail 5).bind fun _ => .ret (FrM.zero 0) else pFields (kindOf f).toNat) ((pLeast (p, 0)).2.1 ++ q, 0) := by
      show (if 8 ≤ (pLeast (p ++ q, 0)).1 ∧ (pLeast (p ++ q, 0)).1 < 16 then _ else _ : Pr FrM) (pLeast (p ++ q, 0)).2 = _
      rw [h1, hkp]
    obtain ⟨_, h2⟩ := hM (pLeast (p, 0)).2.1 (pLeast (p, 0)).2.2 (pTake (p, 0)).1 (pTake (p, 0)).2.1 (by rw [← e2]; exact Prod.ext rfl (Prod.ext rfl h0'))
    rw [e3]
    exact h2 q
  have h3 := hg []
  rw [List.append_nil, ← hp, hT] at h3
  have h4 := (Prod.ext_iff.1 (Prod.ext_iff.1 h3).2).1
  exact hq (List.append_eq_nil_iff.1 h4).2
end Go.Proofs.Ytckdhelnafjddaa
