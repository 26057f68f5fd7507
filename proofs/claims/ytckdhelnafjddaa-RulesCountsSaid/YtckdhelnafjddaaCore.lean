/- A small separation logic over the walk's rules: a symbolic frame (slots and values), a symbolic heap (chunks of blocks that the call owns), one rule for each operation. Conditions: none; nothing here speaks of a given program. -/
import Derived.WalkKit
import Derived.Deep.Quiet
import Derived.KernelRfl
namespace Go.Sl
set_option linter.unusedVariables false
set_option linter.unusedSimpArgs false
open Go.RowKit

/-! ### Frames -/

abbrev Env := List (Nat × Value)

def Env.look : Env → Nat → Option Value
  | [], _ => none
  | (d, v) :: e, t => bif Nat.beq d t then some v else Env.look e t

theorem nbeq {d t : Nat} (h : ¬ d = t) : Nat.beq d t = false := by
  cases hb : Nat.beq d t with
  | false => rfl
  | true => exact absurd (Nat.eq_of_beq_eq_true hb) h

structure EnvOK (N : Nat) (E : Env) (a : Act) : Prop where
  size : a.tmps.size = N
  defers : a.defers = []
  val : ∀ t v, Env.look E t = some v → a.tmps[t]? = some v

theorem EnvOK.put {N : Nat} {E : Env} {a : Act} (h : EnvOK N E a) {d : Nat} (hd : d < N) (v : Value) : EnvOK N ((d, v) :: E) (a.put (some d) v) := by
  refine ⟨by simp [Act.put, h.size], h.defers, fun t u ht => ?_⟩
  simp only [Env.look] at ht
  by_cases hdt : d = t
  · subst hdt
    simp at ht
    subst ht
    simp [Act.put, h.size, hd]
  · have hb : Nat.beq d t = false := nbeq hdt
    rw [hb] at ht
    simp [Act.put, Array.getElem?_setIfInBounds_ne hdt]
    exact h.val t u ht

theorem EnvOK.skip {N : Nat} {E : Env} {a : Act} (h : EnvOK N E a) (v : Value) : EnvOK N E (a.put none v) := h

def Env.ev (E : Env) : Operand → Option Value
  | .tmp t => Env.look E t
  | .const v => some v
  | .global g => some (.pointer (some ⟨g, 0, none⟩))
  | .func f => some (.func (.func f) #[] #[])

theorem EnvOK.ev {N : Nat} {E : Env} {a : Act} (h : EnvOK N E a) {x : Operand} {v : Value} (hx : Env.ev E x = some v) : a.eval x = v := by
  cases x with
  | tmp t =>
    have := h.val t v hx
    simp [Act.eval, this]
  | const u => simpa [Env.ev, Act.eval] using hx
  | global g => simpa [Env.ev, Act.eval] using hx
  | func f => simpa [Env.ev, Act.eval] using hx

/-- all that E' says, E says. -/
def Env.sub : Env → Env → Prop
  | [], _ => True
  | (t, v) :: r, E => Env.look E t = some v ∧ Env.sub r E

theorem Env.sub_look {E' E : Env} (h : Env.sub E' E) : ∀ t v, Env.look E' t = some v → Env.look E t = some v := by
  induction E' with
  | nil => intro t v ht; simp [Env.look] at ht
  | cons p r ih =>
    obtain ⟨d, u⟩ := p
    intro t v ht
    simp only [Env.look] at ht
    by_cases hdt : d = t
    · subst hdt
      simp at ht
      subst ht
      exact h.1
    · have hb : Nat.beq d t = false := nbeq hdt
      rw [hb] at ht
      exact ih h.2 t v ht

theorem EnvOK.sub {N : Nat} {E E' : Env} {a : Act} (h : EnvOK N E a) (hs : Env.sub E' E) : EnvOK N E' a :=
  ⟨h.size, h.defers, fun t v ht => h.val t v (Env.sub_look hs t v ht)⟩

def Env.le (E' E : Env) : Prop := ∀ t v, Env.look E' t = some v → Env.look E t = some v
theorem Env.le.refl (E : Env) : Env.le E E := fun _ _ h => h
theorem EnvOK.le {N : Nat} {E E' : Env} {a : Act} (h : EnvOK N E a) (hs : Env.le E' E) : EnvOK N E' a :=
  ⟨h.size, h.defers, fun t v ht => h.val t v (hs t v ht)⟩

/-! ### Heaps -/

abbrev Hp := List (Nat × Obj)

structure St (B : Nat) (w0 : World) (G : List Hp) (w : World) : Prop where
  below : Below B w0 w
  base : B ≤ w0.heap.size
  has : ∀ p ∈ G.flatten, B ≤ p.1 ∧ w.heap[p.1]? = some p.2
  nodup : (G.flatten.map Prod.fst).Nodup

theorem St.start {B : Nat} {w : World} (h : B ≤ w.heap.size) : St B w [] w :=
  ⟨Below.refl _ _, h, by simp, by simp⟩

theorem St.lt {B : Nat} {w0 : World} {G : List Hp} {w : World} (h : St B w0 G w) {p : Nat × Obj} (hp : p ∈ G.flatten) : p.1 < w.heap.size := by
  have := (h.has p hp).2
  exact (Array.getElem?_eq_some_iff.1 this).1

theorem St.drew {B : Nat} {w0 : World} {G : List Hp} {w : World} (h : St B w0 G w) : St B w0 G w.drew :=
  ⟨h.below.drew, h.base, h.has, h.nodup⟩

theorem St.drewEq {B : Nat} {w0 : World} {G : List Hp} {w : World} (h : St B w0 G w) : St B w0 G { w with drawn := w.drawn + 1 } :=
  ⟨⟨h.below.os, h.below.tape, h.below.output, h.below.size, h.below.block⟩, h.base, h.has, h.nodup⟩

theorem flatten_sub {α : Type} {l m : List (List α)} (h : List.Sublist l m) : List.Sublist l.flatten m.flatten := by
  induction h with
  | slnil => exact List.Sublist.refl _
  | cons a _ ih => simp only [List.flatten_cons]; exact ih.trans (List.sublist_append_right _ _)
  | cons_cons a _ ih => simp only [List.flatten_cons]; exact (List.Sublist.refl a).append ih

/-- chunks may be reordered, and dropped -/
theorem St.weak {B : Nat} {w0 : World} {G G' : List Hp} {w : World} (h : St B w0 G w) (hs : List.Sublist G' G) : St B w0 G' w := by
  have hf : List.Sublist G'.flatten G.flatten := flatten_sub hs
  exact ⟨h.below, h.base, fun p hp => h.has p (hf.subset hp), (hf.map Prod.fst).nodup h.nodup⟩

theorem St.perm {B : Nat} {w0 : World} {G G' : List Hp} {w : World} (h : St B w0 G w) (hs : G.Perm G') : St B w0 G' w := by
  have hf : G.flatten.Perm G'.flatten := hs.flatten
  exact ⟨h.below, h.base, fun p hp => h.has p (hf.mem_iff.2 hp), (hf.map Prod.fst).nodup_iff.1 h.nodup⟩

/-- G is R with c put in its hole -/
inductive Sel : List Hp → Hp → (Hp → List Hp) → Prop where
  | here {c : Hp} {G : List Hp} : Sel (c :: G) c (fun x => x :: G)
  | there {y c : Hp} {G : List Hp} {R : Hp → List Hp} (h : Sel G c R) : Sel (y :: G) c (fun x => y :: R x)

theorem Sel.perm {G : List Hp} {c : Hp} {R : Hp → List Hp} (h : Sel G c R) : ∃ F : List Hp, G.Perm (c :: F) ∧ ∀ x, (R x).Perm (x :: F) := by
  induction h with
  | here => exact ⟨_, List.Perm.refl _, fun _ => List.Perm.refl _⟩
  | @there y c G R _ ih =>
    obtain ⟨F, h1, h2⟩ := ih
    exact ⟨y :: F, (List.Perm.cons y h1).trans (List.Perm.swap _ _ _), fun x => (List.Perm.cons y (h2 x)).trans (List.Perm.swap _ _ _)⟩

theorem Sel.eq {G : List Hp} {c : Hp} {R : Hp → List Hp} (h : Sel G c R) : R c = G := by
  induction h with
  | here => rfl
  | there _ ih => simp [ih]

/-- a block of a chunk -/
theorem St.read {B : Nat} {w0 : World} {G : List Hp} {w : World} (h : St B w0 G w) {c : Hp} {R : Hp → List Hp} (hs : Sel G c R) {b : Nat} {o : Obj} (hb : (b, o) ∈ c) : w.heap[b]? = some o := by
  obtain ⟨F, h1, _⟩ := hs.perm
  refine (h.has (b, o) ?_).2
  refine (h1.flatten).mem_iff.2 ?_
  simp [hb]

/-- the object of one block is another one -/
theorem St.write {B : Nat} {w0 : World} {G : List Hp} {w w' : World} (h : St B w0 G w) {b : Nat} {o o' : Obj} {R : Hp → List Hp} (hs : Sel G [(b, o)] R)
    (hos : w'.os = w.os) (htape : w'.tape = w.tape) (hout : w'.output = w.output) (hsize : w'.heap.size = w.heap.size) (hb : w'.heap[b]? = some o') (hne : ∀ k, k ≠ b → w'.heap[k]? = w.heap[k]?) :
    St B w0 (R [(b, o')]) w' := by
  obtain ⟨F, h1, h2⟩ := hs.perm
  have hp := h.perm h1
  have hB : B ≤ b := (hp.has (b, o) (by simp)).1
  have hn := hp.nodup
  simp only [List.flatten_cons, List.singleton_append, List.map_cons, List.nodup_cons] at hn
  refine St.perm (G := [(b, o')] :: F) ?_ (h2 _).symm
  refine ⟨⟨hos.trans h.below.os, htape.trans h.below.tape, hout.trans h.below.output, by rw [hsize]; exact h.below.size, fun k hk => (hne k (by omega)).trans (h.below.block k hk)⟩, h.base, ?_, ?_⟩
  · intro p hmem
    simp only [List.flatten_cons, List.singleton_append, List.mem_cons] at hmem
    rcases hmem with rfl | hmem
    · exact ⟨hB, hb⟩
    · have h3 := hp.has p (by simp [hmem])
      refine ⟨h3.1, ?_⟩
      rw [hne p.1 ?_]
      · exact h3.2
      · rintro rfl
        exact hn.1 (List.mem_map.2 ⟨p, hmem, rfl⟩)
  · simp only [List.flatten_cons, List.singleton_append, List.map_cons, List.nodup_cons]
    exact hn

/-- a new block -/
theorem St.new {B : Nat} {w0 : World} {G : List Hp} {w : World} (h : St B w0 G w) (o : Obj) : St B w0 ([(w.heap.size, o)] :: G) (w.alloc o) := by
  refine ⟨h.below.alloc (Nat.le_trans h.base h.below.size) o, h.base, ?_, ?_⟩
  · intro p hp
    simp only [List.flatten_cons, List.singleton_append, List.mem_cons] at hp
    rcases hp with rfl | hp
    · exact ⟨Nat.le_trans h.base h.below.size, Go.heap_alloc_new w o⟩
    · have h1 := h.has p hp
      exact ⟨h1.1, by rw [Below.heap_alloc w o p.1 (h.lt hp)]; exact h1.2⟩
  · simp only [List.flatten_cons, List.singleton_append, List.map_cons, List.nodup_cons]
    refine ⟨fun hm => ?_, h.nodup⟩
    obtain ⟨p, hp, he⟩ := List.mem_map.1 hm
    have := h.lt hp
    omega

/-- old memory -/
theorem St.old {B : Nat} {w0 : World} {G : List Hp} {w : World} (h : St B w0 G w) {b : Nat} (hb : b < B) : w.heap[b]? = w0.heap[b]? := h.below.block b hb

/-- a chunk opened into two; two closed into one -/
theorem St.flat {B : Nat} {w0 : World} {G G' : List Hp} {w : World} (h : St B w0 G w) (he : G.flatten.Perm G'.flatten) : St B w0 G' w :=
  ⟨h.below, h.base, fun p hp => h.has p (he.mem_iff.2 hp), (he.map Prod.fst).nodup_iff.1 h.nodup⟩

/-- how often a block is there -/
noncomputable def cnt (p : Nat × Obj) (l : Hp) : Nat := l.countP fun q => @decide (q = p) (Classical.propDecidable _)
@[simp] theorem cnt_nil (p : Nat × Obj) : cnt p [] = 0 := rfl
theorem cnt_append (p : Nat × Obj) (l m : Hp) : cnt p (l ++ m) = cnt p l + cnt p m := by simp [cnt, List.countP_append]
theorem cnt_cons (p q : Nat × Obj) (r : Nat × Obj) (l : Hp) : cnt p (q :: r :: l) = cnt p [q] + cnt p (r :: l) := by
  rw [← cnt_append]; rfl
theorem cnt_pos {p : Nat × Obj} {l : Hp} (h : 0 < cnt p l) : p ∈ l := by
  unfold cnt at h
  obtain ⟨q, hq, he⟩ := List.countP_pos_iff.1 h
  have : q = p := by simpa using he
  subst this
  exact hq
theorem cnt_self (p : Nat × Obj) (l : Hp) : cnt p (p :: l) = cnt p l + 1 := by
  unfold cnt
  rw [List.countP_cons]
  simp
theorem cnt_ne {p q : Nat × Obj} (h : ¬ q = p) (l : Hp) : cnt p (q :: l) = cnt p l := by
  unfold cnt
  rw [List.countP_cons]
  simp [h]
theorem cnt_perm {l m : Hp} (h : l.Perm m) (p : Nat × Obj) : cnt p l = cnt p m := by
  unfold cnt; exact h.countP_eq _
theorem cnt_sub : ∀ (l m : Hp), (∀ p, cnt p l ≤ cnt p m) → ∃ r, m.Perm (l ++ r)
  | [], m, _ => ⟨m, List.Perm.refl _⟩
  | x :: l, m, h => by
    have hx : x ∈ m := cnt_pos (by have := h x; rw [cnt_self] at this; omega)
    obtain ⟨a, b, rfl⟩ := List.append_of_mem hx
    have hp : (a ++ x :: b).Perm (x :: (a ++ b)) := List.perm_middle
    have h2 : ∀ p, cnt p l ≤ cnt p (a ++ b) := fun p => by
      have h3 := h p
      rw [cnt_perm hp p] at h3
      by_cases hq : x = p
      · subst hq
        rw [cnt_self, cnt_self] at h3
        omega
      · rw [cnt_ne hq, cnt_ne hq] at h3
        exact h3
    obtain ⟨r, hr⟩ := cnt_sub l (a ++ b) h2
    exact ⟨r, hp.trans (List.Perm.cons x hr)⟩
/-- all of X is there in G -/
def Cov (X G : List Hp) : Prop := ∀ p, cnt p X.flatten ≤ cnt p G.flatten
theorem Cov.refl (G : List Hp) : Cov G G := fun _ => Nat.le_refl _
theorem Cov.trans {X Y Z : List Hp} (h : Cov X Y) (h2 : Cov Y Z) : Cov X Z := fun p => Nat.le_trans (h p) (h2 p)
theorem Cov.of_sub {X G : List Hp} (h : List.Sublist X G) : Cov X G := fun p => (flatten_sub h).countP_le
theorem Cov.of_perm {X G : List Hp} (h : X.Perm G) : Cov X G := fun p => Nat.le_of_eq (cnt_perm h.flatten p)
theorem St.cov {B : Nat} {w0 : World} {X G : List Hp} {w : World} (h : St B w0 G w) (hc : Cov X G) : St B w0 X w := by
  obtain ⟨r, hr⟩ := cnt_sub _ _ hc
  have h1 := h.flat (G' := [X.flatten ++ r]) (by simpa using hr)
  refine ⟨h.below, h.base, fun p hp => h1.has p (by simp [hp]), ?_⟩
  have h2 := h1.nodup
  simp only [List.flatten_cons, List.flatten_nil, List.append_nil, List.map_append] at h2
  exact (List.nodup_append.1 h2).1

/-- all of a chunk is there -/
def Sub (c : Hp) (G : List Hp) : Prop := ∀ p ∈ c, p ∈ G.flatten
theorem Sub.here {c : Hp} {G : List Hp} : Sub c (c :: G) := fun p hp => by simp [hp]
theorem Sub.there {c y : Hp} {G : List Hp} (h : Sub c G) : Sub c (y :: G) := fun p hp => by
  have := h p hp
  simp only [List.flatten_cons, List.mem_append]
  exact .inr this
theorem Sub.left {a b : Hp} {G : List Hp} (h : Sub (a ++ b) G) : Sub a G := fun p hp => h p (List.mem_append_left _ hp)
theorem Sub.right {a b : Hp} {G : List Hp} (h : Sub (a ++ b) G) : Sub b G := fun p hp => h p (List.mem_append_right _ hp)
theorem Sub.head {p : Nat × Obj} {b : Hp} {G : List Hp} (h : Sub (p :: b) G) : Sub [p] G := fun q hq => h q (by simp at hq; simp [hq])
theorem Sub.tail {p : Nat × Obj} {b : Hp} {G : List Hp} (h : Sub (p :: b) G) : Sub b G := fun q hq => h q (List.mem_cons_of_mem _ hq)
theorem Sub.app {a b : Hp} {G : List Hp} (h1 : Sub a G) (h2 : Sub b G) : Sub (a ++ b) G := fun p hp => by
  rcases List.mem_append.1 hp with h | h
  · exact h1 p h
  · exact h2 p h
theorem Sub.nil {G : List Hp} : Sub [] G := fun p hp => by simp at hp
theorem Sel.sub {G : List Hp} {c : Hp} {R : Hp → List Hp} (h : Sel G c R) : Sub c G := by
  induction h with
  | here => exact Sub.here
  | there _ ih => exact ih.there
theorem St.sub {B : Nat} {w0 : World} {G : List Hp} {w : World} (h : St B w0 G w) {c : Hp} (hs : Sub c G) {b : Nat} {o : Obj} (hb : (b, o) ∈ c) : w.heap[b]? = some o := (h.has _ (hs _ hb)).2

/-! ### What a world of a class reads -/

def Cell (S : World → Prop) (p : Addr) (v : Value) : Prop := ∀ w, S w → w.cell? p = some v

theorem Cell.of {B : Nat} {w0 : World} {G : List Hp} {c : Hp} {R : Hp → List Hp} {b : Nat} {cs : Array Value} {T : TypeId} {fr : Nat × Nat} {off : Nat} {v : Value}
    (hs : Sel G c R) (hb : (b, .cells cs T fr) ∈ c) (hv : cs[off]? = some v) : Cell (St B w0 G) ⟨b, off, none⟩ v := fun w hw => by
  simp [World.cell?, hw.read hs hb, hv]

theorem Cell.sub {B : Nat} {w0 : World} {G : List Hp} {c : Hp} {b : Nat} {cs : Array Value} {T : TypeId} {fr : Nat × Nat} {off : Nat} {v : Value}
    (hs : Sub c G) (hb : (b, .cells cs T fr) ∈ c) (hv : cs[off]? = some v) : Cell (St B w0 G) ⟨b, off, none⟩ v := fun w hw => by
  simp [World.cell?, hw.sub hs hb, hv]

theorem Cell.old {B : Nat} {w0 : World} {G : List Hp} {b off : Nat} {v : Value} (hb : b < B) (hv : w0.cell? ⟨b, off, none⟩ = some v) : Cell (St B w0 G) ⟨b, off, none⟩ v := fun w hw => by
  rw [← hv]
  exact World.cell?_of_block (w := w0) (hw.old hb)

/-- types of one cell; of several -/
structure Scalar (P : Program) (T : TypeId) : Prop where
  agg : ∀ w : World, (isAgg T).run P w = .ok false w
  size : (P.info? T).map (·.size) = some 1

structure Agg (P : Program) (T : TypeId) (n : Nat) : Prop where
  agg : ∀ w : World, (isAgg T).run P w = .ok true w
  size : (P.info? T).map (·.size) = some n

def Var (P : Program) (S : World → Prop) (T : TypeId) (p : Addr) (v : Value) : Prop := ∀ w, S w → (loadVar T p).run P w = .ok v w

theorem run_sizeOf {P : Program} {T : TypeId} {n : Nat} (h : (P.info? T).map (·.size) = some n) (w : World) : (sizeOf T).run P w = .ok n w := by
  cases hq : P.info? T with
  | none => simp [hq] at h
  | some i =>
    have : i.size = n := by simpa [hq] using h
    simp [sizeOf, typeInfo, hq, this]

theorem Var.one {P : Program} {S : World → Prop} {T : TypeId} {p : Addr} {v : Value} (hT : Scalar P T) (h : Cell S p v) : Var P S T p v := fun w hw => by
  have h1 := hT.agg w
  have h2 := h w hw
  simp [loadVar, Sem.run_bind, h1, load, Sem.run, h2]

theorem Var.many {P : Program} {S : World → Prop} {T : TypeId} {p : Addr} {vs : List Value} (hT : Agg P T vs.length) (h : ∀ i v, vs[i]? = some v → Cell S (p.add i) v) : Var P S T p (.agg vs.toArray) := fun w hw => by
  have hl : (loadCells p vs.length).run P w = .ok vs.toArray w := run_loadCells_list (P := P) w p vs (fun i v hv => h i v hv w hw)
  simp [loadVar, Sem.run_bind, hT.agg w, run_sizeOf hT.size w, hl]

end Go.Sl
