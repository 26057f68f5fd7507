/- Lists in memory: what a slice of encoded elements holds, how it is read, written, appended to; bytes and strings. Conditions: none; nothing here speaks of a given program. -/
import Derived.Test.YtckdhelnafjddaaArgs
import Derived.Laws.IdiomStrings
import Derived.Laws.StructEq
namespace Go.Sl
set_option linter.unusedVariables false
set_option linter.unusedSimpArgs false
open Go.RowKit Go

variable {P : Program} {ops : Array Oper} {Q : Exit → Act → World → Prop} {B : Nat} {w0 : World} {N : Nat} {G : List Hp} {E : Env} {S : World → Prop} {ty T U : TypeId}

/-! ### Reads of a chunk that is there -/
theorem Var.sub1 {c : Hp} {b off : Nat} {o : Obj} {v : Value} (hT : Scalar P T) (hs : Sub c G) (hm : (b, o) ∈ c) (hg : GetN o off [v]) : Var P (St B w0 G) T ⟨b, off, none⟩ v := by
  obtain ⟨cs, e, fr, rfl, h⟩ := hg
  exact Var.one hT (Cell.sub hs hm (h 0 v rfl))
theorem Var.subN {c : Hp} {b off n : Nat} {o : Obj} {vs : List Value} (hT : Agg P T n) (hs : Sub c G) (hm : (b, o) ∈ c) (hg : GetN o off vs) (hn : vs.length = n) : Var P (St B w0 G) T ⟨b, off, none⟩ (.agg vs.toArray) := by
  subst hn
  obtain ⟨cs, e, fr, rfl, h⟩ := hg
  exact Var.many hT fun i v hv => by rw [add_mk]; exact Cell.sub hs hm (h i v hv)

theorem GetN.lit {l : List Value} {e : TypeId} {fr : Nat × Nat} {off : Nat} {v : Value} (h : l[off]? = some v) : GetN (.cells l.toArray e fr) off [v] := GetN.one (by simpa using h)

/-! ### Encodings -/
structure Enc (α : Type) where
  f : α → List Value
  size : Nat
  val : α → Value
  ok : α → Prop

structure EncTy {α : Type} (P : Program) (e : TypeId) (En : Enc α) : Prop where
  pos : 0 < En.size
  len : ∀ a, En.ok a → (En.f a).length = En.size
  one : ∀ a, En.ok a → ∀ u ∈ En.f a, u.oneCell' = true
  size : (P.info? e).map (·.size) = some En.size
  cells : ∀ a, En.ok a → (En.val a).cells.toList = En.f a
  var : ∀ (S : World → Prop) (p : Addr) a, En.ok a → (∀ i v, (En.f a)[i]? = some v → Cell S (p.add i) v) → Var P S e p (En.val a)

theorem EncTy.scalar {α : Type} {En : Enc α} {e : TypeId} (hT : Scalar P e) (h1 : En.size = 1) (hf : ∀ a, En.f a = [En.val a]) (ho : ∀ a, (En.val a).oneCell' = true) : EncTy P e En :=
  ⟨by omega, fun a _ => by rw [hf a, h1]; rfl, fun a _ u hu => by rw [hf a] at hu; simp at hu; subst hu; exact ho a, by rw [h1]; exact hT.size,
    fun a _ => by
      have := ho a
      rw [hf a]
      cases hv : En.val a <;> first | rfl | (rw [hv] at this; simp [Value.oneCell'] at this),
    fun S p a _ h => Var.one hT (by
      have := h 0 (En.val a) (by rw [hf a]; rfl)
      simpa [Addr.add] using this)⟩

theorem EncTy.agg {α : Type} {En : Enc α} {e : TypeId} (hT : Agg P e En.size) (hpos : 0 < En.size) (hv : ∀ a, En.val a = .agg (En.f a).toArray) (hl : ∀ a, En.ok a → (En.f a).length = En.size) (ho : ∀ a, En.ok a → ∀ u ∈ En.f a, u.oneCell' = true) : EncTy P e En :=
  ⟨hpos, hl, ho, hT.size, fun a _ => by rw [hv a]; simp [Value.cells], fun S p a ha h => by
    rw [hv a]
    exact Var.many (by rw [hl a ha]; exact hT) h⟩

theorem fm_len {α β : Type} {f : α → List β} {k : Nat} : ∀ {l : List α}, (∀ a ∈ l, (f a).length = k) → (l.flatMap f).length = l.length * k
  | [], _ => by simp
  | a :: l, h => by
    have := fm_len (l := l) fun x hx => h x (List.mem_cons_of_mem _ hx)
    simp only [List.flatMap_cons, List.length_append, h a (List.mem_cons_self), this, List.length_cons, Nat.succ_mul]
    omega
theorem fm_drop {α β : Type} {f : α → List β} {k : Nat} : ∀ {l : List α} (i : Nat), (∀ a ∈ l, (f a).length = k) → (l.flatMap f).drop (i * k) = (l.drop i).flatMap f
  | [], i, _ => by simp
  | a :: l, 0, _ => by simp
  | a :: l, i + 1, h => by
    have h1 := fm_drop (l := l) i fun x hx => h x (List.mem_cons_of_mem _ hx)
    have h2 := h a (List.mem_cons_self)
    simp only [List.flatMap_cons, List.drop_succ_cons, Nat.succ_mul]
    rw [← h1, List.drop_append, List.drop_eq_nil_of_le (by omega), List.nil_append, h2]
    congr 1
    omega
theorem fm_take {α β : Type} {f : α → List β} {k : Nat} : ∀ {l : List α} (i : Nat), (∀ a ∈ l, (f a).length = k) → (l.flatMap f).take (i * k) = (l.take i).flatMap f
  | [], i, _ => by simp
  | a :: l, 0, _ => by simp
  | a :: l, i + 1, h => by
    have h1 := fm_take (l := l) i fun x hx => h x (List.mem_cons_of_mem _ hx)
    have h2 := h a (List.mem_cons_self)
    simp only [List.flatMap_cons, List.take_succ_cons, Nat.succ_mul]
    rw [← h1, List.take_append, List.take_of_length_le (by omega), h2]
    congr 2
    omega
theorem fm_get {α β : Type} {f : α → List β} {k : Nat} : ∀ {l : List α} {i : Nat} {a : α} {j : Nat} {v : β}, (∀ a ∈ l, (f a).length = k) → l[i]? = some a → (f a)[j]? = some v → (l.flatMap f)[i * k + j]? = some v := by
  intro l i a j v h hi hj
  have h1 := fm_drop (f := f) i h
  have h2 : (l.flatMap f)[i * k + j]? = ((l.flatMap f).drop (i * k))[j]? := by rw [List.getElem?_drop]
  rw [h2, h1]
  have h3 : l.drop i = a :: l.drop (i + 1) := by
    obtain ⟨hlt, he⟩ := List.getElem?_eq_some_iff.1 hi
    rw [← he]
    exact (List.getElem_cons_drop hlt).symm
  rw [h3, List.flatMap_cons, List.getElem?_append_left (List.getElem?_eq_some_iff.1 hj).1]
  exact hj

/-! ### Addresses of slices -/
def bOf : Option Addr → Nat
  | some a => a.block
  | none => 0
def oOf : Option Addr → Nat
  | some a => a.off
  | none => 0
@[simp] theorem bOf_some (b o : Nat) : bOf (some ⟨b, o, none⟩) = b := rfl
@[simp] theorem oOf_some (b o : Nat) : oOf (some ⟨b, o, none⟩) = o := rfl

/-! ### What is read of a slice -/
structure Vw {α : Type} (En : Enc α) (S : World → Prop) (v : Value) (l : List α) : Prop where
  view : ∃ ao cap, v = .slice ao l.length cap ∧ l.length ≤ cap
  ok : ∀ a ∈ l, En.ok a
  get : ∀ ao n cap, v = .slice ao n cap → 0 < l.length → ao = some ⟨bOf ao, oOf ao, none⟩ ∧ ∀ i u, (l.flatMap En.f)[i]? = some u → Cell S ⟨bOf ao, oOf ao + i, none⟩ u

theorem Vw.mono {α : Type} {En : Enc α} {S S' : World → Prop} {v : Value} {l : List α} (h : Vw En S v l) (hS : ∀ w, S' w → S w) : Vw En S' v l :=
  ⟨h.view, h.ok, fun ao n cap e hl => by
    obtain ⟨h1, h2⟩ := h.get ao n cap e hl
    exact ⟨h1, fun i u hu w hw => h2 i u hu w (hS w hw)⟩⟩
theorem Vw.cov {α : Type} {En : Enc α} {G' : List Hp} {v : Value} {l : List α} (h : Vw En (St B w0 G) v l) (hc : Cov G G') : Vw En (St B w0 G') v l := h.mono fun _ hw => hw.cov hc
theorem Vw.there {α : Type} {En : Enc α} {c : Hp} {v : Value} {l : List α} (h : Vw En (St B w0 G) v l) : Vw En (St B w0 (c :: G)) v l := h.mono fun _ hw => hw.weak (List.sublist_cons_self _ _)

theorem Vw.len {α : Type} {En : Enc α} {ao : Option Addr} {n cap : Nat} {l : List α} (h : Vw En S (.slice ao n cap) l) : n = l.length := by
  obtain ⟨_, _, h1, _⟩ := h.view
  injection h1

theorem Vw.var {α : Type} {En : Enc α} {e : TypeId} {ao : Option Addr} {n cap i : Nat} {l : List α} (he : EncTy P e En) (h : Vw En S (.slice ao n cap) l) (hi : i < l.length) :
    Var P S e ⟨bOf ao, oOf ao + i * En.size, none⟩ (En.val l[i]) := by
  obtain ⟨_, h2⟩ := h.get ao n cap rfl (by omega)
  refine he.var S _ _ (h.ok _ (List.getElem_mem hi)) fun j v hj => ?_
  rw [add_mk, Nat.add_assoc]
  exact h2 _ _ (fm_get (fun a ha => he.len a (h.ok a ha)) (List.getElem?_eq_getElem hi) hj)
theorem Vw.fld1 {α : Type} {En : Enc α} {e : TypeId} {ao : Option Addr} {n cap i k : Nat} {l : List α} {v : Value} (he : EncTy P e En) (hT : Scalar P T) (h : Vw En S (.slice ao n cap) l) (hi : i < l.length) (hk : (En.f l[i])[k]? = some v) :
    Var P S T ⟨bOf ao, oOf ao + i * En.size + k, none⟩ v := by
  obtain ⟨_, h2⟩ := h.get ao n cap rfl (by omega)
  refine Var.one hT ?_
  rw [Nat.add_assoc]
  exact h2 _ _ (fm_get (fun a ha => he.len a (h.ok a ha)) (List.getElem?_eq_getElem hi) hk)
theorem Vw.fldN {α : Type} {En : Enc α} {e : TypeId} {ao : Option Addr} {n cap i k m : Nat} {l : List α} {vs : List Value} (he : EncTy P e En) (hT : Agg P T m) (h : Vw En S (.slice ao n cap) l) (hi : i < l.length) (hm : vs.length = m) (hk : ∀ j v, vs[j]? = some v → (En.f l[i])[k + j]? = some v) :
    Var P S T ⟨bOf ao, oOf ao + i * En.size + k, none⟩ (.agg vs.toArray) := by
  obtain ⟨_, h2⟩ := h.get ao n cap rfl (by omega)
  subst hm
  refine Var.many hT fun j v hj => ?_
  rw [add_mk, Nat.add_assoc, Nat.add_assoc, ← Nat.add_assoc]
  have := h2 _ _ (fm_get (fun a ha => he.len a (h.ok a ha)) (List.getElem?_eq_getElem hi) (hk j v hj))
  rw [← Nat.add_assoc]
  simpa [Nat.add_assoc] using this

theorem v_indexAddr_vw {α : Type} {En : Enc α} {S' : World → Prop} {x y : Operand} {k : IntKind} {m : Int} {i len cap e : Nat} {ao : Option Addr} {l : List α} (hT : P.underlying T = some (.slice e)) (he : EncTy P e En) (hx : Env.ev E x = some (.slice ao len cap)) (hy : Env.ev E y = some (.int k m))
    (hv : Vw En S' (.slice ao len cap) l) (hm : m = (i : Int)) (hi : i < l.length) : OpV P S N E (.indexAddr T x y) ty (.pointer (some ⟨bOf ao, oOf ao + i * En.size, none⟩)) := by
  obtain ⟨h1, _⟩ := hv.get ao len cap rfl (by omega)
  have hl := hv.len
  exact v_indexAddr hT he.size hx h1 hy hm (by omega)

/-! ### Slices that the call owns -/
theorem IsSl.drop' {e : TypeId} {size : Nat} {ao : Option Addr} {n cap l : Nat} {c : Hp} {xs : List Value} (h : IsSl e size (.slice ao n cap) c n xs) (hl : l ≤ n) :
    IsSl e size (.slice (cutA ao cap l size) (n - l) (cap - l)) c (n - l) (xs.drop (l * size)) := by
  by_cases h0 : l = 0
  · subst h0
    rw [cutA_zero]
    simpa using h
  · exact h.drop hl (by omega)
theorem IsSl.take' {e : TypeId} {size : Nat} {ao : Option Addr} {n cap m : Nat} {c : Hp} {xs : List Value} (h : IsSl e size (.slice ao n cap) c n xs) (hm : m ≤ n) :
    IsSl e size (.slice ao m cap) c m (xs.take (m * size)) := by
  cases h with
  | nil =>
    obtain rfl : m = 0 := by omega
    simpa using IsSl.nil
  | @row b n cap pre xs spare post hx hs hn =>
    have h1 : m * size ≤ xs.length := by rw [hx]; exact Nat.mul_le_mul_right _ hm
    have h2 : pre ++ (xs ++ (spare ++ post)) = pre ++ (xs.take (m * size) ++ ((xs.drop (m * size) ++ spare) ++ post)) := by
      rw [List.append_assoc (xs.drop (m * size)), ← List.append_assoc (xs.take (m * size)), List.take_append_drop]
    rw [h2]
    refine IsSl.row (by simp; omega) ?_ (by omega)
    simp only [List.length_append, List.length_drop, hx, hs, ← Nat.sub_mul, ← Nat.add_mul]
    congr 1
    omega
theorem IsSl.view {e : TypeId} {size : Nat} {v : Value} {c : Hp} {n : Nat} {xs : List Value} (h : IsSl e size v c n xs) : ∃ ao cap, v = .slice ao n cap ∧ n ≤ cap := by
  cases h with
  | nil => exact ⟨_, _, rfl, Nat.le_refl _⟩
  | row hx hs hn => exact ⟨_, _, rfl, hn⟩
/-- a longer part of it -/
theorem IsSl.grow {e : TypeId} {size : Nat} {ao : Option Addr} {n cap k : Nat} {c : Hp} {xs : List Value} (h : IsSl e size (.slice ao n cap) c n xs) (h1 : n ≤ k) (h2 : k ≤ cap) :
    ∃ ys, ys.length = (k - n) * size ∧ IsSl e size (.slice ao k cap) c k (xs ++ ys) := by
  cases h with
  | nil =>
    obtain rfl : k = 0 := by omega
    exact ⟨[], by simp, IsSl.nil⟩
  | @row b n cap pre xs spare post hx hs hn =>
    have h3 : (k - n) * size ≤ spare.length := by rw [hs]; exact Nat.mul_le_mul_right _ (by omega)
    refine ⟨spare.take ((k - n) * size), by simp; omega, ?_⟩
    have h4 : pre ++ (xs ++ (spare ++ post)) = pre ++ ((xs ++ spare.take ((k - n) * size)) ++ (spare.drop ((k - n) * size) ++ post)) := by
      rw [List.append_assoc, ← List.append_assoc (spare.take _), List.take_append_drop]
    rw [h4]
    refine IsSl.row ?_ ?_ h2
    · simp only [List.length_append, List.length_take, Nat.min_eq_left h3, hx, ← Nat.add_mul]
      congr 1
      omega
    · simp only [List.length_drop, hs, ← Nat.sub_mul]
      congr 1
      omega
theorem IsSl.reads {e : TypeId} {size : Nat} {ao : Option Addr} {n cap : Nat} {c : Hp} {xs : List Value} (h : IsSl e size (.slice ao n cap) c n xs) (h0 : 0 < n) :
    ao = some ⟨bOf ao, oOf ao, none⟩ ∧ ∃ cs, (bOf ao, .cells cs e (0, 0)) ∈ c ∧ ∀ i u, xs[i]? = some u → cs[oOf ao + i]? = some u := by
  cases h with
  | nil => omega
  | @row b n cap pre xs spare post hx hs hn =>
    refine ⟨rfl, _, by simp [bOf]; rfl, fun i u hu => ?_⟩
    have hlt : i < xs.length := (List.getElem?_eq_some_iff.1 hu).1
    simp only [oOf, List.getElem?_toArray]
    rw [List.getElem?_append_right (by omega), Nat.add_sub_cancel_left, List.getElem?_append_left hlt]
    exact hu

structure Ls {α : Type} (En : Enc α) (e : TypeId) (v : Value) (c : Hp) (l : List α) : Prop where
  sl : IsSl e En.size v c l.length (l.flatMap En.f)
  ok : ∀ a ∈ l, En.ok a

section
variable {α : Type} {En : Enc α} {e : TypeId} {v : Value} {c : Hp} {l : List α}
theorem Ls.nil : Ls En e (.slice none 0 0) [] [] := ⟨IsSl.nil, by simp⟩
theorem Ls.view (h : Ls En e v c l) : ∃ ao cap, v = .slice ao l.length cap ∧ l.length ≤ cap := h.sl.view
theorem Ls.len {ao : Option Addr} {n cap : Nat} (h : Ls En e (.slice ao n cap) c l) : n = l.length := by
  obtain ⟨_, _, h1, _⟩ := h.view
  injection h1
theorem Ls.vw (h : Ls En e v c l) (hs : Sub c G) : Vw En (St B w0 G) v l :=
  ⟨h.view, h.ok, fun ao n cap hv hl => by
    subst hv
    have hn := h.len
    subst hn
    obtain ⟨h1, cs, h2, h3⟩ := h.sl.reads hl
    exact ⟨h1, fun i u hu => Cell.sub hs h2 (h3 i u hu)⟩⟩
theorem Ls.take {ao : Option Addr} {n cap m : Nat} (he : EncTy P e En) (h : Ls En e (.slice ao n cap) c l) (hm : m ≤ l.length) : Ls En e (.slice ao m cap) c (l.take m) := by
  have hn := h.len
  subst hn
  have h1 := h.sl.take' hm
  rw [fm_take m (fun a ha => he.len a (h.ok a ha))] at h1
  exact ⟨by rw [List.length_take, Nat.min_eq_left hm]; exact h1, fun a ha => h.ok a (List.mem_of_mem_take ha)⟩
theorem Ls.drop {ao : Option Addr} {n cap m : Nat} (he : EncTy P e En) (h : Ls En e (.slice ao n cap) c l) (hm : m ≤ l.length) : Ls En e (.slice (cutA ao cap m En.size) (n - m) (cap - m)) c (l.drop m) := by
  have hn := h.len
  subst hn
  have h1 := h.sl.drop' hm
  rw [fm_drop m (fun a ha => he.len a (h.ok a ha))] at h1
  exact ⟨by rw [List.length_drop]; exact h1, fun a ha => h.ok a (List.mem_of_mem_drop ha)⟩
end

theorem Vw.sub1 {α : Type} {En : Enc α} {e : TypeId} {ao : Option Addr} {n cap m : Nat} {l : List α} (he : EncTy P e En) (h : Vw En S (.slice ao n cap) l) (hm : m ≤ l.length) : Vw En S (.slice ao m cap) (l.take m) := by
  have hn := h.len
  subst hn
  obtain ⟨_, _, hv, hc⟩ := h.view
  injection hv with h1 h2 h3
  subst h1
  subst h3
  refine ⟨⟨_, _, by rw [List.length_take, Nat.min_eq_left hm], by simp; omega⟩, fun a ha => h.ok a (List.mem_of_mem_take ha), fun ao' n' cap' hv' hl => ?_⟩
  injection hv' with g1 g2 g3
  subst g1
  subst g3
  have hl' : 0 < l.length := by simp at hl; omega
  obtain ⟨k1, k2⟩ := h.get _ _ _ rfl hl'
  refine ⟨k1, fun i u hu => k2 i u ?_⟩
  rw [← fm_take m (fun a ha => he.len a (h.ok a ha))] at hu
  rw [List.getElem?_take] at hu
  split at hu
  · exact hu
  · simp at hu
theorem Vw.sub2 {α : Type} {En : Enc α} {e : TypeId} {ao : Option Addr} {n cap m : Nat} {l : List α} (he : EncTy P e En) (h : Vw En S (.slice ao n cap) l) (hm : m ≤ l.length) : Vw En S (.slice (cutA ao cap m En.size) (n - m) (cap - m)) (l.drop m) := by
  have hn := h.len
  subst hn
  obtain ⟨_, _, hv, hc⟩ := h.view
  injection hv with h1 h2 h3
  subst h1
  subst h3
  refine ⟨⟨_, _, by rw [List.length_drop], by simp; omega⟩, fun a ha => h.ok a (List.mem_of_mem_drop ha), fun ao' n' cap' hv' hl => ?_⟩
  injection hv' with g1 g2 g3
  subst g1
  subst g3
  have hl' : m < l.length := by simp at hl; omega
  obtain ⟨k1, k2⟩ := h.get _ _ _ rfl (by omega)
  rw [k1, cutA_some (by omega)]
  refine ⟨rfl, fun i u hu => ?_⟩
  simp only [bOf_some, oOf_some]
  rw [Nat.add_assoc]
  refine k2 _ u ?_
  rw [← fm_drop m (fun a ha => he.len a (h.ok a ha)), List.getElem?_drop] at hu
  exact hu

/-- the first n of them, as cells that are copied -/
theorem Vw.reads {α : Type} {En : Enc α} {e : TypeId} {ao : Option Addr} {n cap : Nat} {l : List α} (he : EncTy P e En) (h : Vw En S (.slice ao n cap) l) {m : Nat} (hm : m ≤ l.length) : Reads P S En.size (.slice ao n cap) m ((l.take m).flatMap En.f) := by
  by_cases h0 : m = 0
  · subst h0
    simpa using Reads.none
  · obtain ⟨k1, k2⟩ := h.get _ _ _ rfl (by omega)
    rw [k1]
    refine Reads.slice ?_ fun i v hv => ?_
    · rw [fm_len (k := En.size) (fun a ha => he.len a (h.ok a (List.mem_of_mem_take ha))), List.length_take, Nat.min_eq_left hm]
    · rw [add_mk]
      refine k2 i v ?_
      rw [← fm_take m (fun a ha => he.len a (h.ok a ha)), List.getElem?_take] at hv
      split at hv
      · exact hv
      · simp at hv
theorem Vw.reads_all {α : Type} {En : Enc α} {e : TypeId} {ao : Option Addr} {n cap : Nat} {l : List α} (he : EncTy P e En) (h : Vw En S (.slice ao n cap) l) : Reads P S En.size (.slice ao n cap) l.length (l.flatMap En.f) := by
  simpa using h.reads he (Nat.le_refl _)
theorem enc_one {α : Type} {En : Enc α} {e : TypeId} {l : List α} (he : EncTy P e En) (h : ∀ a ∈ l, En.ok a) : ∀ u ∈ l.flatMap En.f, u.oneCell' = true := by
  intro u hu
  obtain ⟨a, ha, hu⟩ := List.mem_flatMap.1 hu
  exact he.one a (h a ha) u hu

/-! ### Appends -/
theorem run_lenOf_slice {ao : Option Addr} {n cap : Nat} (w : World) : (Builtin.lenOf (.slice ao n cap)).run P w = .ok n w := by simp [Builtin.lenOf]

/-- append(s, y...) -/
theorem ow_appendL {α : Type} {En : Enc α} {d : Nat} {x y : Operand} {e bytes m cap2 : Nat} {ao2 : Option Addr} {sv : Value} {c : Hp} {l l2 : List α} {R : Hp → List Hp} {pos : String} {af : Array Edge} {g : Option (Nat × Bool)} {rest : List Oper} (hg : Env.guard E ops g = some true) (hd : Nat.blt d N = true)
    (hT : P.underlying T = some (.slice e)) (hU : P.underlying U = some (.slice e)) (he : Elem P e En.size bytes) (hen : EncTy P e En)
    (hx : Env.ev E x = some sv) (hy : Env.ev E y = some (.slice ao2 m cap2)) (hsl : Ls En e sv c l) (hs : Sel G c R) (hv : Vw En (St B w0 G) (.slice ao2 m cap2) l2) (h47 : (l.length + l2.length) * bytes ≤ 140737488355328) (h63 : l.length + l2.length ≤ 9223372036854775807)
    (h : ∀ ao' cap' c', Ls En e (.slice ao' (l ++ l2).length cap') c' (l ++ l2) → OW P ops Q B w0 N (R c') ((d, .slice ao' (l ++ l2).length cap') :: E) rest) :
    OW P ops Q B w0 N G E (⟨some d, .call { callee := .builtin .append, args := #[x, y], argTypes := #[T, U] }, ty, pos, af, g⟩ :: rest) := by
  have hn := hv.len
  subst hn
  refine ow_append hg hd hT hU he hx hy (run_lenOf_slice) hsl.sl hs (hv.reads_all hen) (enc_one hen hv.ok) h47 h63 fun v' c' h1 => ?_
  obtain ⟨ao', cap', rfl, _⟩ := h1.view
  have h2 : Ls En e (.slice ao' (l.length + l2.length) cap') c' (l ++ l2) := ⟨by simpa using h1, fun a ha => by
    rcases List.mem_append.1 ha with h | h
    · exact hsl.ok a h
    · exact hv.ok a h⟩
  have h3 := h ao' cap' c' (by simpa using h2)
  simpa using h3

/-- append(s, a): a lies in an array of its own -/
theorem ow_append1 {α : Type} {En : Enc α} {d : Nat} {x y : Operand} {e e' bytes b k : Nat} {fr : Nat × Nat} {sv : Value} {c : Hp} {l : List α} {a : α} {cs : List Value} {R : Hp → List Hp} {pos : String} {af : Array Edge} {g : Option (Nat × Bool)} {rest : List Oper} (hg : Env.guard E ops g = some true) (hd : Nat.blt d N = true)
    (hT : P.underlying T = some (.slice e)) (hU : P.underlying U = some (.slice e)) (he : Elem P e En.size bytes) (hen : EncTy P e En)
    (hx : Env.ev E x = some sv) (hy : Env.ev E y = some (.slice (some ⟨b, 0, none⟩) 1 k)) (hsl : Ls En e sv c l) (hs : Sel G c R) (hb : Sub [(b, .cells cs.toArray e' fr)] G) (hcs : cs = En.f a) (ha : En.ok a) (h47 : (l.length + 1) * bytes ≤ 140737488355328) (h63 : l.length + 1 ≤ 9223372036854775807)
    (h : ∀ ao' cap' c', Ls En e (.slice ao' (l ++ [a]).length cap') c' (l ++ [a]) → OW P ops Q B w0 N (R c') ((d, .slice ao' (l ++ [a]).length cap') :: E) rest) :
    OW P ops Q B w0 N G E (⟨some d, .call { callee := .builtin .append, args := #[x, y], argTypes := #[T, U] }, ty, pos, af, g⟩ :: rest) := by
  subst hcs
  have hl := hen.len a ha
  refine ow_append hg hd hT hU he hx hy (run_lenOf_slice) hsl.sl hs (ys := En.f a) (Reads.slice (by omega) fun i v hv => ?_) (hen.one a ha) h47 h63 fun v' c' h1 => ?_
  · rw [add_mk]
    exact Cell.sub hb (.head _) (by simpa using hv)
  obtain ⟨ao', cap', rfl, _⟩ := h1.view
  have h2 : Ls En e (.slice ao' (l.length + 1) cap') c' (l ++ [a]) := ⟨by simpa using h1, fun x hx => by
    rcases List.mem_append.1 hx with h | h
    · exact hsl.ok x h
    · simp at h; subst h; exact ha⟩
  have h3 := h ao' cap' c' (by simpa using h2)
  simpa using h3

/-! ### An element is written -/
theorem IsSl.set' {e : TypeId} {size : Nat} {ao : Option Addr} {n cap i : Nat} {c : Hp} {xs : List Value} (h : IsSl e size (.slice ao n cap) c n xs) (hi : i + 0 < n * size) (k : Nat) (hk : i + k ≤ n * size) {vs : List Value} (hv : vs.length = k) :
    ∃ obj obj', c = [(bOf ao, obj)] ∧ SetN obj (oOf ao + i) vs obj' ∧ IsSl e size (.slice ao n cap) [(bOf ao, obj')] n (xs.take i ++ (vs ++ xs.drop (i + k))) := by
  subst hv
  cases h with
  | nil => simp at hi
  | @row b n cap pre xs spare post hx hs hn =>
    have h2 : pre ++ (xs ++ (spare ++ post)) = (pre ++ xs.take i) ++ (((xs.drop i).take vs.length) ++ (xs.drop (i + vs.length) ++ (spare ++ post))) := by
      have h3 : xs.drop i = (xs.drop i).take vs.length ++ xs.drop (i + vs.length) := by
        rw [← List.drop_drop, List.take_append_drop]
      rw [List.append_assoc, ← List.append_assoc ((xs.drop i).take vs.length), ← h3, ← List.append_assoc (xs.take i), List.take_append_drop]
    have h4 := SetN.part (a := pre ++ xs.take i) (us := (xs.drop i).take vs.length) (vs := vs) (c := xs.drop (i + vs.length) ++ (spare ++ post)) (e := e) (off := pre.length + i) (by simp; omega) (by simp; omega)
    rw [← h2] at h4
    refine ⟨_, _, rfl, h4, ?_⟩
    have h5 : (pre ++ xs.take i) ++ (vs ++ (xs.drop (i + vs.length) ++ (spare ++ post))) = pre ++ ((xs.take i ++ (vs ++ xs.drop (i + vs.length))) ++ (spare ++ post)) := by simp
    rw [h5]
    exact IsSl.row (by simp; omega) hs hn

theorem Ls.set {α : Type} {En : Enc α} {e : TypeId} {ao : Option Addr} {n cap i : Nat} {c : Hp} {l : List α} {a : α} (he : EncTy P e En) (h : Ls En e (.slice ao n cap) c l) (hi : i < l.length) (ha : En.ok a) :
    ∃ obj obj', c = [(bOf ao, obj)] ∧ SetN obj (oOf ao + i * En.size) (En.f a) obj' ∧ Ls En e (.slice ao n cap) [(bOf ao, obj')] (l.set i a) := by
  have hn := h.len
  subst hn
  have hp := he.pos
  have h1 : (i + 1) * En.size ≤ l.length * En.size := Nat.mul_le_mul_right _ hi
  rw [Nat.succ_mul] at h1
  obtain ⟨obj, obj', e1, e2, e3⟩ := h.sl.set' (i := i * En.size) (by omega) En.size (by omega) (he.len a ha)
  refine ⟨obj, obj', e1, e2, ?_, fun x hx => ?_⟩
  · have hl : ∀ a ∈ l, (En.f a).length = En.size := fun a ha => he.len a (h.ok a ha)
    have h5 : i * En.size + En.size = (i + 1) * En.size := by rw [Nat.succ_mul]
    rw [h5, fm_take i hl, fm_drop (i + 1) hl] at e3
    rw [List.length_set, List.set_eq_take_append_cons_drop, if_pos hi]
    simpa using e3
  · rcases List.mem_or_eq_of_mem_set hx with h2 | h2
    · exact h.ok x h2
    · subst h2; exact ha

theorem ow_storeL {α : Type} {En : Enc α} {x y : Operand} {ao : Option Addr} {n cap i : Nat} {c : Hp} {l : List α} {a : α} {e : TypeId} {R : Hp → List Hp} {pos : String} {af : Array Edge} {g : Option (Nat × Bool)} {rest : List Oper} (hg : Env.guard E ops g = some true)
    (hx : Env.ev E x = some (.pointer (some ⟨bOf ao, oOf ao + i * En.size, none⟩))) (hy : Env.ev E y = some (En.val a)) (he : EncTy P e En) (hL : Ls En e (.slice ao n cap) c l) (hs : Sel G c R) (hi : i < l.length) (ha : En.ok a)
    (h : ∀ c', Ls En e (.slice ao n cap) c' (l.set i a) → OW P ops Q B w0 N (R c') E rest) : OW P ops Q B w0 N G E (⟨none, .store e x y, ty, pos, af, g⟩ :: rest) := by
  obtain ⟨obj, obj', rfl, h1, h2⟩ := hL.set he hi ha
  exact ow_store hg hx hy (he.cells a ha) (by rw [he.size, he.len a ha]) (he.one a ha) hs h1 (h _ h2)

theorem v_indexAddr_ls {α : Type} {En : Enc α} {x y : Operand} {k : IntKind} {m : Int} {i len cap e e' : Nat} {ao : Option Addr} {c : Hp} {l : List α} (hT : P.underlying T = some (.slice e)) (he : EncTy P e En) (hx : Env.ev E x = some (.slice ao len cap)) (hy : Env.ev E y = some (.int k m))
    (hL : Ls En e' (.slice ao len cap) c l) (hm : m = (i : Int)) (hi : i < l.length) : OpV P S N E (.indexAddr T x y) ty (.pointer (some ⟨bOf ao, oOf ao + i * En.size, none⟩)) :=
  v_indexAddr_vw (S' := St 0 default [c]) hT he hx hy (hL.vw Sub.here) hm hi

/-- a variable that holds an encoded value is written -/
theorem ow_storeE {α : Type} {En : Enc α} {x y : Operand} {b : Nat} {cs : List Value} {a : α} {e T' : TypeId} {R : Hp → List Hp} {pos : String} {af : Array Edge} {g : Option (Nat × Bool)} {rest : List Oper} (hg : Env.guard E ops g = some true) (he : EncTy P e En)
    (hx : Env.ev E x = some (.pointer (some ⟨b, 0, none⟩))) (hy : Env.ev E y = some (En.val a)) (hs : Sel G [(b, .cells cs.toArray T' (0, 0))] R) (hcs : cs.length = En.size) (ha : En.ok a)
    (h : OW P ops Q B w0 N (R [(b, .cells (En.f a).toArray T' (0, 0))]) E rest) : OW P ops Q B w0 N G E (⟨none, .store e x y, ty, pos, af, g⟩ :: rest) :=
  ow_store hg hx hy (he.cells a ha) (by rw [he.size, he.len a ha]) (he.one a ha) hs (SetN.all (by rw [he.len a ha, hcs])) h

theorem Var.atE {α : Type} {En : Enc α} {b : Nat} {a : α} {e T' : TypeId} {fr : Nat × Nat} {R : Hp → List Hp} (he : EncTy P e En) (hs : Sel G [(b, .cells (En.f a).toArray T' fr)] R) (ha : En.ok a) : Var P (St B w0 G) e ⟨b, 0, none⟩ (En.val a) :=
  he.var _ _ a ha fun i v hv => by
    rw [add_mk]
    exact Cell.sub hs.sub (.head _) (by simpa using hv)

/-- a field of an element is written -/
theorem ow_storeLf {α : Type} {En : Enc α} {x y : Operand} {ao : Option Addr} {n cap i k : Nat} {c : Hp} {l : List α} {a : α} {u : Value} {e : TypeId} {R : Hp → List Hp} {pos : String} {af : Array Edge} {g : Option (Nat × Bool)} {rest : List Oper} (hg : Env.guard E ops g = some true)
    (hx : Env.ev E x = some (.pointer (some ⟨bOf ao, oOf ao + i * En.size + k, none⟩))) (hy : Env.ev E y = some u) (hT : Scalar P T) (h1 : u.oneCell' = true) (he : EncTy P e En) (hL : Ls En e (.slice ao n cap) c l) (hs : Sel G c R) (hi : i < l.length) (hk : k < En.size) (ha : En.ok a) (hf : En.f a = (En.f l[i]).set k u)
    (h : ∀ c', Ls En e (.slice ao n cap) c' (l.set i a) → OW P ops Q B w0 N (R c') E rest) : OW P ops Q B w0 N G E (⟨none, .store T x y, ty, pos, af, g⟩ :: rest) := by
  have hn := hL.len
  subst hn
  have hl : ∀ a ∈ l, (En.f a).length = En.size := fun a ha => he.len a (hL.ok a ha)
  have hp : (i + 1) * En.size ≤ l.length * En.size := Nat.mul_le_mul_right _ hi
  rw [Nat.succ_mul] at hp
  obtain ⟨obj, obj', rfl, g1, g2⟩ := hL.sl.set' (i := i * En.size + k) (by omega) 1 (by omega) (vs := [u]) rfl
  have hfm := fm_len hl
  have g3 : (l.flatMap En.f).take (i * En.size + k) ++ ([u] ++ (l.flatMap En.f).drop (i * En.size + k + 1)) = (l.set i a).flatMap En.f := by
    have k1 : [u] ++ (l.flatMap En.f).drop (i * En.size + k + 1) = u :: (l.flatMap En.f).drop (i * En.size + k + 1) := rfl
    have k2 := (List.set_eq_take_append_cons_drop (l := l.flatMap En.f) (i := i * En.size + k) (a := u))
    rw [if_pos (by omega)] at k2
    rw [k1, ← k2]
    have k3 : l = l.take i ++ (l[i] :: l.drop (i + 1)) := by rw [List.getElem_cons_drop, List.take_append_drop]
    have k4 : ((l.take i).flatMap En.f).length = i * En.size := by
      rw [fm_len (fun a ha => hl a (List.mem_of_mem_take ha)), List.length_take, Nat.min_eq_left (by omega)]
    conv => rhs; rw [List.set_eq_take_append_cons_drop, if_pos hi]
    conv => lhs; rw [k3]
    rw [List.flatMap_append, List.flatMap_append, List.flatMap_cons, List.flatMap_cons, List.set_append_right _ _ (by omega), k4, Nat.add_sub_cancel_left, List.set_append_left _ _ (by rw [hl _ (List.getElem_mem hi)]; exact hk), hf]
  refine ow_store hg hx hy (vs := [u]) (by cases u <;> first | rfl | simp [Value.oneCell'] at h1) hT.size (by simpa using h1) hs (by rw [Nat.add_assoc]; exact g1) (h _ ⟨?_, fun z hz => ?_⟩)
  · rw [List.length_set, ← g3]
    exact g2
  · rcases List.mem_or_eq_of_mem_set hz with h2 | h2
    · exact hL.ok z h2
    · subst h2; exact ha

/-! ### clear, and copy, within a slice -/
def Zone (P : Program) (e : TypeId) : Prop := (match (P.info? e).bind (·.zero) with | some z => z.cells.toList.all (·.oneCell') | none => true) = true
theorem Zone.all {e : TypeId} (h : Zone P e) {i : TypeInfo} {z : Value} (hi : P.info? e = some i) (hz : i.zero = some z) : ∀ u ∈ z.cells.toList, u.oneCell' = true := by
  unfold Zone at h
  rw [hi] at h
  simp only [Option.bind_some, hz] at h
  exact List.all_eq_true.1 h
theorem ow_clear {x : Operand} {e size bytes n cap m k : Nat} {ao : Option Addr} {c : Hp} {xs : List Value} {R : Hp → List Hp} {pos : String} {af : Array Edge} {g : Option (Nat × Bool)} {rest : List Oper} (hg : Env.guard E ops g = some true) 
    (hT : P.underlying T = some (.slice e)) (he : Elem P e size bytes) (hzo : Zone P e)
    (hx : Env.ev E x = some (.slice (cutA ao cap n size) m k)) (hm : m + n ≤ cap) (hsl : IsSl e size (.slice ao n cap) c n xs) (hs : Sel G c R)
    (h : ∀ c', IsSl e size (.slice ao n cap) c' n xs → OW P ops Q B w0 N (R c') E rest) :
    OW P ops Q B w0 N G E (⟨none, .call { callee := .builtin .clear, args := #[x], argTypes := #[T] }, ty, pos, af, g⟩ :: rest) := fun a w ha hw => by
  unfold wpList
  rw [if_pos (ha.guard (o := ⟨none, .call { callee := .builtin .clear, args := #[x], argTypes := #[T] }, ty, pos, af, g⟩) hg)]
  refine .inl ?_
  unfold Oper.wp
  obtain ⟨i, hi, his, hib, z, hz, hzs⟩ := he.info
  by_cases h0 : m = 0
  · subst h0
    have h3 : (execOp a.eval ⟨none, .call { callee := .builtin .clear, args := #[x], argTypes := #[T] }, ty, pos, af, g⟩).run P w = .ok (.value (.tuple #[])) w := by
      cases hc : cutA ao cap n size <;> simp [execOp, resolve, ha.ev hx, hc, invoke, builtin, Builtin.clear_, run_underlying hT]
    rw [h3]
    exact h c hsl _ _ ha (by rw [hs.eq]; exact hw)
  · cases hsl with
    | nil => omega
    | @row b n cap pre xs spare post hx' hsp hn =>
      rw [cutA_some (by omega)] at hx
      have hb := hw.read hs (List.Mem.head _)
      have hzl : ((Builtin.zeroCells z.cells m).toList).length = m * size := by simp [zeroCells_size, hzs]
      have hfit : m * size ≤ (cap - n) * size := Nat.mul_le_mul_right _ (by omega)
      have h1 : ∀ u ∈ (Builtin.zeroCells z.cells m).toList, u.oneCell' = true := by
        intro u hu
        simp only [Builtin.zeroCells, Array.toList_map, List.mem_map] at hu
        obtain ⟨j, hj, rfl⟩ := hu
        have hz0 : 0 < z.cells.size := by
          simp only [Array.toList_range, List.mem_range] at hj
          rcases Nat.eq_zero_or_pos z.cells.size with h | h
          · rw [h] at hj; simp at hj
          · exact h
        have hlt := Nat.mod_lt j hz0
        rw [getElem!_pos z.cells _ hlt]
        exact hzo.all hi hz _ (by simp)
      have h2 := run_storeCells_at P b (pre.length + n * size) e (Builtin.zeroCells z.cells m).toList 0 (pre ++ (xs ++ (spare ++ post))).toArray w hb (by simp [hzl] ; omega) h1
      have h2' : (storeCells ⟨b, pre.length + n * size, none⟩ (Builtin.zeroCells z.cells m).toList).run P w = .ok () (w.setRow b (splice (pre ++ (xs ++ (spare ++ post))) (pre.length + n * size) (Builtin.zeroCells z.cells m).toList).toArray) := by simpa [splice] using h2
      have hm' : ∃ k, m = k + 1 := ⟨m - 1, by omega⟩
      obtain ⟨k', rfl⟩ := hm'
      have h3 : (execOp a.eval ⟨none, .call { callee := .builtin .clear, args := #[x], argTypes := #[T] }, ty, pos, af, g⟩).run P w = .ok (.value (.tuple #[])) (w.setRow b (splice (pre ++ (xs ++ (spare ++ post))) (pre.length + n * size) (Builtin.zeroCells z.cells (k' + 1)).toList).toArray) := by
        simp [execOp, resolve, ha.ev hx, invoke, builtin, Builtin.clear_, run_underlying hT, zeroValue, typeInfo, hi, hz, h2']
      rw [h3]
      have hspl : splice (pre ++ (xs ++ (spare ++ post))) (pre.length + n * size) (Builtin.zeroCells z.cells (k' + 1)).toList = pre ++ (xs ++ (((Builtin.zeroCells z.cells (k' + 1)).toList ++ spare.drop ((k' + 1) * size)) ++ post)) := by
        simp only [splice, ← hx', hzl]
        have e8 : pre.length + xs.length = (pre ++ xs).length := by simp
        rw [e8, ← List.append_assoc pre xs (spare ++ post), List.take_left, List.drop_append, List.drop_eq_nil_of_le (by omega), Nat.add_sub_cancel_left, List.drop_append_of_le_length (by omega)]
        simp
      have hst := hw.setRow (cs' := (splice (pre ++ (xs ++ (spare ++ post))) (pre.length + n * size) (Builtin.zeroCells z.cells (k' + 1)).toList).toArray) hs
      rw [hspl] at hst ⊢
      refine h _ (IsSl.row hx' ?_ hn) _ _ ha hst
      simp only [List.length_append, hzl, List.length_drop, hsp]
      omega

/-- copy(s[k:], y) -/
theorem ow_copyL {d : Nat} {x y : Operand} {e size n cap k m sLen sCap q : Nat} {ao so : Option Addr} {c : Hp} {xs vs : List Value} {R : Hp → List Hp} {tys : Array TypeId} {pos : String} {af : Array Edge} {g : Option (Nat × Bool)} {rest : List Oper} (hg : Env.guard E ops g = some true) (hd : Nat.blt d N = true)
    (ht : tys[0]? = some T) (hT : P.underlying T = some (.slice e)) (he : (P.info? e).map (·.size) = some size)
    (hx : Env.ev E x = some (.slice (cutA ao cap k size) (n - k) q)) (hy : Env.ev E y = some (.slice so sLen sCap)) (hm : Nat.min sLen (n - k) = m) (hk : k ≤ n) (hsl : IsSl e size (.slice ao n cap) c n xs)
    (hr : Reads P (St B w0 G) size (.slice so sLen sCap) m vs) (h1 : ∀ u ∈ vs, u.oneCell' = true) (hs : Sel G c R)
    (h : ∀ c', IsSl e size (.slice ao n cap) c' n (xs.take (k * size) ++ (vs ++ xs.drop (k * size + m * size))) → OW P ops Q B w0 N (R c') ((d, .int .i64 m) :: E) rest) : OW P ops Q B w0 N G E (⟨some d, .call { callee := .builtin .copy, args := #[x, y], argTypes := tys }, ty, pos, af, g⟩ :: rest) := by
  by_cases h0 : m = 0
  · subst h0
    have hvs : vs = [] := by have := hr.len; simp at this; exact this
    subst hvs
    have h2 := h c (by simpa using hsl)
    intro a w ha hw
    unfold wpList
    rw [if_pos (ha.guard (o := ⟨some d, .call { callee := .builtin .copy, args := #[x, y], argTypes := tys }, ty, pos, af, g⟩) hg)]
    refine .inl ?_
    unfold Oper.wp
    have h3 : (execOp a.eval ⟨some d, .call { callee := .builtin .copy, args := #[x, y], argTypes := tys }, ty, pos, af, g⟩).run P w = .ok (.value (.int .i64 0)) w := by
      have h4 := hr.run w hw
      cases hc : cutA ao cap k size <;> simp [execOp, resolve, ha.ev hx, hc, ha.ev hy, invoke, builtin, Builtin.copy_, ht, run_underlying hT, Builtin.lenOf, run_sizeOf he w, h4, goInt, hm, storeCells]
    rw [h3]
    exact h2 _ _ (ha.put (by simpa using hd) _) (by rw [hs.eq]; exact hw)
  · have hmn : m ≤ n - k := by rw [← hm]; exact Nat.min_le_right _ _
    have hkm : (k + m) * size ≤ n * size := Nat.mul_le_mul_right _ (by omega)
    rw [Nat.add_mul] at hkm
    by_cases hz : size = 0
    · subst hz
      have hvs : vs = [] := by have := hr.len; simp at this; exact this
      subst hvs
      have hxs := hsl.length
      have h2 := h c (by simpa using hsl)
      intro a w ha hw
      unfold wpList
      rw [if_pos (ha.guard (o := ⟨some d, .call { callee := .builtin .copy, args := #[x, y], argTypes := tys }, ty, pos, af, g⟩) hg)]
      refine .inl ?_
      unfold Oper.wp
      have h3 : (execOp a.eval ⟨some d, .call { callee := .builtin .copy, args := #[x, y], argTypes := tys }, ty, pos, af, g⟩).run P w = .ok (.value (.int .i64 m)) w := by
        have h4 := hr.run w hw
        cases hc : cutA ao cap k 0 <;> simp [execOp, resolve, ha.ev hx, hc, ha.ev hy, invoke, builtin, Builtin.copy_, ht, run_underlying hT, Builtin.lenOf, run_sizeOf he w, h4, goInt, hm, storeCells]
      rw [h3]
      exact h2 _ _ (ha.put (by simpa using hd) _) (by rw [hs.eq]; exact hw)
    · have hpos : 0 < m * size := Nat.mul_pos (by omega) (by omega)
      obtain ⟨obj, obj', rfl, e2, e3⟩ := hsl.set' (i := k * size) (by omega) (m * size) (by omega) hr.len
      obtain ⟨e4, _⟩ := hsl.reads (by omega)
      obtain ⟨_, _, hv, hcap⟩ := hsl.view
      injection hv with _ _ hcc
      subst hcc
      have hcut : cutA ao cap k size = some ⟨bOf ao, oOf ao + k * size, none⟩ := by
        rw [e4, cutA_some (by omega)]; simp
      rw [hcut] at hx
      exact ow_copy hg hd ht hT he hx hy hm hr h1 hs e2 (h _ e3)

/-! ### Bytes and strings -/
def enB : Enc UInt8 := ⟨fun b => [.int .u8 b.toNat], 1, fun b => .int .u8 b.toNat, fun _ => True⟩
theorem enB_ty {e : TypeId} (hT : Scalar P e) : EncTy P e enB := EncTy.scalar hT rfl (fun _ => rfl) (fun _ => rfl)

theorem fm_enB (l : List UInt8) : l.flatMap enB.f = l.map fun b => Value.int .u8 b.toNat := by
  induction l with
  | nil => rfl
  | cons a l ih => simp [enB] at *; exact ih

/-- string(b) -/
theorem v_str {x : Operand} {e : TypeId} {v : Value} {l : List UInt8} (hT : P.underlying T = some .string) (hU : P.underlying U = some (.slice e)) (he : P.underlying e = some (.int .u8)) (hx : Env.ev E x = some v) (hv : Vw enB S v l) : OpV P S N E (.convert U T x) ty (.string ⟨l.toArray⟩) := fun a w ha hw => by
  obtain ⟨ao, cap, rfl, hc⟩ := hv.view
  by_cases h0 : l = []
  · subst h0
    have : (convert U T (.slice ao ([] : List UInt8).length cap)).run P w = .ok (.string ⟨([] : List UInt8).toArray⟩) w := by
      cases ao with
      | none => simp [convert, run_underlying hT, run_underlying hU, run_underlying he, Conv.bytesToString]; rfl
      | some p => simp [convert, run_underlying hT, run_underlying hU, run_underlying he, Conv.bytesToString, loadCells]; rfl
    simp only [execOp, Sem.run_bind, ha.ev hx, this]
    exact ⟨rfl, rfl⟩
  · have hl : 0 < l.length := List.length_pos_iff.2 h0
    obtain ⟨k1, k2⟩ := hv.get _ _ _ rfl hl
    have h1 := run_convert_bytes_back w U T e ⟨bOf ao, oOf ao, none⟩ cap l hU he hT fun j hj => by
      rw [add_mk]
      refine k2 j _ ?_ w hw
      rw [fm_enB]
      simp [hj]
    rw [← k1] at h1
    simp only [execOp, Sem.run_bind, ha.ev hx, h1]
    exact ⟨rfl, rfl⟩

/-- what a chunk lets read -/
def Rd {α : Type} (En : Enc α) (v : Value) (c : Hp) (l : List α) : Prop := ∀ B w0 G, Sub c G → Vw En (St B w0 G) v l
theorem Ls.rd {α : Type} {En : Enc α} {e : TypeId} {v : Value} {c : Hp} {l : List α} (h : Ls En e v c l) : Rd En v c l := fun _ _ _ hs => h.vw hs
theorem Rd.vw {α : Type} {En : Enc α} {v : Value} {c : Hp} {l : List α} (h : Rd En v c l) (hs : Sub c G) : Vw En (St B w0 G) v l := h _ _ _ hs

/-- []byte(s) -/
theorem ow_bytes {d : Nat} {x : Operand} {e : TypeId} {s : ByteArray} {pos : String} {af : Array Edge} {g : Option (Nat × Bool)} {rest : List Oper} (hg : Env.guard E ops g = some true) (hd : Nat.blt d N = true)
    (hT : P.underlying T = some (.slice e)) (hU : P.underlying U = some .string) (he : P.underlying e = some (.int .u8)) (hx : Env.ev E x = some (.string s))
    (h : ∀ ao cap c, Rd enB (.slice ao s.size cap) c s.data.toList → OW P ops Q B w0 N (c :: G) ((d, .slice ao s.size cap) :: E) rest) :
    OW P ops Q B w0 N G E (⟨some d, .convert U T x, ty, pos, af, g⟩ :: rest) := fun a w ha hw => by
  unfold wpList
  rw [if_pos (ha.guard (o := ⟨some d, .convert U T x, ty, pos, af, g⟩) hg)]
  refine .inl ?_
  unfold Oper.wp
  have h1 := run_bytes_of_string (P := P) w U T e s hU hT he
  have h2 : (execOp a.eval ⟨some d, .convert U T x, ty, pos, af, g⟩).run P w = .ok (.value (.slice (some ⟨w.heap.size, 0, none⟩) s.size (grownCap w s.size 0 e)))
      (w.drew.alloc (.cells (bytesRow s (grownCap w s.size 0 e)) e ((bytesRow s (grownCap w s.size 0 e)).size, (bytesRow s (grownCap w s.size 0 e)).size + 1))) := by
    simp [execOp, ha.ev hx, h1]
  rw [h2]
  refine h (some ⟨w.heap.size, 0, none⟩) (grownCap w s.size 0 e) [(w.heap.size, .cells (bytesRow s (grownCap w s.size 0 e)) e ((bytesRow s (grownCap w s.size 0 e)).size, (bytesRow s (grownCap w s.size 0 e)).size + 1))] (fun B w0 G hs => ?_) _ _ (ha.put (by simpa using hd) _) (hw.drew.new _)
  refine ⟨⟨some ⟨w.heap.size, 0, none⟩, grownCap w s.size 0 e, by simp, ?_⟩, fun _ _ => trivial, fun ao n cap hv hl => ?_⟩
  · have : s.size ≤ grownCap w s.size 0 e := Nat.le_add_right _ _
    simpa using this
  · injection hv with g1 g2 g3
    subst g1
    refine ⟨rfl, fun i u hu => ?_⟩
    rw [fm_enB] at hu
    have hi : i < s.data.size := by
      have := (List.getElem?_eq_some_iff.1 hu).1
      simpa using this
    have hu2 : u = .int .u8 (s.data[i].toNat : Int) := by
      have h5 : (List.map (fun b : UInt8 => Value.int .u8 b.toNat) s.data.toList)[i]? = some (.int .u8 (s.data[i].toNat : Int)) := by rw [List.getElem?_map, Array.getElem?_toList, Array.getElem?_eq_getElem hi]; rfl
      rw [h5] at hu
      exact (Option.some.inj hu).symm
    subst hu2
    simp only [bOf_some, oOf_some, Nat.zero_add]
    exact Cell.sub hs (.head _) (bytesRow_at s _ i hi)

theorem ba_beq (a b : ByteArray) : (a.toList == b.toList) = decide (a = b) := by
  rw [← beq_toListBytes]
  obtain ⟨x⟩ := a
  obtain ⟨y⟩ := b
  show (x == y) = _
  by_cases h : x = y
  · subst h; simp
  · simp [h]
theorem v_eqlS {x y : Operand} {s t : ByteArray} (hx : Env.ev E x = some (.string s)) (hy : Env.ev E y = some (.string t)) : OpV P S N E (.binOp .eql T x y U) ty (.bool (decide (s = t))) := fun a w ha _ => by
  have h := ba_beq s t
  simp [execOp, ha.ev hx, ha.ev hy, eqGuard, binOp, Op.stringOp, h, Oper.quietUpon]
theorem v_neqS {x y : Operand} {s t : ByteArray} (hx : Env.ev E x = some (.string s)) (hy : Env.ev E y = some (.string t)) : OpV P S N E (.binOp .neq T x y U) ty (.bool (decide (s ≠ t))) := fun a w ha _ => by
  have h := ba_beq s t
  simp [execOp, ha.ev hx, ha.ev hy, eqGuard, binOp, Op.stringOp, h, Oper.quietUpon]
theorem v_addS {x y : Operand} {s t : ByteArray} (hx : Env.ev E x = some (.string s)) (hy : Env.ev E y = some (.string t)) (hl : s.size + t.size ≤ 9223372036854775807) : OpV P S N E (.binOp .add T x y U) ty (.string (s ++ t)) := fun a w ha _ => by
  have h : ¬ (((s.size + t.size : Nat) : Int) > IntKind.i64.max) := by
    have : IntKind.i64.max = 9223372036854775807 := by decide
    omega
  simp only [execOp, ha.ev hx, ha.ev hy, eqGuard, binOp, Op.stringOp, if_neg h, Sem.run_bind, Sem.run_pure, Result.andThen_ok]
  exact ⟨rfl, rfl⟩

/-! ### Calls -/
/-- a contract on one chunk, whatever others there are -/
theorem Fn.sel {f : FuncId} {args : Array Value} {c : Hp} {Rr : Hp → List Hp} {τ : Type} {V : τ → Value} {Pd : τ → Prop} {Γ : τ → Hp} {Nw : τ → List Hp} (hs : Sel G c Rr)
    (h : ∀ F, (∀ x, (Rr x).Perm (x :: F)) → (∀ w, St B w0 (c :: F) w → St B w0 G w) → Fn P f args B w0 (c :: F) fun u G' => ∃ x, u = V x ∧ Pd x ∧ Cov (Γ x :: (Nw x ++ F)) G') :
    Fn P f args B w0 G fun u G' => ∃ x : τ, u = V x ∧ Pd x ∧ G' = Nw x ++ Rr (Γ x) := by
  obtain ⟨F, h1, h2⟩ := hs.perm
  refine Fn.pre h1 ((h F h2 fun w hw => hw.perm h1.symm).weak ?_)
  rintro v G' ⟨x, hu, hp, hc⟩
  refine ⟨_, ⟨x, hu, hp, rfl⟩, fun w hw => (hw.cov hc).perm ?_⟩
  have h4 : (Γ x :: (Nw x ++ F)).Perm (Nw x ++ (Γ x :: F)) := (List.perm_middle (a := Γ x) (l₁ := Nw x) (l₂ := F)).symm
  exact h4.trans (List.Perm.append_left _ (h2 (Γ x)).symm)
theorem Fn.sel0 {f : FuncId} {args : Array Value} {c : Hp} {Rr : Hp → List Hp} {τ : Type} {V : τ → Value} {Pd : τ → Prop} {Γ : τ → Hp} (hs : Sel G c Rr)
    (h : ∀ F, (∀ x, (Rr x).Perm (x :: F)) → (∀ w, St B w0 (c :: F) w → St B w0 G w) → Fn P f args B w0 (c :: F) fun u G' => ∃ x, u = V x ∧ Pd x ∧ Cov (Γ x :: F) G') :
    Fn P f args B w0 G fun u G' => ∃ x : τ, u = V x ∧ Pd x ∧ G' = Rr (Γ x) := Fn.sel (Nw := fun _ => []) hs h
/-- the value is known -/
theorem Fn.selv {f : FuncId} {args : Array Value} {c c' : Hp} {v : Value} {Rr : Hp → List Hp} (hs : Sel G c Rr)
    (h : ∀ F, (∀ x, (Rr x).Perm (x :: F)) → (∀ w, St B w0 (c :: F) w → St B w0 G w) → Fn P f args B w0 (c :: F) fun u G' => u = v ∧ Cov (c' :: F) G') :
    Fn P f args B w0 G fun u G' => u = v ∧ G' = Rr c' := by
  refine (Fn.sel0 (τ := Unit) (V := fun _ => v) (Pd := fun _ => True) (Γ := fun _ => c') hs fun F h1 h2 => (h F h1 h2).mono ?_).mono ?_
  · rintro u G' ⟨rfl, hc⟩; exact ⟨(), rfl, trivial, hc⟩
  · rintro u G' ⟨_, rfl, _, rfl⟩; exact ⟨rfl, rfl⟩
/-- it changes nothing, and may lay new chunks -/
theorem Fn.new {f : FuncId} {args : Array Value} {τ : Type} {V : τ → Value} {Pd : τ → Prop} {Nw : τ → List Hp}
    (h : Fn P f args B w0 G fun u G' => ∃ x, u = V x ∧ Pd x ∧ Cov (Nw x ++ G) G') : Fn P f args B w0 G fun u G' => ∃ x : τ, u = V x ∧ Pd x ∧ G' = Nw x ++ G :=
  h.weak fun v G' ⟨x, hu, hp, hc⟩ => ⟨_, ⟨x, hu, hp, rfl⟩, fun w hw => hw.cov hc⟩
theorem Fn.pure {f : FuncId} {args : Array Value} {v : Value} (h : Fn P f args B w0 G fun u G' => u = v ∧ Cov G G') : Fn P f args B w0 G fun u G' => u = v ∧ G' = G :=
  h.weak fun _ G' ⟨hu, hc⟩ => ⟨G, ⟨hu, rfl⟩, fun w hw => hw.cov hc⟩

end Go.Sl
