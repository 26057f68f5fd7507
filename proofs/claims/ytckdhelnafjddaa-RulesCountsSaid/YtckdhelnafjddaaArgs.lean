/- How a law's arguments lie in memory, and how a walk that writes nothing old proves the law's row. Conditions: none; nothing here speaks of a given program. -/
import Derived.Test.YtckdhelnafjddaaRegion
import Derived.ProofKit
import Derived.OpenShut
import Derived.ShutString
import Derived.ChangeOld
namespace Go.Sl
set_option linter.unusedVariables false
set_option linter.unusedSimpArgs false
open Go.RowKit Go

/-- old memory: element i of a slice is these cells -/
structure OldSl (B : Nat) (w0 : World) (size : Nat) (ao : Option Addr) (len : Nat) (el : Nat → List Value) : Prop where
  get : ∀ i, i < len → ∃ b o, ao = some ⟨b, o, none⟩ ∧ b < B ∧ ∀ j v, (el i)[j]? = some v → w0.cell? ⟨b, o + i * size + j, none⟩ = some v

section
variable {H : Type} {enc : TypeId × Value → H} {P : Program} {w : World} {t e : TypeId} {fuel : Nat}

theorem cells?_get {a : Addr} {n : Nat} {cs : List Value} (h : w.cells? 0 a n = some cs) : cs.length = n ∧ ∀ j v, cs[j]? = some v → w.cell? (a.add j) = some v := by
  unfold World.cells? at h
  rw [if_pos (Nat.zero_le _)] at h
  have key : ∀ (l : List Nat) (cs : List Value), l.mapM (fun i => w.cell? (a.add i)) = some cs → cs.length = l.length ∧ ∀ (j : Nat) (v : Value), cs[j]? = some v → ∃ i : Nat, l[j]? = some i ∧ w.cell? (a.add i) = some v := by
    intro l
    induction l with
    | nil => intro cs h; simp at h; subst h; simp
    | cons x l ih =>
      intro cs h
      rw [List.mapM_cons] at h
      cases h1 : w.cell? (a.add x) with
      | none => rw [h1] at h; simp at h
      | some u =>
        cases h2 : l.mapM (fun i => w.cell? (a.add i)) with
        | none => rw [h1, h2] at h; simp at h
        | some us =>
          rw [h1, h2] at h
          simp at h
          subst h
          obtain ⟨h3, h4⟩ := ih us h2
          refine ⟨by simp [h3], fun j v hj => ?_⟩
          cases j with
          | zero => simp at hj; subst hj; exact ⟨x, rfl, h1⟩
          | succ j => simp at hj; obtain ⟨i, hi, hc⟩ := h4 j v hj; exact ⟨i, by simpa using hi, hc⟩
  obtain ⟨h1, h2⟩ := key _ _ h
  refine ⟨by simpa using h1, fun j v hj => ?_⟩
  obtain ⟨i, hi, hc⟩ := h2 j v hj
  have : i = j := by
    rw [List.getElem?_range] at hi
    · simpa using hi.symm
    · have := (List.getElem?_eq_some_iff.1 hi).1
      simpa using this
  subst this
  exact hc

theorem mapM_get {α β : Type} {f : α → Option β} : ∀ {l : List α} {ys : List β}, l.mapM f = some ys → ∀ (i : Nat) (x : α), l[i]? = some x → ∃ y, f x = some y
  | [], _, _, i, x, h => by simp at h
  | a :: l, ys, hm, i, x, h => by
    rw [List.mapM_cons] at hm
    cases h1 : f a with
    | none => rw [h1] at hm; simp at hm
    | some b =>
      cases h2 : l.mapM f with
      | none => rw [h1, h2] at hm; simp at hm
      | some bs =>
        cases i with
        | zero => simp at h; subst h; exact ⟨b, h1⟩
        | succ i => simp at h; exact mapM_get h2 i x h

theorem trod_slice {ao : Option Addr} {len cap : Nat} {x : DataW H × List MemPlace} (ht : P.underlying t = some (.slice e)) (hc : 0 < P.cellsOf e)
    (h : DataW.trod enc P w 0 (fun _ => true) true fuel t [.slice ao len cap] = some x) :
    len ≤ cap ∧ cap ≤ maxLen ∧ ∀ i, i < len → ∃ b o cs y fuel', ao = some ⟨b, o, none⟩ ∧ b < w.heap.size ∧ cs.length = P.cellsOf e ∧ (∀ j v, cs[j]? = some v → w.cell? ⟨b, o + i * P.cellsOf e + j, none⟩ = some v) ∧
      DataW.trod enc P w 0 (fun _ => true) true fuel' e cs = some y := by
  cases fuel with
  | zero => simp [DataW.trod] at h
  | succ fuel =>
    cases ao with
    | none =>
      cases len with
      | zero =>
        cases cap with
        | zero => exact ⟨Nat.le_refl _, Nat.zero_le _, fun i hi => by omega⟩
        | succ c => simp [DataW.trod, ht] at h
      | succ n => simp [DataW.trod, ht] at h
    | some a =>
      simp only [DataW.trod, ht] at h
      split at h
      · rename_i hb
        refine ⟨hb.2.1, hb.2.2, fun i hi => ?_⟩
        rw [Option.bind_eq_some_iff] at h
        obtain ⟨elems, hel, _⟩ := h
        obtain ⟨y, hy⟩ := mapM_get hel i i (by rw [List.getElem?_range hi])
        rw [Option.bind_eq_some_iff] at hy
        obtain ⟨cs, hcs, htr⟩ := hy
        obtain ⟨h1, h2⟩ := cells?_get hcs
        have h0 : ∃ v, cs[0]? = some v := ⟨cs[0]'(by omega), by simp⟩
        obtain ⟨v0, hv0⟩ := h0
        have hc0 := h2 0 v0 hv0
        obtain ⟨b, o, spot⟩ := a
        have hadd : ∀ n, ((⟨b, o, spot⟩ : Addr).add (i * P.cellsOf e)).add n = (⟨b, o, spot⟩ : Addr).add (i * P.cellsOf e + n) := by
          intro n
          unfold Addr.add
          by_cases hz : i * P.cellsOf e = 0
          · simp [hz]
          · have : ¬ i * P.cellsOf e + n = 0 := by omega
            simp only [hz, if_false, this]
            split
            · rename_i hn; subst hn; rfl
            · simp
        have hspot : spot = none := by
          have := mapM_get hel 0 0 (by rw [List.getElem?_range (by omega)])
          obtain ⟨y0, hy0⟩ := this
          rw [Option.bind_eq_some_iff] at hy0
          obtain ⟨cs0, hcs0, _⟩ := hy0
          obtain ⟨g1, g2⟩ := cells?_get hcs0
          have := g2 0 (cs0[0]'(by omega)) (by simp)
          have := World.cell?_spot this
          simpa [Addr.add] using this
        subst hspot
        refine ⟨b, o, cs, y, fuel, rfl, ?_, h1, fun j v hj => ?_, htr⟩
        · have := World.block_lt_of_cell? w _ hc0
          rw [add_mk, add_mk] at this
          exact this
        · have := h2 j v hj
          rw [hadd, add_mk] at this
          rw [Nat.add_assoc]
          exact this
      · simp at h

theorem OldSl.var1 {B : Nat} {w0 : World} {ao : Option Addr} {n : Nat} {el : Nat → List Value} {T : TypeId} (h : OldSl B w0 1 ao n el) (hT : Scalar P T) {i : Nat} {v : Value} (hi : i < n) (he : el i = [v]) :
    ∃ b o, ao = some ⟨b, o, none⟩ ∧ ∀ G, Var P (St B w0 G) T ⟨b, o + i * 1, none⟩ v := by
  obtain ⟨b, o, h1, h2, h3⟩ := h.get i hi
  exact ⟨b, o, h1, fun G => Var.old1 hT h2 (h3 0 v (by rw [he]; rfl))⟩
theorem OldSl.varN {B : Nat} {w0 : World} {ao : Option Addr} {n size : Nat} {el : Nat → List Value} {T : TypeId} (h : OldSl B w0 size ao n el) (hT : Agg P T size) {i : Nat} (hi : i < n) (hl : (el i).length = size) :
    ∃ b o, ao = some ⟨b, o, none⟩ ∧ ∀ G, Var P (St B w0 G) T ⟨b, o + i * size, none⟩ (.agg (el i).toArray) := by
  obtain ⟨b, o, h1, h2, h3⟩ := h.get i hi
  exact ⟨b, o, h1, fun G => Var.oldN hT h2 hl h3⟩

/-- every element is of a form -/
theorem oldSl {α : Type} {ao : Option Addr} {len cap size : Nat} {x : DataW H × List MemPlace} (ht : P.underlying t = some (.slice e)) (hsz : P.cellsOf e = size) (hc : 0 < size)
    (h : DataW.trod enc P w 0 (fun _ => true) true fuel t [.slice ao len cap] = some x) (f : α → List Value) (Q : α → Prop) [Inhabited α]
    (hel : ∀ fuel cs y, DataW.trod enc P w 0 (fun _ => true) true fuel e cs = some y → ∃ A, cs = f A ∧ Q A) :
    len ≤ cap ∧ cap ≤ maxLen ∧ ∃ F : Nat → α, (∀ i, i < len → Q (F i)) ∧ OldSl w.heap.size w size ao len (fun i => f (F i)) := by
  subst hsz
  obtain ⟨h1, h2, h3⟩ := trod_slice ht hc h
  have h4 : ∀ i, ∃ A : α, i < len → Q A ∧ ∃ b o, ao = some ⟨b, o, none⟩ ∧ b < w.heap.size ∧ ∀ j v, (f A)[j]? = some v → w.cell? ⟨b, o + i * P.cellsOf e + j, none⟩ = some v := by
    intro i
    by_cases hi : i < len
    · obtain ⟨b, o, cs, y, fuel', e1, e2, _, e4, e5⟩ := h3 i hi
      obtain ⟨A, rfl, hQ⟩ := hel fuel' cs y e5
      exact ⟨A, fun _ => ⟨hQ, b, o, e1, e2, e4⟩⟩
    · exact ⟨default, fun hi' => absurd hi' hi⟩
  refine ⟨h1, h2, fun i => (h4 i).choose, fun i hi => ((h4 i).choose_spec hi).1, ⟨fun i hi => ((h4 i).choose_spec hi).2⟩⟩

theorem form_int {k : IntKind} {cs : List Value} {y : DataW H × List MemPlace} (ht : P.underlying t = some (.int k)) (h : DataW.trod enc P w 0 (fun _ => true) true fuel t cs = some y) : ∃ n : Int, cs = [.int k n] ∧ (Lit.int k n).wf = true := by
  obtain ⟨n, h1, _, h2⟩ := DataW.trod_int ht h
  exact ⟨n, h1, h2⟩
theorem form_bool {cs : List Value} {y : DataW H × List MemPlace} (ht : P.underlying t = some .bool) (h : DataW.trod enc P w 0 (fun _ => true) true fuel t cs = some y) : ∃ b : Bool, cs = [.bool b] := by
  obtain ⟨n, h1, _⟩ := DataW.trod_bool ht h
  exact ⟨n, h1⟩

/-- an array of numbers -/
theorem form_ints {n : Nat} {k : IntKind} {cs : List Value} {y : DataW H × List MemPlace} (ht : P.underlying t = some (.array n e)) (he : P.underlying e = some (.int k)) (hs : P.cellsOf e = 1) (hn : P.cellsOf t = n)
    (h : DataW.trod enc P w 0 (fun _ => true) true fuel t cs = some y) : ∃ l : List Int, cs = l.map (Value.int k) ∧ l.length = n ∧ ∀ x ∈ l, (Lit.int k x).wf = true := by
  cases fuel with
  | zero => simp [DataW.trod] at h
  | succ fuel =>
    have h' : (if cs.length = P.cellsOf t then ((List.range n).mapM fun i => DataW.trod enc P w 0 (fun _ => true) true fuel e ((cs.drop (i * P.cellsOf e)).take (P.cellsOf e))).map fun xs => ((.agg (xs.map (·.1)) : DataW H), xs.flatMap (·.2)) else none) = some y := by
      rw [← h]
      cases cs <;> simp only [DataW.trod, ht]
    split at h'
    · rename_i hl
      rw [Option.map_eq_some_iff] at h'
      obtain ⟨xs, hx, _⟩ := h'
      rw [hn] at hl
      have h1 : ∀ i, i < n → ∃ m : Int, cs[i]? = some (.int k m) ∧ (Lit.int k m).wf = true := by
        intro i hi
        obtain ⟨y, hy⟩ := mapM_get hx i i (by rw [List.getElem?_range hi])
        rw [hs] at hy
        obtain ⟨m, hm, hw⟩ := form_int he hy
        refine ⟨m, ?_, hw⟩
        rw [Nat.mul_one] at hm
        have : ((cs.drop i).take 1)[0]? = some (.int k m) := by rw [hm]; rfl
        simpa [List.getElem?_take] using this
      refine ⟨cs.map (fun v => match v with | .int _ m => m | _ => 0), ?_, by simp [hl], ?_⟩
      · apply List.ext_getElem?
        intro i
        by_cases hi : i < n
        · obtain ⟨m, hm, _⟩ := h1 i hi
          simp [hm]
        · rw [List.getElem?_eq_none (by omega), List.getElem?_eq_none (by simp; omega)]
      · intro x hx
        obtain ⟨v, hv, rfl⟩ := List.mem_map.1 hx
        obtain ⟨i, hi, hv⟩ := List.getElem_of_mem hv
        obtain ⟨m, hm, hw⟩ := h1 i (by omega)
        rw [List.getElem?_eq_getElem hi] at hm
        have := Option.some.inj hm
        rw [hv] at this
        subst this
        exact hw
    · simp at h'

/-- a struct's fields, each by itself -/
theorem form_struct {fs : Array Field} {cs : List Value} {y : DataW H × List MemPlace} (ht : P.underlying t = some (.struct fs)) (h : DataW.trod enc P w 0 (fun _ => true) true fuel t cs = some y) :
    cs.length = P.cellsOf t ∧ ∃ fuel' : Nat, ∀ (i : Nat) (f : Field), fs[i]? = some f → ∃ z, DataW.trod enc P w 0 (fun _ => true) true fuel' f.type ((cs.drop f.offset).take (P.cellsOf f.type)) = some z := by
  cases fuel with
  | zero => simp [DataW.trod] at h
  | succ fuel =>
    have h' : (if cs.length = P.cellsOf t then (fs.toList.mapM fun f => DataW.trod enc P w 0 (fun _ => true) true fuel f.type ((cs.drop f.offset).take (P.cellsOf f.type))).map fun xs => ((.agg (xs.map (·.1)) : DataW H), xs.flatMap (·.2)) else none) = some y := by
      rw [← h]
      cases cs <;> simp only [DataW.trod, ht]
    split at h'
    · rename_i hl
      rw [Option.map_eq_some_iff] at h'
      obtain ⟨xs, hx, _⟩ := h'
      exact ⟨hl, fuel, fun i f hf => mapM_get hx i f (by simpa using hf)⟩
    · simp at h'

theorem drop_take_drop (cs : List Value) (a n : Nat) : cs.drop a = (cs.drop a).take n ++ cs.drop (a + n) := by
  rw [← List.drop_drop, List.take_append_drop]

/-! ### The row -/
theorem trodAll_stays {W W' : World} (hl : laidOutB P = true) (hb : Below W.heap.size W W') : ∀ {ts : List TypeId} {vs : List Value} {ds : List (DataW H)} {ps : List MemPlace}, (∀ t ∈ ts, P.readableRec t = true ∧ t < P.types.size) →
    DataW.TrodAll enc P W 0 (fun _ => true) true ts vs ds ps → DataW.TrodAll enc P W' 0 (fun b => decide (b < W.heap.size)) true ts vs ds ps
  | [], [], [], ps, _, h => h
  | t :: ts, v :: vs, d :: ds, ps, ht, h => by
    obtain ⟨p, q, h1, h2, h3⟩ := h
    refine ⟨p, q, ?_, trodAll_stays hl hb (fun t ht' => ht t (List.mem_cons_of_mem _ ht')) h2, h3⟩
    refine Below.trod hl (ht t (List.mem_cons_self)).1 (ht t (List.mem_cons_self)).2 h1 hb ?_
    obtain ⟨fuel, hf⟩ := h1
    exact DataW.trod_lt fuel _ _ _ hf
  | [], _ :: _, _, _, _, h => by simp [DataW.TrodAll] at h
  | [], [], _ :: _, _, _, h => by simp [DataW.TrodAll] at h
  | _ :: _, [], _, _, _, h => by simp [DataW.TrodAll] at h
  | _ :: _, _ :: _, [], _, _, h => by simp [DataW.TrodAll] at h

theorem trodAll_len : ∀ {ts : List TypeId} {vs : List Value} {ds : List (DataW H)} {ps : List MemPlace}, DataW.TrodAll enc P w 0 (fun _ => true) true ts vs ds ps → vs.length = ts.length ∧ ds.length = ts.length
  | [], [], [], _, _ => ⟨rfl, rfl⟩
  | t :: ts, v :: vs, d :: ds, ps, h => by
    obtain ⟨p, q, _, h2, _⟩ := h
    have := trodAll_len h2
    simp [this.1, this.2]
  | [], _ :: _, _, _, h => by simp [DataW.TrodAll] at h
  | [], [], _ :: _, _, h => by simp [DataW.TrodAll] at h
  | _ :: _, [], _, _, h => by simp [DataW.TrodAll] at h
  | _ :: _, _ :: _, [], _, h => by simp [DataW.TrodAll] at h

/-- a contract, as a call -/
theorem Fn.call {f : FuncId} {args : Array Value} {W : World} (h : Fn P f args W.heap.size W [] fun v G' => ∃ C', R0 (.bool true) v C' ∧ Cov (C' ++ []) G') : Calls P f args W fun e w' => e = .returned (.bool true) ∧ Below W.heap.size W w' :=
  (h.calls W (St.start (Nat.le_refl _))).mono fun _ _ ⟨_, _, he, ⟨_, ⟨hv, _⟩, _⟩, hS⟩ => ⟨by rw [he, hv], hS.below⟩
end

end Go.Sl
