/- make([]T, n): a list of zeros. Conditions: none; nothing here speaks of a given program. -/
import Derived.Test.YtbpnnkkbaakdjaaStep
namespace Go.Sl
set_option linter.unusedVariables false
set_option linter.unusedSimpArgs false
open Go.RowKit Go Go.Instr
variable {P : Program} {ops : Array Oper} {Q : Exit → Act → World → Prop} {B : Nat} {w0 : World} {N : Nat} {G : List Hp} {E : Env} {ty T : TypeId}

/-- the zero value of an element -/
structure ZeroE {α : Type} (P : Program) (e : TypeId) (En : Enc α) (a : α) (bytes : Nat) : Prop where
  info : ∃ i z, P.info? e = some i ∧ i.size = En.size ∧ i.bytes = bytes ∧ i.zero = some z ∧ z.cells = (En.f a).toArray
  ok : En.ok a
theorem ZeroE.of {α : Type} {e : TypeId} {En : Enc α} {a : α} {bytes : Nat} (h : (P.info? e).map (fun i => (i.size, i.bytes, i.zero.map fun z => z.cells.toList)) = some (En.size, bytes, some (En.f a))) (ha : En.ok a) : ZeroE P e En a bytes := ⟨by
    cases hq : P.info? e with
    | none => rw [hq] at h; simp at h
    | some i =>
      rw [hq] at h
      simp only [Option.map_some, Option.some.injEq, Prod.mk.injEq, Option.map_eq_some_iff] at h
      obtain ⟨h1, h2, z, h3, h4⟩ := h
      exact ⟨i, z, rfl, h1, h2, h3, by rw [← h4]⟩, ha⟩

theorem fm_rep {α : Type} {f : α → List Value} {a : α} {n size : Nat} (hf : (f a).length = size) (hp : 0 < size) : (List.replicate n a).flatMap f = ((List.range (n * size)).map fun i => (f a).toArray[i % (f a).toArray.size]!) := by
  have hl : ((List.replicate n a).flatMap f).length = n * size := by
    rw [fm_len (k := size) fun b hb => by rw [(List.mem_replicate.1 hb).2]; exact hf, List.length_replicate]
  refine List.ext_getElem (by rw [hl]; simp) fun i h1 h2 => ?_
  rw [hl] at h1
  have hq : i / size < n := Nat.div_lt_of_lt_mul (by rw [Nat.mul_comm]; exact h1)
  have hm := Nat.mod_lt i hp
  have hdm : i = i / size * size + i % size := by rw [Nat.mul_comm]; exact (Nat.div_add_mod i size).symm
  have hx : i % size < (f a).length := by rw [hf]; exact hm
  have h3 := fm_get (f := f) (k := size) (l := List.replicate n a) (i := i / size) (a := a) (j := i % size) (v := (f a)[i % size]) (fun b hb => by rw [(List.mem_replicate.1 hb).2]; exact hf) (by simp [hq]) (List.getElem?_eq_getElem hx)
  rw [← hdm] at h3
  have h4 := (List.getElem?_eq_some_iff.1 h3).2
  rw [h4]
  have hx2 : i % size < (f a).length := hx
  simp only [List.getElem_map, List.getElem_range, List.size_toArray, hf]
  rw [getElem!_pos _ _ (by simpa using hx2)]
  simp

theorem ow_makeL {α : Type} {En : Enc α} {d : Nat} {x y : Operand} {e bytes n : Nat} {a0 : α} {k k' : IntKind} {l m : Int} {pos : String} {af : Array Edge} {g : Option (Nat × Bool)} {rest : List Oper} (hg : Env.guard E ops g = some true) (hd : Nat.blt d N = true)
    (hT : P.underlying T = some (.slice e)) (hen : EncTy P e En) (hz : ZeroE P e En a0 bytes) (hx : Env.ev E x = some (.int k l)) (hy : Env.ev E y = some (.int k' m)) (hl : l = (n : Int)) (hm : m = (n : Int)) (hbig : (n : Int) * bytes ≤ 16777216) (hn : (n : Int) ≤ 16777216)
    (h : ∀ ao c, Ls En e (.slice ao n n) c (List.replicate n a0) → OW P ops Q B w0 N (c :: G) ((d, .slice ao n n) :: E) rest) :
    OW P ops Q B w0 N G E (⟨some d, .makeSlice T x y, ty, pos, af, g⟩ :: rest) := fun a w ha hw => by
  subst hl hm
  unfold wpList
  rw [if_pos (ha.guard (o := ⟨some d, .makeSlice T x y, ty, pos, af, g⟩) hg)]
  refine .inl ?_
  unfold Oper.wp
  obtain ⟨i, z, hi, his, hib, hzz, hzc⟩ := hz.info
  have hw1 : IntKind.wrap .i64 (n : Int) = n := nw_i64 (by omega) (by omega)
  have hsz : (sizeOf e).run P w = .ok En.size w := run_sizeOf (by rw [hi, ← his]; rfl) w
  have hfl := hen.len a0 hz.ok
  have hb48 : ¬ (281474976710656 < (bytes : Int) * (n : Int)) := by rw [Int.mul_comm]; omega
  have hn0 : ¬ ((n : Int) < 0) := by omega
  have hroom : n * bytes ≤ roomBytes := by
    have : n * bytes ≤ 16777216 := by omega
    exact Nat.le_trans this (by decide)
  have h3 : (execOp a.eval ⟨some d, .makeSlice T x y, ty, pos, af, g⟩).run P w = .ok (.value (.slice (some ⟨w.heap.size, 0, none⟩) n n)) (w.alloc (.cells ((List.replicate n a0).flatMap En.f).toArray e)) := by
    rw [fm_rep hfl hen.pos]
    by_cases h0 : n = 0
    · subst h0
      have hw0 : IntKind.wrap .i64 0 = 0 := by decide
      simp [execOp, Instr.makeSlice, ha.ev hx, ha.ev hy, run_underlying hT, typeInfo, hi, hib, asInt, asIntOf, hw0, askRoom, hsz, newRow]
      rw [show Array.range 0 = #[] from rfl, Array.map_empty]
    · have hne : ¬ n * En.size = 0 := fun h1 => by
        rcases Nat.mul_eq_zero.1 h1 with h2 | h2
        · exact h0 h2
        · exact absurd hen.pos (by omega)
      simp [execOp, Instr.makeSlice, ha.ev hx, ha.ev hy, run_underlying hT, typeInfo, hi, hib, asInt, asIntOf, hw1, hb48, hn0, askRoom, Nat.not_lt.2 hroom, hsz, zeroValue, hzz, hzc, newRow]
      rw [if_neg hne]
      congr 3
      apply Array.ext'
      simp
  rw [h3]
  have hlen : ((List.replicate n a0).flatMap En.f).length = n * En.size := by
    rw [fm_len (k := En.size) fun b hb => by rw [(List.mem_replicate.1 hb).2]; exact hfl, List.length_replicate]
  have hrow := IsSl.row (e := e) (size := En.size) (b := w.heap.size) (n := n) (cap := n) (pre := []) (xs := (List.replicate n a0).flatMap En.f) (spare := []) (post := []) hlen (by simp) (Nat.le_refl _)
  simp only [List.nil_append, List.append_nil, List.length_nil] at hrow
  refine h (some ⟨w.heap.size, 0, none⟩) _ ⟨?_, fun b hb => by rw [(List.mem_replicate.1 hb).2]; exact hz.ok⟩ _ _ (ha.put (by simpa using hd) _) (hw.new _)
  rw [List.length_replicate]
  exact hrow

/-- copy into a part of a list -/
theorem ow_copyLs {α : Type} {En : Enc α} {d dl : Nat} {x y : Operand} {e n cap k m sLen sCap q : Nat} {ao so : Option Addr} {c : Hp} {g l : List α} {R : Hp → List Hp} {tys : Array TypeId} {pos : String} {af : Array Edge} {gd : Option (Nat × Bool)} {rest : List Oper} (hg : Env.guard E ops gd = some true) (hd : Nat.blt d N = true)
    (ht : tys[0]? = some T) (hT : P.underlying T = some (.slice e)) (hen : EncTy P e En) (he : (P.info? e).map (·.size) = some En.size)
    (hx : Env.ev E x = some (.slice (cutA ao cap k En.size) dl q)) (hy : Env.ev E y = some (.slice so sLen sCap)) (hm : Nat.min sLen dl = m) (hk : k + m ≤ g.length) (hL : Ls En e (.slice ao n cap) c g)
    (hV : Vw En (St B w0 G) (.slice so sLen sCap) l) (hs : Sel G c R)
    (h : ∀ c', Ls En e (.slice ao n cap) c' (g.take k ++ (l.take m ++ g.drop (k + m))) → OW P ops Q B w0 N (R c') ((d, .int .i64 m) :: E) rest) : OW P ops Q B w0 N G E (⟨some d, .call { callee := .builtin .copy, args := #[x, y], argTypes := tys }, ty, pos, af, gd⟩ :: rest) := by
  have hsl := hV.len
  subst hsl
  have hn := hL.len
  subst hn
  have hml : m ≤ l.length := by rw [← hm]; exact Nat.min_le_left _ _
  have hokl : ∀ a ∈ l.take m, En.ok a := fun a ha => hV.ok a (List.mem_of_mem_take ha)
  refine ow_copyD hg hd ht hT he hx hy hm hk hL.sl (Vw.reads hen hV hml) (enc_one hen hokl) hs fun c' hc' => h c' ⟨?_, fun a ha => ?_⟩
  · have hlen : (g.take k ++ (l.take m ++ g.drop (k + m))).length = g.length := by
      simp only [List.length_append, List.length_take, List.length_drop]; omega
    rw [hlen]
    have e1 : (g.flatMap En.f).take (k * En.size) = (g.take k).flatMap En.f := fm_take k fun a ha => hen.len a (hL.ok a ha)
    have e2 : (g.flatMap En.f).drop (k * En.size + m * En.size) = (g.drop (k + m)).flatMap En.f := by
      rw [← Nat.add_mul]
      exact fm_drop (k + m) fun a ha => hen.len a (hL.ok a ha)
    rw [e1, e2] at hc'
    rw [List.flatMap_append, List.flatMap_append]
    exact hc'
  · rcases List.mem_append.1 ha with h1 | h1
    · exact hL.ok a (List.mem_of_mem_take h1)
    · rcases List.mem_append.1 h1 with h1 | h1
      · exact hokl a h1
      · exact hL.ok a (List.mem_of_mem_drop h1)
end Go.Sl
