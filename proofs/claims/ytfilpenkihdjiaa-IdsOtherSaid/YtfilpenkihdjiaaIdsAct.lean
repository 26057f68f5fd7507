/- An act of law ids: what it is in memory, and how a list of acts is read. Conditions: none. -/
import Derived.Test.YtfilpenkihdjiaaIdsOtherSw
namespace Go.Proofs.Ytfilpenkihdjiaa
open Go Go.Sl Go.Proofs Go.RowKit Go.ChangeShapes Go.WideShapes Go.ChangeAt
set_option linter.unusedVariables false
set_option linter.unusedSimpArgs false

theorem bsz (s : ByteArray) : s.data.toList.length = s.size := Array.length_toList

structure ActM where
  kind : Int
  id : Int
  by_ : Int
  tok : List Int
  any : ByteArray
  seq : Int
  raw : Bool
instance : Inhabited ActM := ⟨⟨0, 0, 0, [], ⟨#[]⟩, 0, false⟩⟩
def ActM.cells (a : ActM) : List Value := .int .u8 a.kind :: .int .u8 a.id :: .int .u8 a.by_ :: (a.tok.map (Value.int .u8) ++ [.string a.any, .int .u64 a.seq, .bool a.raw])
def enA : Enc ActM := ⟨ActM.cells, 22, fun a => .agg a.cells.toArray, fun a => (0 ≤ a.kind ∧ a.kind ≤ 255) ∧ (0 ≤ a.id ∧ a.id ≤ 255) ∧ (0 ≤ a.by_ ∧ a.by_ ≤ 255) ∧ a.tok.length = 16 ∧ (0 ≤ a.seq ∧ a.seq ≤ 18446744073709551615)⟩
theorem aTy : EncTy Try.prog 49 enA := EncTy.agg Ty.ag49 (by decide) (fun _ => rfl) (fun a h => by simp [enA, ActM.cells, h.2.2.2.1]) (fun a _ u hu => by
  simp only [enA, ActM.cells, List.mem_cons, List.mem_append, List.mem_map, List.not_mem_nil, or_false] at hu
  rcases hu with rfl | rfl | rfl | ⟨x, _, rfl⟩ | rfl | rfl | rfl <;> rfl)

section
variable {a : ActM} {T : TypeId}
def ActM.obj (a : ActM) : Obj := .cells a.cells.toArray 49 (0, 0)
theorem g_tok (h : a.tok.length = 16) : GetN (.cells a.cells.toArray T (0, 0)) 3 (a.tok.map (Value.int .u8)) := GetN.part (a := [.int .u8 a.kind, .int .u8 a.id, .int .u8 a.by_]) rfl
theorem g_any (h : a.tok.length = 16) : GetN (.cells a.cells.toArray T (0, 0)) 19 [.string a.any] := by
  have := GetN.part (a := [Value.int .u8 a.kind, .int .u8 a.id, .int .u8 a.by_] ++ a.tok.map (Value.int .u8)) (vs := [.string a.any]) (c := [.int .u64 a.seq, .bool a.raw]) (e := T) (fr := (0, 0)) (off := 19) (by simp [h])
  simpa [ActM.cells] using this
theorem g_seq (h : a.tok.length = 16) : GetN (.cells a.cells.toArray T (0, 0)) 20 [.int .u64 a.seq] := by
  have := GetN.part (a := [Value.int .u8 a.kind, .int .u8 a.id, .int .u8 a.by_] ++ a.tok.map (Value.int .u8) ++ [.string a.any]) (vs := [.int .u64 a.seq]) (c := [.bool a.raw]) (e := T) (fr := (0, 0)) (off := 20) (by simp [h])
  simpa [ActM.cells] using this
theorem g_raw (h : a.tok.length = 16) : GetN (.cells a.cells.toArray T (0, 0)) 21 [.bool a.raw] := by
  have := GetN.part (a := [Value.int .u8 a.kind, .int .u8 a.id, .int .u8 a.by_] ++ a.tok.map (Value.int .u8) ++ [.string a.any, .int .u64 a.seq]) (vs := [.bool a.raw]) (c := []) (e := T) (fr := (0, 0)) (off := 21) (by simp [h])
  simpa [ActM.cells] using this
end

theorem capLe {α : Type} {En : Enc α} {e : TypeId} {ao : Option Addr} {n cap : Nat} {c : Hp} {l : List α} (h : Ls En e (.slice ao n cap) c l) : l.length ≤ cap := by
  obtain ⟨_, _, hv, hc⟩ := h.view
  injection hv with _ _ h3
  omega
theorem any_succ {l : List Entry} {p : Entry → Bool} {j : Nat} (h : j < l.length) : (l.take (j + 1)).any p = ((l.take j).any p || p l[j]) := by
  rw [List.take_succ_eq_append_getElem h, List.any_append]
  simp
theorem idx_succ {l : List Entry} {p : Entry → Bool} {j : Nat} (h : j < l.length) (hu : p l[j] = true → ∀ k (hk : k < l.length), k < j → p l[k] = false) : idxF p (l.take (j + 1)) = if p l[j] = true then (j : Int) else idxF p (l.take j) := by
  unfold idxF
  rw [List.take_succ_eq_append_getElem h, List.findIdx?_append]
  by_cases hp : p l[j] = true
  · have hn : (l.take j).findIdx? p = none := List.findIdx?_eq_none_iff.2 fun x hx => by
      obtain ⟨k, hk, rfl⟩ := List.mem_iff_getElem.1 hx
      simp at hk
      rw [List.getElem_take]
      exact hu hp k (by omega) (by omega)
    simp [hn, hp, Nat.min_eq_left (Nat.le_of_lt h)]
  · have hp' : p l[j] = false := by simpa using hp
    simp [hp']
/-- an act as it lies in memory -/
theorem form_act {H : Type} {enc : TypeId × Value → H} {w : World} {fuel : Nat} {cs : List Value} {y : DataW H × List MemPlace} (h : DataW.trod enc Try.prog w 0 (fun _ => true) true fuel 49 cs = some y) : ∃ a : ActM, cs = enA.f a ∧ enA.ok a := by
  obtain ⟨hl, fuel', hf⟩ := form_struct Try.underlying49 h
  have hc : Try.prog.cellsOf 49 = 22 := by kernel_rfl
  rw [hc] at hl
  have c1 : Try.prog.cellsOf 5 = 1 := by kernel_rfl
  have c2 : Try.prog.cellsOf 28 = 16 := by kernel_rfl
  have c3 : Try.prog.cellsOf 9 = 1 := by kernel_rfl
  have c4 : Try.prog.cellsOf 27 = 1 := by kernel_rfl
  have c5 : Try.prog.cellsOf 4 = 1 := by kernel_rfl
  have g0 : ∃ z, DataW.trod enc Try.prog w 0 (fun _ => true) true fuel' 5 ((cs.drop 0).take (Try.prog.cellsOf 5)) = some z := hf 0 _ rfl
  have g1 : ∃ z, DataW.trod enc Try.prog w 0 (fun _ => true) true fuel' 5 ((cs.drop 1).take (Try.prog.cellsOf 5)) = some z := hf 1 _ rfl
  have g2 : ∃ z, DataW.trod enc Try.prog w 0 (fun _ => true) true fuel' 5 ((cs.drop 2).take (Try.prog.cellsOf 5)) = some z := hf 2 _ rfl
  have g3 : ∃ z, DataW.trod enc Try.prog w 0 (fun _ => true) true fuel' 28 ((cs.drop 3).take (Try.prog.cellsOf 28)) = some z := hf 3 _ rfl
  have g4 : ∃ z, DataW.trod enc Try.prog w 0 (fun _ => true) true fuel' 9 ((cs.drop 19).take (Try.prog.cellsOf 9)) = some z := hf 4 _ rfl
  have g5 : ∃ z, DataW.trod enc Try.prog w 0 (fun _ => true) true fuel' 27 ((cs.drop 20).take (Try.prog.cellsOf 27)) = some z := hf 5 _ rfl
  have g6 : ∃ z, DataW.trod enc Try.prog w 0 (fun _ => true) true fuel' 4 ((cs.drop 21).take (Try.prog.cellsOf 4)) = some z := hf 6 _ rfl
  obtain ⟨_, h0⟩ := g0
  obtain ⟨_, h1⟩ := g1
  obtain ⟨_, h2⟩ := g2
  obtain ⟨_, h3⟩ := g3
  obtain ⟨_, h4⟩ := g4
  obtain ⟨_, h5⟩ := g5
  obtain ⟨_, h6⟩ := g6
  rw [c1] at h0 h1 h2
  rw [c2] at h3
  rw [c3] at h4
  rw [c4] at h5
  rw [c5] at h6
  obtain ⟨n0, e0, w0⟩ := form_int Try.underlying5 h0
  obtain ⟨n1, e1, w1⟩ := form_int Try.underlying5 h1
  obtain ⟨n2, e2, w2⟩ := form_int Try.underlying5 h2
  obtain ⟨l, e3, l3, _⟩ := form_ints Try.underlying28 Try.underlying5 (by kernel_rfl) (by kernel_rfl) h3
  obtain ⟨s, e4⟩ := form_str h4
  obtain ⟨n5, e5, w5⟩ := form_int Try.underlying27 h5
  obtain ⟨b, e6⟩ := form_bool Try.underlying4 h6
  refine ⟨⟨n0, n1, n2, l, s, n5, b⟩, ?_, bounds_u8 w0, bounds_u8 w1, bounds_u8 w2, l3, bounds_u64 w5⟩
  have p : cs = (cs.drop 0).take 1 ++ ((cs.drop 1).take 1 ++ ((cs.drop 2).take 1 ++ ((cs.drop 3).take 16 ++ ((cs.drop 19).take 1 ++ ((cs.drop 20).take 1 ++ ((cs.drop 21).take 1 ++ cs.drop 22)))))) := by
    conv => lhs; rw [show cs = cs.drop 0 from rfl]
    rw [← drop_take_drop cs 21 1, ← drop_take_drop cs 20 1, ← drop_take_drop cs 19 1, ← drop_take_drop cs 3 16, ← drop_take_drop cs 2 1, ← drop_take_drop cs 1 1, ← drop_take_drop cs 0 1]
  rw [p, e0, e1, e2, e3, e4, e5, e6, List.drop_eq_nil_of_le (by omega)]
  simp [enA, ActM.cells]

theorem oldVw {α : Type} [Inhabited α] {En : Enc α} {B : Nat} {w0 : World} {ao : Option Addr} {len cap : Nat} {F : Nat → α} {P : Program} {e : TypeId} (he : EncTy P e En) (h : OldSl B w0 En.size ao len (fun i => En.f (F i))) (hok : ∀ i, i < len → En.ok (F i)) (hc : len ≤ cap) (G : List Hp) :
    Vw En (St B w0 G) (.slice ao ((List.range len).map F).length cap) ((List.range len).map F) := by
  have hoks : ∀ a ∈ (List.range len).map F, En.ok a := fun a ha => by
    obtain ⟨i, hi, rfl⟩ := List.mem_map.1 ha
    exact hok i (List.mem_range.1 hi)
  refine ⟨⟨ao, cap, rfl, by simpa using hc⟩, hoks, fun ao' n' cap' hv hl => ?_⟩
  injection hv with e1 e2 e3
  subst e1
  obtain ⟨b, o, h1, h2, h3⟩ := h.get 0 (by simpa using hl)
  subst h1
  refine ⟨rfl, fun i u hu => ?_⟩
  simp only [bOf_some, oOf_some]
  have hp := he.pos
  have hlen : (((List.range len).map F).flatMap En.f).length = len * En.size := by
    rw [fm_len (k := En.size) fun a ha => he.len a (hoks a ha)]
    simp
  have hi : i < len * En.size := by rw [← hlen]; exact (List.getElem?_eq_some_iff.1 hu).1
  have hq : i / En.size < len := Nat.div_lt_of_lt_mul (by rw [Nat.mul_comm]; exact hi)
  have hm := Nat.mod_lt i hp
  have hdm : i = i / En.size * En.size + i % En.size := by rw [Nat.mul_comm]; exact (Nat.div_add_mod i En.size).symm
  obtain ⟨b', o', g1, g2, g3⟩ := h.get (i / En.size) hq
  injection g1 with g1
  injection g1 with g4 g5
  subst g4
  subst g5
  have hfl := he.len _ (hok _ hq)
  have hu2 : (En.f (F (i / En.size)))[i % En.size]? = some u := by
    have hx : i % En.size < (En.f (F (i / En.size))).length := by rw [hfl]; exact hm
    have := fm_get (f := En.f) (k := En.size) (l := (List.range len).map F) (i := i / En.size) (j := i % En.size) (fun a ha => he.len a (hoks a ha)) (by simp [hq]) (List.getElem?_eq_getElem hx)
    rw [← hdm, hu] at this
    rw [List.getElem?_eq_getElem hx]
    exact this.symm
  have := g3 _ _ hu2
  rw [Nat.add_assoc, ← hdm] at this
  exact Cell.old g2 this

end Go.Proofs.Ytfilpenkihdjiaa
