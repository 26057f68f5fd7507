/- What the laws of package span call: their fixed fact, an act's range; what is added or cut where there is room. Conditions: numbers fit their types, lists are short. -/
import Derived.Test.YtckdhelnafjddaaSpanAdd
namespace Go.Proofs.Ytckdhelnafjddaa
open Go Go.Sl Go.Proofs Go.RowKit Go.ChangeShapes Go.WideShapes Go.ChangeAt
set_option maxRecDepth 20000
set_option linter.unusedVariables false
set_option linter.unusedSimpArgs false

theorem setCutOk_c {B : Nat} {w0 : World} {G : List Hp} {R : Hp → List Hp} {m : SetM} {b : Nat} {c : Hp} {r : Rg} (hsel : Sel G c R) (hO : SetAt m b c) (hw : m.WF) (hr : RgIn r) (h : ((cutE m.l r).length : Int) ≤ max m.limit 1) :
    Go.Sl.Fn Try.prog 108 #[.pointer (some ⟨b, 0, none⟩), enR.val r] B w0 G fun u G' => ∃ c' : Hp, u = .int .i64 0 ∧ SetAt ⟨m.limit, cutE m.l r⟩ b c' ∧ G' = R c' := by
  have h1 := setCut_c (B := B) (w0 := w0) hsel hO hw hr
  rw [SetM.cutOk h] at h1
  exact h1

theorem awk1 : addE [] ⟨1, 3⟩ = [⟨1, 3⟩] := by rfl
theorem awk2 : addE [⟨1, 3⟩] ⟨5, 7⟩ = [⟨1, 3⟩, ⟨5, 7⟩] := by rfl
theorem awk3 : addE [⟨1, 3⟩, ⟨5, 7⟩] ⟨3, 5⟩ = [⟨1, 7⟩] := by rfl
theorem good1 : Good [⟨1, 3⟩] := ⟨by simp [RgOk], by simp⟩
theorem good2 : Good [⟨1, 3⟩, ⟨5, 7⟩] := ⟨by simp [RgOk], by simp⟩
theorem good3 : Good [⟨1, 7⟩] := ⟨by simp [RgOk], by simp⟩
theorem rin {a b : Int} (ha : 0 ≤ a ∧ a ≤ 18446744073709551615) (hb : 0 ≤ b ∧ b ≤ 18446744073709551615) : RgIn ⟨a, b⟩ := ⟨ha, hb⟩

structure ActR where
  kind : Int
  from_ : Int
  long : Int
  any : Rg
  raw : Bool
instance : Inhabited ActR := ⟨⟨0, 0, 0, ⟨0, 0⟩, false⟩⟩
def ActR.cells (a : ActR) : List Value := [.int .u8 a.kind, .int .u8 a.from_, .int .u8 a.long, .int .u64 a.any.a, .int .u64 a.any.b, .bool a.raw]
def enAc : Enc ActR := ⟨ActR.cells, 6, fun a => .agg a.cells.toArray, fun a => (0 ≤ a.kind ∧ a.kind ≤ 255) ∧ (0 ≤ a.from_ ∧ a.from_ ≤ 255) ∧ (0 ≤ a.long ∧ a.long ≤ 255) ∧ RgIn a.any⟩
def actRg (a : ActR) : Rg := if a.raw = true then a.any else ⟨a.from_.tmod 60, a.from_.tmod 60 + a.long.tmod 9⟩
theorem tmodB {k n : Int} (h : 0 ≤ k) (hn : 0 < n) : 0 ≤ k.tmod n ∧ k.tmod n < n := by
  rw [Int.tmod_eq_emod_of_nonneg h]
  exact ⟨Int.emod_nonneg k (by omega), Int.emod_lt_of_pos k hn⟩
theorem actRg_in {a : ActR} (h : enAc.ok a) : RgIn (actRg a) := by
  unfold actRg
  split
  · exact h.2.2.2
  · have h1 := tmodB (n := 60) h.2.1.1 (by decide)
    have h2 := tmodB (n := 9) h.2.2.1.1 (by decide)
    exact ⟨by dsimp only; omega, by dsimp only; omega⟩
theorem g_anyR {a : ActR} {T : TypeId} : GetN (.cells a.cells.toArray T (0, 0)) 3 [.int .u64 a.any.a, .int .u64 a.any.b] := GetN.part (a := [.int .u8 a.kind, .int .u8 a.from_, .int .u8 a.long]) (vs := [.int .u64 a.any.a, .int .u64 a.any.b]) (c := [.bool a.raw]) rfl
theorem capLe {α : Type} {En : Enc α} {e : TypeId} {ao : Option Addr} {n cap : Nat} {c : Hp} {l : List α} (h : Ls En e (.slice ao n cap) c l) : l.length ≤ cap := by
  obtain ⟨_, _, hv, hc⟩ := h.view
  injection hv with _ _ h3
  omega
theorem oldVw {α : Type} [Inhabited α] {En : Enc α} {B : Nat} {w0 : World} {ao : Option Addr} {len cap : Nat} {F : Nat → α} {P : Program} {e : TypeId} (he : EncTy P e En) (h : OldSl B w0 En.size ao len (fun i => En.f (F i))) (hok : ∀ i, i < len → En.ok (F i)) (hc : len ≤ cap) (G : List Hp) :
    Vw En (St B w0 G) (.slice ao ((List.range len).map F).length cap) ((List.range len).map F) := by
  have hoks : ∀ a ∈ (List.range len).map F, En.ok a := fun a ha => by
    obtain ⟨i, hi, rfl⟩ := List.mem_map.1 ha
    exact hok i (List.mem_range.1 hi)
  refine ⟨⟨ao, cap, rfl, by simpa using hc⟩, hoks, fun ao' n' cap' hv hl => ?_⟩
  injection hv with e1 e2 e3
  subst e1
  obtain ⟨b, o, h1, h2, h3⟩ := h.get 0 (by simpa using hl)
  subst h1
  refine ⟨rfl, fun i u hu => ?_⟩
  simp only [bOf_some, oOf_some]
  have hp := he.pos
  have hlen : (((List.range len).map F).flatMap En.f).length = len * En.size := by
    rw [fm_len (k := En.size) fun a ha => he.len a (hoks a ha)]
    simp
  have hi : i < len * En.size := by rw [← hlen]; exact (List.getElem?_eq_some_iff.1 hu).1
  have hq : i / En.size < len := Nat.div_lt_of_lt_mul (by rw [Nat.mul_comm]; exact hi)
  have hm := Nat.mod_lt i hp
  have hdm : i = i / En.size * En.size + i % En.size := by rw [Nat.mul_comm]; exact (Nat.div_add_mod i En.size).symm
  obtain ⟨b', o', g1, g2, g3⟩ := h.get (i / En.size) hq
  injection g1 with g1
  injection g1 with g4 g5
  subst g4
  subst g5
  have hfl := he.len _ (hok _ hq)
  have hu2 : (En.f (F (i / En.size)))[i % En.size]? = some u := by
    have hx : i % En.size < (En.f (F (i / En.size))).length := by rw [hfl]; exact hm
    have := fm_get (f := En.f) (k := En.size) (l := (List.range len).map F) (i := i / En.size) (j := i % En.size) (fun a ha => he.len a (hoks a ha)) (by simp [hq]) (List.getElem?_eq_getElem hx)
    rw [← hdm, hu] at this
    rw [List.getElem?_eq_getElem hx]
    exact this.symm
  have := g3 _ _ hu2
  rw [Nat.add_assoc, ← hdm] at this
  exact Cell.old g2 this

/-- a range as it lies in memory -/
theorem form_rng {H : Type} {enc : TypeId × Value → H} {w : World} {fuel : Nat} {cs : List Value} {y : DataW H × List MemPlace} (h : DataW.trod enc Try.prog w 0 (fun _ => true) true fuel 102 cs = some y) : ∃ a : Rg, cs = enR.f a ∧ enR.ok a := by
  obtain ⟨hl, fuel', hf⟩ := form_struct Try.underlying102 h
  have hc : Try.prog.cellsOf 102 = 2 := by kernel_rfl
  rw [hc] at hl
  have g0 : ∃ z, DataW.trod enc Try.prog w 0 (fun _ => true) true fuel' 22 ((cs.drop 0).take (Try.prog.cellsOf 22)) = some z := hf 0 _ rfl
  obtain ⟨_, h0⟩ := g0
  rw [show Try.prog.cellsOf 22 = 1 by kernel_rfl] at h0
  have g1 : ∃ z, DataW.trod enc Try.prog w 0 (fun _ => true) true fuel' 22 ((cs.drop 1).take (Try.prog.cellsOf 22)) = some z := hf 1 _ rfl
  obtain ⟨_, h1⟩ := g1
  rw [show Try.prog.cellsOf 22 = 1 by kernel_rfl] at h1
  obtain ⟨n0, e0, w0⟩ := form_int Try.underlying22 h0
  obtain ⟨n1, e1, w1⟩ := form_int Try.underlying22 h1
  refine ⟨⟨n0, n1⟩, ?_, bounds_u64 w0, bounds_u64 w1⟩
  have p : cs = (cs.drop 0).take 1 ++ ((cs.drop 1).take 1 ++ (cs.drop 2)) := by
    conv => lhs; rw [show cs = cs.drop 0 from rfl]
    rw [← drop_take_drop cs 1 1, ← drop_take_drop cs 0 1]
  rw [p, e0, e1, List.drop_eq_nil_of_le (by omega)]
  rfl
theorem open_rng {H : Type} {enc : TypeId × Value → H} {W : World} {base : Nat} {v : Value} {d : DataW H} {p : List MemPlace} (hv : Value.okWide Try.prog W .any base 102 v) (h : DataW.Trod enc Try.prog W 0 (fun _ => true) true 102 v d p) :
    ∃ e : Rg, v = enR.val e ∧ enR.ok e := by
  obtain ⟨cs, rfl, _⟩ := okWide_struct Try.underlying102 hv
  obtain ⟨fuel, hf⟩ := h
  obtain ⟨e, h1, h2⟩ := form_rng hf
  refine ⟨e, ?_, h2⟩
  show Value.agg cs = .agg e.cells.toArray
  congr 1
  apply Array.ext'
  simpa [Value.cells, enR] using h1
theorem run_part_sc {e : TypeId} {xs : List Value} {i : Nat} {v : Value} (he : Scalar Try.prog e) (h : xs[i]? = some v) (w : World) : (part e xs.toArray i).run Try.prog w = .ok v w := by
  have h1 := he.agg w
  simp [part, Sem.run_bind, h1, h]
theorem eqFields_step {P : Program} {d : Nat} {xs ys : Array Value} {f : Field} {fs : List Field} {a b : Value} {r : Bool} {w : World} (hn : f.name ≠ "_") (ha : (part f.type xs f.offset).run P w = .ok a w) (hb : (part f.type ys f.offset).run P w = .ok b w) (hr : (Op.equalIn d f.type a b).run P w = .ok r w) :
    (Op.eqFields d xs ys (f :: fs)).run P w = if r = true then (Op.eqFields d xs ys fs).run P w else .ok false w := by
  rw [Op.eqFields, if_pos hn]
  rw [Sem.run_bind, ha]
  simp only [Result.andThen_ok]
  rw [Sem.run_bind, hb]
  simp only [Result.andThen_ok]
  rw [Sem.run_bind, hr]
  simp only [Result.andThen_ok]
  cases r
  · rw [if_pos (by rfl), if_neg (by decide)]; rfl
  · rw [if_neg (by decide), if_pos rfl]
theorem eqFields_nil {P : Program} {d : Nat} {xs ys : Array Value} {w : World} : (Op.eqFields d xs ys []).run P w = .ok true w := rfl


theorem eqR_d (T : TypeId) (hT : T = 102) (d : Nat) {a b a' b' : Int} (w : World) :
    (Op.equalIn (d + 3) 102 (.agg (Rg.cells ⟨a, b⟩).toArray) (.agg (Rg.cells ⟨a', b'⟩).toArray)).run Try.prog w = .ok (decide (a = a') && decide (b = b')) w := by
  have h0 := run_equalIn_struct (P := Try.prog) w (d + 2) 102 (Rg.cells ⟨a, b⟩).toArray (Rg.cells ⟨a', b'⟩).toArray (by kernel_rfl) (by kernel_rfl)
  refine h0.trans ?_
  simp only [Program.fieldsOf, Try.underlying102]
  have p1 := run_part_sc (xs := Rg.cells ⟨a, b⟩) (i := 0) (v := .int .u64 a) Ty.sc22 rfl w
  have p2 := run_part_sc (xs := Rg.cells ⟨a', b'⟩) (i := 0) (v := .int .u64 a') Ty.sc22 rfl w
  have p3 := run_part_sc (xs := Rg.cells ⟨a, b⟩) (i := 1) (v := .int .u64 b) Ty.sc22 rfl w
  have p4 := run_part_sc (xs := Rg.cells ⟨a', b'⟩) (i := 1) (v := .int .u64 b') Ty.sc22 rfl w
  have q1 : (Op.equalIn (d + 2) 22 (.int .u64 a) (.int .u64 a')).run Try.prog w = .ok (a == a') w := run_equalIn_int (P := Try.prog) w (d + 1) 22 .u64 .u64 a a' Try.underlying22
  have q2 : (Op.equalIn (d + 2) 22 (.int .u64 b) (.int .u64 b')).run Try.prog w = .ok (b == b') w := run_equalIn_int (P := Try.prog) w (d + 1) 22 .u64 .u64 b b' Try.underlying22
  generalize hx : (Rg.cells ⟨a, b⟩).toArray = xs at *
  generalize hy : (Rg.cells ⟨a', b'⟩).toArray = ys at *
  refine (eqFields_step (by decide) p1 p2 q1).trans ?_
  rw [eqFields_step (by decide) p3 p4 q2, eqFields_nil]
  by_cases h1 : a = a' <;> by_cases h2 : b = b' <;> simp [h1, h2]
theorem eqR {a b : Rg} : ∀ w : World, (Op.equal 102 (.agg a.cells.toArray) (.agg b.cells.toArray)).run Try.prog w = .ok (decide (a = b)) w := fun w => by
  obtain ⟨s, i⟩ := a
  obtain ⟨s', i'⟩ := b
  have h2 : decide ((⟨s, i⟩ : Rg) = ⟨s', i'⟩) = (decide (s = s') && decide (i = i')) := by
    by_cases c1 : s = s' <;> by_cases c2 : i = i' <;> simp [c1, c2]
  rw [h2]
  unfold Op.equal Op.maxDepth
  exact eqR_d _ rfl 9997 (a := s) (b := i) (a' := s') (b' := i') w

/-! ### With the list by itself -/
theorem setList_l {B : Nat} {w0 : World} {G : List Hp} {k : Int} {l : List Rg} {b : Nat} {c : Hp} (hO : SetAt ⟨k, l⟩ b c) (hs : Sub c G) (hw : (⟨k, l⟩ : SetM).WF) :
    Go.Sl.Fn Try.prog 109 #[.pointer (some ⟨b, 0, none⟩)] B w0 G fun u G' => ∃ x : Option Addr × Nat × Hp, u = .slice x.1 l.length x.2.1 ∧ Ls enR 102 (.slice x.1 l.length x.2.1) x.2.2 l ∧ G' = [x.2.2] ++ G := setList_c hO hs hw
theorem setHas_l {B : Nat} {w0 : World} {G : List Hp} {k : Int} {l : List Rg} {b : Nat} {c : Hp} {n : Int} (hO : SetAt ⟨k, l⟩ b c) (hs : Sub c G) (hw : (⟨k, l⟩ : SetM).WF) :
    Go.Sl.Fn Try.prog 127 #[.pointer (some ⟨b, 0, none⟩), .int .u64 n] B w0 G fun u G' => u = .bool (hasR l n) ∧ G' = G := setHas_c hO hs hw
theorem setCutOk_l {B : Nat} {w0 : World} {G : List Hp} {k : Int} {l : List Rg} {b : Nat} {c : Hp} {R : Hp → List Hp} {r : Rg} (hsel : Sel G c R) (hO : SetAt ⟨k, l⟩ b c) (hw : (⟨k, l⟩ : SetM).WF) (hr : RgIn r) (h : ((cutE l r).length : Int) ≤ max k 1) :
    Go.Sl.Fn Try.prog 108 #[.pointer (some ⟨b, 0, none⟩), enR.val r] B w0 G fun u G' => ∃ c' : Hp, u = .int .i64 0 ∧ SetAt ⟨k, cutE l r⟩ b c' ∧ G' = R c' := setCutOk_c hsel hO hw hr h
end Go.Proofs.Ytckdhelnafjddaa
