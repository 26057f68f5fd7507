/- A call of the path law, as a model, and how it reads among the inputs. Conditions: none. -/
import Derived.Test.YtlollnhoghledaaPathLaw
import Derived.Test.YtlollnhoghledaaArgs
namespace Go.Proofs.Ytlollnhoghledaa.lawPathPlays
open Go Go.Sl Go.Proofs Go.RowKit Go.ChangeShapes Go.WideShapes Go.ChangeAt Go.Proofs.Ytlollnhoghledaa
set_option linter.unusedVariables false
set_option linter.unusedSimpArgs false

structure ActM where
  kind : Int
  word : Int
  size : Int
  wait : Int
  any : List Int
  raw : Bool
def ActM.cells (a : ActM) : List Value := [.int .u8 a.kind, .int .u8 a.word, .int .i64 a.size, .int .u16 a.wait] ++ (by8 a.any ++ [.bool a.raw])
structure ActM.WF (a : ActM) : Prop where
  kind : 0 ≤ a.kind ∧ a.kind ≤ 255
  word : 0 ≤ a.word ∧ a.word ≤ 255
  size : -9223372036854775808 ≤ a.size ∧ a.size ≤ 9223372036854775807
  wait : 0 ≤ a.wait ∧ a.wait ≤ 65535
  any : a.any.length = 8

def ActM.obj (a : ActM) : Obj := .cells a.cells.toArray 46 (0, 0)
section
variable {a : ActM}
theorem ActM.g_kind : GetN a.obj 0 [.int .u8 a.kind] := GetN.one (by simp [ActM.cells])
theorem ActM.g_word : GetN a.obj 1 [.int .u8 a.word] := GetN.one (by simp [ActM.cells])
theorem ActM.g_size : GetN a.obj 2 [.int .i64 a.size] := GetN.one (by simp [ActM.cells])
theorem ActM.g_wait : GetN a.obj 3 [.int .u16 a.wait] := GetN.one (by simp [ActM.cells])
theorem ActM.g_any : GetN a.obj 4 (by8 a.any) := GetN.part (a := [.int .u8 a.kind, .int .u8 a.word, .int .i64 a.size, .int .u16 a.wait]) rfl
theorem ActM.g_raw (h : a.any.length = 8) : GetN a.obj 12 [.bool a.raw] := GetN.one (by simp [ActM.cells, h])
end
instance : Inhabited ActM := ⟨⟨0, 0, 0, 0, zero8, false⟩⟩
theorem form_act {H : Type} {enc : TypeId × Value → H} {W : World} {fuel : Nat} {cs : List Value} {y : DataW H × List MemPlace}
    (h : DataW.trod enc Try.prog W 0 (fun _ => true) true fuel 46 cs = some y) : ∃ a : ActM, cs = a.cells ∧ a.WF := by
  obtain ⟨hl, fu, hf⟩ := form_struct Try.underlying46 h
  obtain ⟨z0, g0⟩ := hf 0 _ rfl
  obtain ⟨z1, g1⟩ := hf 1 _ rfl
  obtain ⟨z2, g2⟩ := hf 2 _ rfl
  obtain ⟨z3, g3⟩ := hf 3 _ rfl
  obtain ⟨z4, g4⟩ := hf 4 _ rfl
  obtain ⟨z5, g5⟩ := hf 5 _ rfl
  rw [show Try.prog.cellsOf 46 = 13 from by kernel_rfl] at hl
  have g0 : DataW.trod enc Try.prog W 0 (fun _ => true) true fu 5 ((cs.drop 0).take (Try.prog.cellsOf 5)) = some z0 := g0
  have g1 : DataW.trod enc Try.prog W 0 (fun _ => true) true fu 5 ((cs.drop 1).take (Try.prog.cellsOf 5)) = some z1 := g1
  have g2 : DataW.trod enc Try.prog W 0 (fun _ => true) true fu 3 ((cs.drop 2).take (Try.prog.cellsOf 3)) = some z2 := g2
  have g3 : DataW.trod enc Try.prog W 0 (fun _ => true) true fu 27 ((cs.drop 3).take (Try.prog.cellsOf 27)) = some z3 := g3
  have g4 : DataW.trod enc Try.prog W 0 (fun _ => true) true fu 33 ((cs.drop 4).take (Try.prog.cellsOf 33)) = some z4 := g4
  have g5 : DataW.trod enc Try.prog W 0 (fun _ => true) true fu 4 ((cs.drop 12).take (Try.prog.cellsOf 4)) = some z5 := g5
  rw [show Try.prog.cellsOf 5 = 1 from by kernel_rfl] at g0 g1
  rw [show Try.prog.cellsOf 3 = 1 from by kernel_rfl] at g2
  rw [show Try.prog.cellsOf 27 = 1 from by kernel_rfl] at g3
  rw [show Try.prog.cellsOf 33 = 8 from by kernel_rfl] at g4
  rw [show Try.prog.cellsOf 4 = 1 from by kernel_rfl] at g5
  obtain ⟨a0, e0, w0⟩ := form_int Try.underlying5 g0
  obtain ⟨a1, e1, w1⟩ := form_int Try.underlying5 g1
  obtain ⟨a2, e2, w2⟩ := form_int Try.underlying3 g2
  obtain ⟨a3, e3, w3⟩ := form_int Try.underlying27 g3
  obtain ⟨a4, e4, w4, _⟩ := form_ints Try.underlying33 Try.underlying5 (by kernel_rfl) (by kernel_rfl) g4
  obtain ⟨a5, e5⟩ := form_bool Try.underlying4 g5
  refine ⟨⟨a0, a1, a2, a3, a4, a5⟩, ?_, ⟨bounds_u8 w0, bounds_u8 w1, bounds_i64 w2, bounds_u16 w3, w4⟩⟩
  have h6 : cs.drop 13 = [] := List.drop_eq_nil_of_le (by omega)
  have h0 : cs = cs.drop 0 := rfl
  rw [h0, drop_take_drop cs 0 1, e0, drop_take_drop cs (0 + 1) 1, e1, drop_take_drop cs (0 + 1 + 1) 1, e2, drop_take_drop cs (0 + 1 + 1 + 1) 1, e3, drop_take_drop cs (0 + 1 + 1 + 1 + 1) 8, e4, drop_take_drop cs (0 + 1 + 1 + 1 + 1 + 8) 1, e5, h6]
  simp [ActM.cells, by8]

end Go.Proofs.Ytlollnhoghledaa.lawPathPlays
