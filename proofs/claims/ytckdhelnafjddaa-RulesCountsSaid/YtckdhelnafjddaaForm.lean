/- An argument that is a list of bytes. Conditions: none. -/
import Derived.Test.YtckdhelnafjddaaSpanLaw
import Derived.Test.YtckdhelnafjddaaBytes
namespace Go.Proofs.Ytckdhelnafjddaa
open Go Go.Sl Go.Proofs Go.RowKit Go.ChangeShapes Go.WideShapes Go.ChangeAt
set_option maxRecDepth 20000
set_option linter.unusedVariables false
set_option linter.unusedSimpArgs false

/-- a byte as it lies in memory -/
theorem form_u8 {H : Type} {enc : TypeId × Value → H} {w : World} {fuel : Nat} {cs : List Value} {y : DataW H × List MemPlace} (h : DataW.trod enc Try.prog w 0 (fun _ => true) true fuel 5 cs = some y) : ∃ a : Int, cs = enI.f a ∧ enI.ok a := by
  obtain ⟨n, e, w0⟩ := form_int Try.underlying5 h
  exact ⟨n, e, bounds_u8 w0⟩
/-- a list of bytes as it lies in memory -/
theorem open_bytes {H : Type} {enc : TypeId × Value → H} {W : World} {base : Nat} {v : Value} {d : DataW H} {p : List MemPlace} (hv : Value.okWide Try.prog W .any base 23 v) (h : DataW.Trod enc Try.prog W 0 (fun _ => true) true 23 v d p) :
    ∃ (l : List UInt8) (ao : Option Addr) (cap : Nat), v = .slice ao l.length cap ∧ l.length ≤ 9223372036854775807 ∧ l.length ≤ cap ∧ ∀ G, Vw enB (St W.heap.size W G) (.slice ao l.length cap) l := by
  obtain ⟨ao, len, cap, rfl⟩ := okWide_slice Try.underlying23 hv
  obtain ⟨fu, h2⟩ := h
  obtain ⟨hlc, hm, f, hf, o⟩ := oldSl (size := 1) Try.underlying23 (by kernel_rfl) (by decide) h2 enI.f enI.ok (fun fuel cs y h => form_u8 h)
  unfold maxLen at hm
  have hlen : (((List.range len).map f).map toB).length = len := by simp
  refine ⟨((List.range len).map f).map toB, ao, cap, by rw [hlen], by omega, by omega, fun G => ?_⟩
  have hv2 := Vw.bytes (oldVw iTy o hf hlc G)
  rw [hlen]
  have h3 : ((List.range len).map f).length = len := by simp
  rw [h3] at hv2
  exact hv2
/-- a small number as it lies in memory -/
theorem open_u8 {H : Type} {enc : TypeId × Value → H} {W : World} {base : Nat} {v : Value} {d : DataW H} {p : List MemPlace} (hv : Value.okWide Try.prog W .any base 5 v) (h : DataW.Trod enc Try.prog W 0 (fun _ => true) true 5 v d p) : ∃ n : Int, v = .int .u8 n ∧ 0 ≤ n ∧ n ≤ 255 := by
  obtain ⟨n, rfl⟩ := okWide_int Try.underlying5 hv
  obtain ⟨fu, h2⟩ := h
  obtain ⟨m, e, hw⟩ := form_int Try.underlying5 h2
  have e2 : [Value.int .u8 n] = [Value.int .u8 m] := e
  injection e2 with e3
  injection e3 with _ e4
  subst e4
  exact ⟨n, rfl, bounds_u8 hw⟩
end Go.Proofs.Ytckdhelnafjddaa
