/- Events in old memory. Conditions: none. -/
import Derived.Test.YtckdhelnafjddaaRp
import Derived.Test.YtckdhelnafjddaaForm
namespace Go.Proofs.Ytckdhelnafjddaa
open Go Go.Sl Go.Proofs Go.RowKit Go.ChangeShapes Go.WideShapes Go.ChangeAt
set_option maxRecDepth 20000
set_option linter.unusedVariables false
set_option linter.unusedSimpArgs false

theorem form_q {H : Type} {enc : TypeId × Value → H} {w : World} {fuel : Nat} {cs : List Value} {y : DataW H × List MemPlace} (h : DataW.trod enc Try.prog w 0 (fun _ => true) true fuel 22 cs = some y) : ∃ a : Int, cs = enQ.f a ∧ enQ.ok a := by
  obtain ⟨n, e, hw⟩ := form_int Try.underlying22 h
  exact ⟨n, e, bounds_u64 hw⟩
theorem form_bytesE {H : Type} {enc : TypeId × Value → H} {w : World} {fuel : Nat} {cs : List Value} {y : DataW H × List MemPlace} (h : DataW.trod enc Try.prog w 0 (fun _ => true) true fuel 23 cs = some y) :
    ∃ (l : List UInt8) (ao : Option Addr) (cap : Nat), cs = [.slice ao l.length cap] ∧ l.length ≤ 9223372036854775807 ∧ ∀ G, Vw enB (St w.heap.size w G) (.slice ao l.length cap) l := by
  have hs : ∃ ao len cap, cs = [.slice ao len cap] := by
    rcases DataW.trod_slice Try.underlying23 h with ⟨h1, _⟩ | ⟨a, len, cap, _, _, _, _, h1, _⟩
    · exact ⟨_, _, _, h1⟩
    · exact ⟨_, _, _, h1⟩
  obtain ⟨ao, len, cap, rfl⟩ := hs
  obtain ⟨hlc, hm, f, hf, o⟩ := oldSl (size := 1) Try.underlying23 (by kernel_rfl) (by decide) h enI.f enI.ok (fun fuel cs y h => form_u8 h)
  unfold maxLen at hm
  have hlen : (((List.range len).map f).map toB).length = len := by simp
  refine ⟨((List.range len).map f).map toB, ao, cap, by rw [hlen], by omega, fun G => ?_⟩
  have hv2 := Vw.bytes (oldVw iTy o hf hlc G)
  rw [hlen]
  have h3 : ((List.range len).map f).length = len := by simp
  rw [h3] at hv2
  exact hv2
theorem form_qsV {H : Type} {enc : TypeId × Value → H} {w : World} {fuel : Nat} {cs : List Value} {y : DataW H × List MemPlace} (h : DataW.trod enc Try.prog w 0 (fun _ => true) true fuel 60 cs = some y) :
    ∃ (l : List Int) (ao : Option Addr) (cap : Nat), cs = [.slice ao l.length cap] ∧ l.length ≤ 9223372036854775807 ∧ ∀ G, Vw enQ (St w.heap.size w G) (.slice ao l.length cap) l := by
  have hs : ∃ ao len cap, cs = [.slice ao len cap] := by
    rcases DataW.trod_slice Try.underlying60 h with ⟨h1, _⟩ | ⟨a, len, cap, _, _, _, _, h1, _⟩
    · exact ⟨_, _, _, h1⟩
    · exact ⟨_, _, _, h1⟩
  obtain ⟨ao, len, cap, rfl⟩ := hs
  obtain ⟨hlc, hm, f, hf, o⟩ := oldSl (size := 1) Try.underlying60 (by kernel_rfl) (by decide) h enQ.f enQ.ok (fun fuel cs y h => form_q h)
  unfold maxLen at hm
  have hlen : ((List.range len).map f).length = len := by simp
  refine ⟨(List.range len).map f, ao, cap, by rw [hlen], by omega, fun G => ?_⟩
  exact oldVw qTy o hf hlc G
instance : Inhabited EvE := ⟨⟨⟨0, 0, [], []⟩, ⟨none, 0, none, 0⟩⟩⟩
def EvE.In (w : World) (e : EvE) : Prop := ∀ G, EvIn (St w.heap.size w G) e.m e.p
/-- an event as it lies in memory -/
theorem form_event {H : Type} {enc : TypeId × Value → H} {w : World} {fuel : Nat} {cs : List Value} {y : DataW H × List MemPlace} (h : DataW.trod enc Try.prog w 0 (fun _ => true) true fuel 62 cs = some y) : ∃ e : EvE, cs = enEv.f e ∧ (e.m.ok ∧ e.In w) := by
  obtain ⟨hl, fuel', hf⟩ := form_struct Try.underlying62 h
  have hc : Try.prog.cellsOf 62 = 4 := by kernel_rfl
  rw [hc] at hl
  have g0 : ∃ z, DataW.trod enc Try.prog w 0 (fun _ => true) true fuel' 59 ((cs.drop 0).take (Try.prog.cellsOf 59)) = some z := hf 0 _ rfl
  obtain ⟨_, h0⟩ := g0
  rw [show Try.prog.cellsOf 59 = 1 by kernel_rfl] at h0
  obtain ⟨n0, e0, w0⟩ := form_int Try.underlying59 h0
  have g1 : ∃ z, DataW.trod enc Try.prog w 0 (fun _ => true) true fuel' 22 ((cs.drop 1).take (Try.prog.cellsOf 22)) = some z := hf 1 _ rfl
  obtain ⟨_, h1⟩ := g1
  rw [show Try.prog.cellsOf 22 = 1 by kernel_rfl] at h1
  obtain ⟨n1, e1, w1⟩ := form_int Try.underlying22 h1
  have g2 : ∃ z, DataW.trod enc Try.prog w 0 (fun _ => true) true fuel' 60 ((cs.drop 2).take (Try.prog.cellsOf 60)) = some z := hf 2 _ rfl
  obtain ⟨_, h2⟩ := g2
  rw [show Try.prog.cellsOf 60 = 1 by kernel_rfl] at h2
  obtain ⟨n2, a2, k2, e2, w2, v2⟩ := form_qsV h2
  have g3 : ∃ z, DataW.trod enc Try.prog w 0 (fun _ => true) true fuel' 23 ((cs.drop 3).take (Try.prog.cellsOf 23)) = some z := hf 3 _ rfl
  obtain ⟨_, h3⟩ := g3
  rw [show Try.prog.cellsOf 23 = 1 by kernel_rfl] at h3
  obtain ⟨n3, a3, k3, e3, w3, v3⟩ := form_bytesE h3
  have hb0 := bounds_u8 w0
  refine ⟨⟨⟨n0, n1, n2, n3⟩, ⟨a2, k2, a3, k3⟩⟩, ?_, ⟨⟨hb0.1, hb0.2⟩, bounds_u64 w1, fun x hx => (v2 []).ok x hx, w2, w3⟩, fun G => ⟨v2 G, v3 G⟩⟩
  have p : cs = (cs.drop 0).take 1 ++ ((cs.drop 1).take 1 ++ ((cs.drop 2).take 1 ++ ((cs.drop 3).take 1 ++ cs.drop 4))) := by
    conv => lhs; rw [show cs = cs.drop 0 from rfl]
    rw [← drop_take_drop cs 3 1, ← drop_take_drop cs 2 1, ← drop_take_drop cs 1 1, ← drop_take_drop cs 0 1]
  rw [p, e0, e1, e2, e3, List.drop_eq_nil_of_le (by omega)]
  rfl
theorem open_events {H : Type} {enc : TypeId × Value → H} {W : World} {base : Nat} {v : Value} {d : DataW H} {p : List MemPlace} (hv : Value.okWide Try.prog W .any base 57 v) (h : DataW.Trod enc Try.prog W 0 (fun _ => true) true 57 v d p) :
    ∃ (l : List EvE) (ao : Option Addr) (cap : Nat), v = .slice ao l.length cap ∧ l.length ≤ 9223372036854775807 ∧ (∀ G, Vw enEv (St W.heap.size W G) (.slice ao l.length cap) l) ∧ ∀ e ∈ l, EvDeep W.heap.size W e.m e.p [] := by
  obtain ⟨ao, len, cap, rfl⟩ := okWide_slice Try.underlying57 hv
  obtain ⟨fu, h2⟩ := h
  obtain ⟨hlc, hm, f, hf, o⟩ := oldSl (size := 4) Try.underlying57 (by kernel_rfl) (by decide) h2 enEv.f (fun e => e.m.ok ∧ e.In W) (fun fuel cs y h => form_event h)
  unfold maxLen at hm
  have hlen : ((List.range len).map f).length = len := by simp
  refine ⟨(List.range len).map f, ao, cap, by rw [hlen], by omega, fun G => oldVw evTy o (fun i hi => (hf i hi).1) hlc G, fun s hs => ?_⟩
  obtain ⟨i, hi, rfl⟩ := List.mem_map.1 hs
  exact fun G _ => (hf i (List.mem_range.1 hi)).2 G
end Go.Proofs.Ytckdhelnafjddaa
