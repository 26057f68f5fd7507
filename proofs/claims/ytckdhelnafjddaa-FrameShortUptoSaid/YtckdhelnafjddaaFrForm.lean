/- How a frame, and the laws' small frame, lie in old memory. Conditions: none. -/
import Derived.Test.YtckdhelnafjddaaFrLaw
import Derived.Test.YtckdhelnafjddaaForm
namespace Go.Proofs.Ytckdhelnafjddaa
open Go Go.Sl Go.Proofs Go.RowKit Go.ChangeShapes Go.WideShapes Go.ChangeAt
set_option maxRecDepth 20000
set_option linter.unusedVariables false
set_option linter.unusedSimpArgs false

theorem form_bytesV {H : Type} {enc : TypeId × Value → H} {w : World} {fuel : Nat} {cs : List Value} {y : DataW H × List MemPlace} (h : DataW.trod enc Try.prog w 0 (fun _ => true) true fuel 23 cs = some y) :
    ∃ (l : List UInt8) (ao : Option Addr) (cap : Nat), cs = [.slice ao l.length cap] ∧ l.length ≤ 9223372036854775807 ∧ ∀ G, Vw enB (St w.heap.size w G) (.slice ao l.length cap) l := by
  have hs : ∃ ao len cap, cs = [.slice ao len cap] := by
    rcases DataW.trod_slice Try.underlying23 h with ⟨h1, _⟩ | ⟨a, len, cap, _, _, _, _, h1, _⟩
    · exact ⟨_, _, _, h1⟩
    · exact ⟨_, _, _, h1⟩
  obtain ⟨ao, len, cap, rfl⟩ := hs
  obtain ⟨hlc, hm, f, hf, o⟩ := oldSl (size := 1) Try.underlying23 (by kernel_rfl) (by decide) h enI.f enI.ok (fun fuel cs y h => form_u8 h)
  unfold maxLen at hm
  have hlen : (((List.range len).map f).map toB).length = len := by simp
  refine ⟨((List.range len).map f).map toB, ao, cap, by rw [hlen], by omega, fun G => ?_⟩
  have hv2 := Vw.bytes (oldVw iTy o hf hlc G)
  rw [hlen]
  have h3 : ((List.range len).map f).length = len := by simp
  rw [h3] at hv2
  exact hv2
theorem form_rngsV {H : Type} {enc : TypeId × Value → H} {w : World} {fuel : Nat} {cs : List Value} {y : DataW H × List MemPlace} (h : DataW.trod enc Try.prog w 0 (fun _ => true) true fuel 27 cs = some y) :
    ∃ (l : List Rg) (ao : Option Addr) (cap : Nat), cs = [.slice ao l.length cap] ∧ l.length ≤ 9223372036854775807 ∧ ∀ G, Vw enR (St w.heap.size w G) (.slice ao l.length cap) l := by
  have hs : ∃ ao len cap, cs = [.slice ao len cap] := by
    rcases DataW.trod_slice Try.underlying27 h with ⟨h1, _⟩ | ⟨a, len, cap, _, _, _, _, h1, _⟩
    · exact ⟨_, _, _, h1⟩
    · exact ⟨_, _, _, h1⟩
  obtain ⟨ao, len, cap, rfl⟩ := hs
  obtain ⟨hlc, hm, f, hf, o⟩ := oldSl (size := 2) Try.underlying27 (by kernel_rfl) (by decide) h enR.f enR.ok (fun fuel cs y h => form_rng h)
  unfold maxLen at hm
  have hlen : ((List.range len).map f).length = len := by simp
  refine ⟨(List.range len).map f, ao, cap, by rw [hlen], by omega, fun G => ?_⟩
  exact oldVw rTy o hf hlc G
theorem form_u8s {H : Type} {enc : TypeId × Value → H} {w : World} {fuel n : Nat} {t : TypeId} {cs : List Value} {y : DataW H × List MemPlace} (ht : Try.prog.underlying t = some (.array n 5)) (hn : Try.prog.cellsOf t = n) (h : DataW.trod enc Try.prog w 0 (fun _ => true) true fuel t cs = some y) : ∃ l : List UInt8, cs = l.map u8V ∧ l.length = n := by
  obtain ⟨l, e, hl, hw⟩ := form_ints ht Try.underlying5 (by kernel_rfl) hn h
  refine ⟨l.map toB, ?_, by rw [List.length_map]; exact hl⟩
  rw [e, List.map_map]
  refine List.map_congr_left fun x hx => ?_
  have hb := bounds_u8 (hw x hx)
  show Value.int .u8 x = .int .u8 (toB x).toNat
  rw [toB_val hb]
instance : Inhabited FrM := ⟨FrM.zero 0⟩
instance : Inhabited FrE := ⟨⟨FrM.zero 0, FrP.nil⟩⟩
structure FrLen (f : FrM) : Prop where
  r : f.rg.length ≤ 9223372036854775807
  d : f.data.length ≤ 9223372036854775807
  i : f.id.length ≤ 9223372036854775807
/-- a frame as it lies in memory -/
theorem form_frame {H : Type} {enc : TypeId × Value → H} {w : World} {fuel : Nat} {cs : List Value} {y : DataW H × List MemPlace} (h : DataW.trod enc Try.prog w 0 (fun _ => true) true fuel 30 cs = some y) : ∃ e : FrE, cs = e.m.cells e.p ∧ e.m.ok ∧ (∀ G, FrIn (St w.heap.size w G) e.m e.p) ∧ FrLen e.m := by
  obtain ⟨hl, fuel', hf⟩ := form_struct Try.underlying30 h
  have hc : Try.prog.cellsOf 30 = 39 := by kernel_rfl
  rw [hc] at hl
  have g0 : ∃ z, DataW.trod enc Try.prog w 0 (fun _ => true) true fuel' 26 ((cs.drop 0).take (Try.prog.cellsOf 26)) = some z := hf 0 _ rfl
  obtain ⟨_, h0⟩ := g0
  rw [show Try.prog.cellsOf 26 = 1 by kernel_rfl] at h0
  obtain ⟨n0, e0, w0⟩ := form_int Try.underlying26 h0
  have g1 : ∃ z, DataW.trod enc Try.prog w 0 (fun _ => true) true fuel' 22 ((cs.drop 1).take (Try.prog.cellsOf 22)) = some z := hf 1 _ rfl
  obtain ⟨_, h1⟩ := g1
  rw [show Try.prog.cellsOf 22 = 1 by kernel_rfl] at h1
  obtain ⟨n1, e1, w1⟩ := form_int Try.underlying22 h1
  have g2 : ∃ z, DataW.trod enc Try.prog w 0 (fun _ => true) true fuel' 22 ((cs.drop 2).take (Try.prog.cellsOf 22)) = some z := hf 2 _ rfl
  obtain ⟨_, h2⟩ := g2
  rw [show Try.prog.cellsOf 22 = 1 by kernel_rfl] at h2
  obtain ⟨n2, e2, w2⟩ := form_int Try.underlying22 h2
  have g3 : ∃ z, DataW.trod enc Try.prog w 0 (fun _ => true) true fuel' 22 ((cs.drop 3).take (Try.prog.cellsOf 22)) = some z := hf 3 _ rfl
  obtain ⟨_, h3⟩ := g3
  rw [show Try.prog.cellsOf 22 = 1 by kernel_rfl] at h3
  obtain ⟨n3, e3, w3⟩ := form_int Try.underlying22 h3
  have g4 : ∃ z, DataW.trod enc Try.prog w 0 (fun _ => true) true fuel' 22 ((cs.drop 4).take (Try.prog.cellsOf 22)) = some z := hf 4 _ rfl
  obtain ⟨_, h4⟩ := g4
  rw [show Try.prog.cellsOf 22 = 1 by kernel_rfl] at h4
  obtain ⟨n4, e4, w4⟩ := form_int Try.underlying22 h4
  have g5 : ∃ z, DataW.trod enc Try.prog w 0 (fun _ => true) true fuel' 23 ((cs.drop 5).take (Try.prog.cellsOf 23)) = some z := hf 5 _ rfl
  obtain ⟨_, h5⟩ := g5
  rw [show Try.prog.cellsOf 23 = 1 by kernel_rfl] at h5
  obtain ⟨n5, a5, k5, e5, w5, v5⟩ := form_bytesV h5
  have g6 : ∃ z, DataW.trod enc Try.prog w 0 (fun _ => true) true fuel' 4 ((cs.drop 6).take (Try.prog.cellsOf 4)) = some z := hf 6 _ rfl
  obtain ⟨_, h6⟩ := g6
  rw [show Try.prog.cellsOf 4 = 1 by kernel_rfl] at h6
  obtain ⟨n6, e6⟩ := form_bool Try.underlying4 h6
  have g7 : ∃ z, DataW.trod enc Try.prog w 0 (fun _ => true) true fuel' 27 ((cs.drop 7).take (Try.prog.cellsOf 27)) = some z := hf 7 _ rfl
  obtain ⟨_, h7⟩ := g7
  rw [show Try.prog.cellsOf 27 = 1 by kernel_rfl] at h7
  obtain ⟨n7, a7, k7, e7, w7, v7⟩ := form_rngsV h7
  have g8 : ∃ z, DataW.trod enc Try.prog w 0 (fun _ => true) true fuel' 22 ((cs.drop 8).take (Try.prog.cellsOf 22)) = some z := hf 8 _ rfl
  obtain ⟨_, h8⟩ := g8
  rw [show Try.prog.cellsOf 22 = 1 by kernel_rfl] at h8
  obtain ⟨n8, e8, w8⟩ := form_int Try.underlying22 h8
  have g9 : ∃ z, DataW.trod enc Try.prog w 0 (fun _ => true) true fuel' 28 ((cs.drop 9).take (Try.prog.cellsOf 28)) = some z := hf 9 _ rfl
  obtain ⟨_, h9⟩ := g9
  rw [show Try.prog.cellsOf 28 = 3 by kernel_rfl] at h9
  obtain ⟨n9, e9, w9, u9⟩ := form_ints Try.underlying28 Try.underlying22 (by kernel_rfl) (by kernel_rfl) h9
  have g10 : ∃ z, DataW.trod enc Try.prog w 0 (fun _ => true) true fuel' 22 ((cs.drop 12).take (Try.prog.cellsOf 22)) = some z := hf 10 _ rfl
  obtain ⟨_, h10⟩ := g10
  rw [show Try.prog.cellsOf 22 = 1 by kernel_rfl] at h10
  obtain ⟨n10, e10, w10⟩ := form_int Try.underlying22 h10
  have g11 : ∃ z, DataW.trod enc Try.prog w 0 (fun _ => true) true fuel' 22 ((cs.drop 13).take (Try.prog.cellsOf 22)) = some z := hf 11 _ rfl
  obtain ⟨_, h11⟩ := g11
  rw [show Try.prog.cellsOf 22 = 1 by kernel_rfl] at h11
  obtain ⟨n11, e11, w11⟩ := form_int Try.underlying22 h11
  have g12 : ∃ z, DataW.trod enc Try.prog w 0 (fun _ => true) true fuel' 23 ((cs.drop 14).take (Try.prog.cellsOf 23)) = some z := hf 12 _ rfl
  obtain ⟨_, h12⟩ := g12
  rw [show Try.prog.cellsOf 23 = 1 by kernel_rfl] at h12
  obtain ⟨n12, a12, k12, e12, w12, v12⟩ := form_bytesV h12
  have g13 : ∃ z, DataW.trod enc Try.prog w 0 (fun _ => true) true fuel' 25 ((cs.drop 15).take (Try.prog.cellsOf 25)) = some z := hf 13 _ rfl
  obtain ⟨_, h13⟩ := g13
  rw [show Try.prog.cellsOf 25 = 16 by kernel_rfl] at h13
  obtain ⟨n13, e13, w13⟩ := form_u8s (n := 16) Try.underlying25 (by kernel_rfl) h13
  have g14 : ∃ z, DataW.trod enc Try.prog w 0 (fun _ => true) true fuel' 24 ((cs.drop 31).take (Try.prog.cellsOf 24)) = some z := hf 14 _ rfl
  obtain ⟨_, h14⟩ := g14
  rw [show Try.prog.cellsOf 24 = 8 by kernel_rfl] at h14
  obtain ⟨n14, e14, w14⟩ := form_u8s (n := 8) Try.underlying24 (by kernel_rfl) h14
  obtain ⟨c0, c1, c2, rfl⟩ : ∃ a b c, n9 = [a, b, c] := by
    match n9, w9 with
    | [a, b, c], _ => exact ⟨a, b, c, rfl⟩
  have hu := fun x hx => bounds_u64 (u9 x hx)
  refine ⟨⟨⟨n0, n1, n2, n3, n4, n5, n6, n7, n8, c0, c1, c2, n10, n11, n12, n13, n14⟩, ⟨a5, k5, a7, k7, a12, k12⟩⟩, ?_, ⟨bounds_u8 w0, bounds_u64 w1, bounds_u64 w2, bounds_u64 w3, bounds_u64 w4, (v7 []).ok, bounds_u64 w8, hu c0 (by simp), hu c1 (by simp), hu c2 (by simp), bounds_u64 w10, bounds_u64 w11, w13, w14⟩, fun G => ⟨v5 G, v7 G, v12 G⟩, ⟨w7, w5, w12⟩⟩
  have p : cs = (cs.drop 0).take 1 ++ ((cs.drop 1).take 1 ++ ((cs.drop 2).take 1 ++ ((cs.drop 3).take 1 ++ ((cs.drop 4).take 1 ++ ((cs.drop 5).take 1 ++ ((cs.drop 6).take 1 ++ ((cs.drop 7).take 1 ++ ((cs.drop 8).take 1 ++ ((cs.drop 9).take 3 ++ ((cs.drop 12).take 1 ++ ((cs.drop 13).take 1 ++ ((cs.drop 14).take 1 ++ ((cs.drop 15).take 16 ++ ((cs.drop 31).take 8 ++ cs.drop 39)))))))))))))) := by
    conv => lhs; rw [show cs = cs.drop 0 from rfl]
    rw [← drop_take_drop cs 31 8, ← drop_take_drop cs 15 16, ← drop_take_drop cs 14 1, ← drop_take_drop cs 13 1, ← drop_take_drop cs 12 1, ← drop_take_drop cs 9 3, ← drop_take_drop cs 8 1, ← drop_take_drop cs 7 1, ← drop_take_drop cs 6 1, ← drop_take_drop cs 5 1, ← drop_take_drop cs 4 1, ← drop_take_drop cs 3 1, ← drop_take_drop cs 2 1, ← drop_take_drop cs 1 1, ← drop_take_drop cs 0 1]
  rw [p, e0, e1, e2, e3, e4, e5, e6, e7, e8, e9, e10, e11, e12, e13, e14, List.drop_eq_nil_of_le (by omega)]
  simp [FrM.cells, FrM.tail]
/-- the laws' small frame -/
structure SmE where
  k : Int
  a : Int
  b : Int
  c : Int
  da : Option Addr
  dc : Nat
  data : List UInt8
  fin : Bool
  ga : Option Addr
  gc : Nat
  gaps : List UInt8
  wd : List UInt8
  tok : List UInt8
  any : FrE
  raw : Bool
  large : Bool
instance : Inhabited SmE := ⟨⟨0, 0, 0, 0, none, 0, [], false, none, 0, [], z8, z16, default, false, false⟩⟩
def SmE.tail (s : SmE) : List Value := s.wd.map u8V ++ (s.tok.map u8V ++ (s.any.m.cells s.any.p ++ [.bool s.raw, .bool s.large]))
def SmE.cells (s : SmE) : List Value := .int .u8 s.k :: .int .u64 s.a :: .int .u64 s.b :: .int .u64 s.c :: .slice s.da s.data.length s.dc :: .bool s.fin :: .slice s.ga s.gaps.length s.gc :: s.tail
structure SmE.ok (s : SmE) : Prop where
  k : 0 ≤ s.k ∧ s.k ≤ 255
  a : inU s.a
  b : inU s.b
  c : inU s.c
  data : s.data.length ≤ 9223372036854775807
  gaps : s.gaps.length ≤ 9223372036854775807
  wd : s.wd.length = 8
  tok : s.tok.length = 16
  any : s.any.m.ok
  len : FrLen s.any.m
structure SmE.In (S : World → Prop) (s : SmE) : Prop where
  data : Vw enB S (.slice s.da s.data.length s.dc) s.data
  gaps : Vw enB S (.slice s.ga s.gaps.length s.gc) s.gaps
  any : FrIn S s.any.m s.any.p
def enS : Enc SmE := ⟨SmE.cells, 72, fun s => .agg s.cells.toArray, SmE.ok⟩
theorem SmE.cells_len {s : SmE} (h : s.ok) : s.cells.length = 72 := by
  have h1 := h.tok
  have h2 := h.wd
  have h3 := FrM.cells_len (p := s.any.p) h.any
  simp only [SmE.cells, SmE.tail, List.length_cons, List.length_append, List.length_map, List.length_nil]
  omega
theorem SmE.cells_one {s : SmE} : ∀ u ∈ s.cells, u.oneCell' = true := by
  intro u hu
  simp only [SmE.cells, SmE.tail, List.mem_cons, List.mem_append, List.mem_map, List.not_mem_nil, or_false] at hu
  rcases hu with rfl | rfl | rfl | rfl | rfl | rfl | rfl | ⟨b, _, rfl⟩ | ⟨b, _, rfl⟩ | hu | rfl | rfl
  all_goals first
    | rfl
    | exact FrM.cells_one u hu
theorem smTy : EncTy Try.prog 32 enS := EncTy.agg Ty.ag32 (by decide) (fun _ => rfl) (fun a h => SmE.cells_len h) (fun a _ u hu => SmE.cells_one u hu)
/-- a small one -/
theorem form_small {H : Type} {enc : TypeId × Value → H} {w : World} {fuel : Nat} {cs : List Value} {y : DataW H × List MemPlace} (h : DataW.trod enc Try.prog w 0 (fun _ => true) true fuel 32 cs = some y) : ∃ s : SmE, cs = s.cells ∧ s.ok ∧ ∀ G, s.In (St w.heap.size w G) := by
  obtain ⟨hl, fuel', hf⟩ := form_struct Try.underlying32 h
  have hc : Try.prog.cellsOf 32 = 72 := by kernel_rfl
  rw [hc] at hl
  have g0 : ∃ z, DataW.trod enc Try.prog w 0 (fun _ => true) true fuel' 5 ((cs.drop 0).take (Try.prog.cellsOf 5)) = some z := hf 0 _ rfl
  obtain ⟨_, h0⟩ := g0
  rw [show Try.prog.cellsOf 5 = 1 by kernel_rfl] at h0
  obtain ⟨n0, e0, w0⟩ := form_int Try.underlying5 h0
  have g1 : ∃ z, DataW.trod enc Try.prog w 0 (fun _ => true) true fuel' 22 ((cs.drop 1).take (Try.prog.cellsOf 22)) = some z := hf 1 _ rfl
  obtain ⟨_, h1⟩ := g1
  rw [show Try.prog.cellsOf 22 = 1 by kernel_rfl] at h1
  obtain ⟨n1, e1, w1⟩ := form_int Try.underlying22 h1
  have g2 : ∃ z, DataW.trod enc Try.prog w 0 (fun _ => true) true fuel' 22 ((cs.drop 2).take (Try.prog.cellsOf 22)) = some z := hf 2 _ rfl
  obtain ⟨_, h2⟩ := g2
  rw [show Try.prog.cellsOf 22 = 1 by kernel_rfl] at h2
  obtain ⟨n2, e2, w2⟩ := form_int Try.underlying22 h2
  have g3 : ∃ z, DataW.trod enc Try.prog w 0 (fun _ => true) true fuel' 22 ((cs.drop 3).take (Try.prog.cellsOf 22)) = some z := hf 3 _ rfl
  obtain ⟨_, h3⟩ := g3
  rw [show Try.prog.cellsOf 22 = 1 by kernel_rfl] at h3
  obtain ⟨n3, e3, w3⟩ := form_int Try.underlying22 h3
  have g4 : ∃ z, DataW.trod enc Try.prog w 0 (fun _ => true) true fuel' 23 ((cs.drop 4).take (Try.prog.cellsOf 23)) = some z := hf 4 _ rfl
  obtain ⟨_, h4⟩ := g4
  rw [show Try.prog.cellsOf 23 = 1 by kernel_rfl] at h4
  obtain ⟨n4, a4, k4, e4, w4, v4⟩ := form_bytesV h4
  have g5 : ∃ z, DataW.trod enc Try.prog w 0 (fun _ => true) true fuel' 4 ((cs.drop 5).take (Try.prog.cellsOf 4)) = some z := hf 5 _ rfl
  obtain ⟨_, h5⟩ := g5
  rw [show Try.prog.cellsOf 4 = 1 by kernel_rfl] at h5
  obtain ⟨n5, e5⟩ := form_bool Try.underlying4 h5
  have g6 : ∃ z, DataW.trod enc Try.prog w 0 (fun _ => true) true fuel' 23 ((cs.drop 6).take (Try.prog.cellsOf 23)) = some z := hf 6 _ rfl
  obtain ⟨_, h6⟩ := g6
  rw [show Try.prog.cellsOf 23 = 1 by kernel_rfl] at h6
  obtain ⟨n6, a6, k6, e6, w6, v6⟩ := form_bytesV h6
  have g7 : ∃ z, DataW.trod enc Try.prog w 0 (fun _ => true) true fuel' 24 ((cs.drop 7).take (Try.prog.cellsOf 24)) = some z := hf 7 _ rfl
  obtain ⟨_, h7⟩ := g7
  rw [show Try.prog.cellsOf 24 = 8 by kernel_rfl] at h7
  obtain ⟨n7, e7, w7⟩ := form_u8s (n := 8) Try.underlying24 (by kernel_rfl) h7
  have g8 : ∃ z, DataW.trod enc Try.prog w 0 (fun _ => true) true fuel' 25 ((cs.drop 15).take (Try.prog.cellsOf 25)) = some z := hf 8 _ rfl
  obtain ⟨_, h8⟩ := g8
  rw [show Try.prog.cellsOf 25 = 16 by kernel_rfl] at h8
  obtain ⟨n8, e8, w8⟩ := form_u8s (n := 16) Try.underlying25 (by kernel_rfl) h8
  have g9 : ∃ z, DataW.trod enc Try.prog w 0 (fun _ => true) true fuel' 30 ((cs.drop 31).take (Try.prog.cellsOf 30)) = some z := hf 9 _ rfl
  obtain ⟨_, h9⟩ := g9
  rw [show Try.prog.cellsOf 30 = 39 by kernel_rfl] at h9
  obtain ⟨n9, e9, w9, v9, z9⟩ := form_frame h9
  have g10 : ∃ z, DataW.trod enc Try.prog w 0 (fun _ => true) true fuel' 4 ((cs.drop 70).take (Try.prog.cellsOf 4)) = some z := hf 10 _ rfl
  obtain ⟨_, h10⟩ := g10
  rw [show Try.prog.cellsOf 4 = 1 by kernel_rfl] at h10
  obtain ⟨n10, e10⟩ := form_bool Try.underlying4 h10
  have g11 : ∃ z, DataW.trod enc Try.prog w 0 (fun _ => true) true fuel' 4 ((cs.drop 71).take (Try.prog.cellsOf 4)) = some z := hf 11 _ rfl
  obtain ⟨_, h11⟩ := g11
  rw [show Try.prog.cellsOf 4 = 1 by kernel_rfl] at h11
  obtain ⟨n11, e11⟩ := form_bool Try.underlying4 h11
  refine ⟨⟨n0, n1, n2, n3, a4, k4, n4, n5, a6, k6, n6, n7, n8, n9, n10, n11⟩, ?_, ⟨bounds_u8 w0, bounds_u64 w1, bounds_u64 w2, bounds_u64 w3, w4, w6, w7, w8, w9, z9⟩, fun G => ⟨v4 G, v6 G, v9 G⟩⟩
  have p : cs = (cs.drop 0).take 1 ++ ((cs.drop 1).take 1 ++ ((cs.drop 2).take 1 ++ ((cs.drop 3).take 1 ++ ((cs.drop 4).take 1 ++ ((cs.drop 5).take 1 ++ ((cs.drop 6).take 1 ++ ((cs.drop 7).take 8 ++ ((cs.drop 15).take 16 ++ ((cs.drop 31).take 39 ++ ((cs.drop 70).take 1 ++ ((cs.drop 71).take 1 ++ cs.drop 72))))))))))) := by
    conv => lhs; rw [show cs = cs.drop 0 from rfl]
    rw [← drop_take_drop cs 71 1, ← drop_take_drop cs 70 1, ← drop_take_drop cs 31 39, ← drop_take_drop cs 15 16, ← drop_take_drop cs 7 8, ← drop_take_drop cs 6 1, ← drop_take_drop cs 5 1, ← drop_take_drop cs 4 1, ← drop_take_drop cs 3 1, ← drop_take_drop cs 2 1, ← drop_take_drop cs 1 1, ← drop_take_drop cs 0 1]
  rw [p, e0, e1, e2, e3, e4, e5, e6, e7, e8, e9, e10, e11, List.drop_eq_nil_of_le (by omega)]
  simp [SmE.cells, SmE.tail]
end Go.Proofs.Ytckdhelnafjddaa
