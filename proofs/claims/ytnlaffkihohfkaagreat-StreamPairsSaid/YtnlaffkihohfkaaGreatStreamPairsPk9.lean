/- StreamPairs holds: two that send each other what they have to, whatever is lost: all that is read was written, in order; no credit, and no count, is passed. Conditions: none. -/
import Derived.Test.YtnlaffkihohfkaaGreatStreamPairsPk8
import Derived.Test.YtnlaffkihohfkaaGreatStreamPairsPk3
set_option maxRecDepth 20000
set_option linter.unusedVariables false
set_option linter.unusedSimpArgs false
namespace Go.Proofs.YtnlaffkihohfkaaGreat.lawStreamPairs
open Go Go.Sl Go.Proofs Go.RowKit Go.ChangeShapes Go.WideShapes Go.ChangeAt Go.Proofs.YtnlaffkihohfkaaGreat
variable {B : Nat} {w0 : World} {G : List Hp} {R : Hp → List Hp}
structure LwS where
  j : Nat
  P : PrM
  p : PrP
  c : Hp
set_option maxHeartbeats 8000000 in
theorem law {acts : List ActO} {ao : Option Addr} {cap : Nat} {data one many : Int} (hd : 0 ≤ data ∧ data ≤ 255) (ho : 0 ≤ one ∧ one ≤ 255) (hm : 0 ≤ many ∧ many ≤ 255) (hl : acts.length ≤ 9223372036854775807) (hA : ∀ G, Vw (enAct B w0) (St B w0 G) (.slice ao acts.length cap) acts) :
    FnC Tryz.prog 3 #[.int .u8 data, .int .u8 one, .int .u8 many, .slice ao acts.length cap] B w0 [] (R0 (.bool true)) := fun F => by
  refine fn_enter Tryz.func3 rfl (by kernel_rfl) Tryz.ntmps3 (by simp) ?_
  refine qs <| qa <| qt <| cw_seq <| qs ?_
  refine qv (v_call rfl rfl (pairAwake_c)) ?_
  refine qv (v_not_true rfl) <| qt ?_
  refine cw_false rfl <| cw_skip <| xw_then <| cw_seq ?_
  refine qs <| qm ?_
  refine qv (v_call rfl rfl (light_c (hA _) hl)) ?_
  refine qv (v_not_bool rfl) <| qt ?_
  refine cw_bool rfl (fun hc16 => ?_) (fun hc16 => ?_)
  refine qs <| qa <| qt ?_
  refine cw_ret ?_
  refine xw_then_ret ?_
  refine ret1 rfl (res_tmp rfl) ?_
  rotate_left
  refine cw_skip <| xw_then ?_
  rotate_left
  · exact done0 rfl zcov
  have hall : ∀ a ∈ acts, a.data.length ≤ 100 := fun a ha => by
    have h1 : (acts.all fun a => decide (a.data.length ≤ 100)) = true := by simpa using hc16
    exact of_decide_eq_true (List.all_eq_true.1 h1 a ha)
  have hm5 : 0 ≤ many % 5 ∧ many % 5 ≤ 4 := by omega
  refine qs <| qm ?_
  refine qv (v_convert Tryz.underlying5 Tryz.underlying27 rfl (nw_u64 zom zom)) ?_
  refine qv (v_mul rfl rfl (nw_u64 zom zom)) <| qm ?_
  refine qv (v_convert Tryz.underlying5 Tryz.underlying27 rfl (nw_u64 zom zom)) <| qm ?_
  refine qv (v_remP rfl rfl zom zom) ?_
  refine qv (v_convert Tryz.underlying5 Tryz.underlying27 rfl (nw_u64 zom zom)) ?_
  (refine ow_call rfl rfl rfl rfl (newPair_c zom zom zom) ?_; rintro _ _ ⟨x25, rfl, hq25, rfl⟩)
  refine qa <| qt <| cw_seq <| qs <| qm ?_
  refine qv (v_len rfl Tryz.underlying22 rfl) <| qm <| qt ?_
  refine cw_block ?_
  obtain ⟨b, p0, c0⟩ := x25
  dsimp only at hq25 ⊢
  refine cw_loop2 (ι := (LwS)) [(9, _), (26, _), (27, _)] ⟨rfl, rfl, rfl, trivial⟩ ((fun x => [(28, .int .i64 x.j)])) ((fun x => (x.j ≤ acts.length ∧ x.j ≤ 50) ∧ Inv x.P (data * 4) one (many % 5) x.j ∧ PrAt x.P x.p b x.c)) ((fun x => acts.length - x.j)) ((fun x => x.c :: F)) ((⟨0, pr0 (data * 4) one (many % 5), p0, c0⟩ : LwS)) zenv zcov ?_ ?_
  · exact ⟨⟨Nat.zero_le _, Nat.zero_le _⟩, pr0_inv zom zom zom, hq25⟩
  rintro ⟨j, P, p, c⟩ ⟨⟨hj, hj50⟩, hI, hP⟩
  dsimp only at hj hj50 hI hP ⊢
  refine qs ?_
  refine qv (v_lss rfl rfl) <| qt <| cw_seq ?_
  refine cw_dec rfl (fun hc29 => ?_) (fun hc29 => ?_)
  refine cw_skip <| xw_then ?_
  rotate_left
  refine cw_exit ?_
  refine xw_then_exit ?_
  refine xw_round_exit ?_
  refine xw_block_exit <| xw_then <| qs <| qa <| qt ?_
  refine cw_ret ?_
  refine ret1 rfl (res_tmp rfl) ?_
  rotate_left
  · have hj2 : j < acts.length := by omega
    have hok := (hA []).ok _ (List.getElem_mem hj2)
    have hok' : (acts[j]).Ok B w0 := hok
    have h7 : ((enAct B w0).f acts[j]).length = 7 := rfl
    have h1 : ∀ u ∈ (enAct B w0).f acts[j], u.oneCell' = true := (acts[j]).one
    have ho1 := (acts[j]).one
    have h71 : (acts[j]).cells.length = 7 := rfl
    have hlo := hok'.lose
    refine cw_seq ?_
    refine cw_block <| qs <| qm ?_
    refine ow_val rfl rfl (v_indexAddr_vw Tryz.underlying22 (acTy) rfl rfl (hA []) rfl zom) ?_
    refine ql (Go.Sl.Vw.var (acTy) (hA _) zom) ?_
    refine ow_alloc rfl rfl Ty.ze30 fun b11 => qa ?_
    refine ow_storeE rfl (acTy) rfl rfl .here zra zas ?_
    refine qt <| cw_seq <| qs <| qm ?_
    refine qv (v_geq rfl rfl) <| qt ?_
    refine cw_dec rfl (fun hc34 => ?_) (fun hc34 => ?_)
    refine cw_exit ?_
    refine xw_then_exit ?_
    refine xw_block_other rfl ?_
    refine xw_then_exit ?_
    refine xw_round_exit ?_
    refine xw_block_exit <| xw_then <| qs <| qa <| qt ?_
    refine cw_ret ?_
    refine ret1 rfl (res_tmp rfl) ?_
    rotate_left
    refine cw_skip <| xw_then ?_
    rotate_left
    · exact done0 rfl zcov
    have hle := hall _ (List.getElem_mem hj2)
    refine cw_cov ([(b11, .cells (acts[j]).cells.toArray 30 (0, 0))] :: c :: F) zcov ?_
    generalize acts[j] = a at *
    refine qs <| qm ?_
    refine ql (Var.atN Ty.ag30 .here GetN.all zra) ?_
    (refine ow_call rfl rfl rfl rfl (do_c zsel hP hI hok' hle zom) ?_; rintro _ _ ⟨x37, rfl, hq37, rfl⟩)
    refine qt ?_
    obtain ⟨P2, c2⟩ := x37
    obtain ⟨hI2, hP2⟩ := hq37
    dsimp only at hI2 hP2 ⊢
    obtain ⟨i, hi⟩ : ∃ i : Bool, (j : Int) % 2 = iv i := by
      have : (j : Int) % 2 = 0 ∨ (j : Int) % 2 = 1 := by omega
      rcases this with e | e
      · exact ⟨false, e⟩
      · exact ⟨true, e⟩
    have hp : ∀ {G : List Hp} {R : Hp → List Hp}, Sel G c2 R → Go.Sl.Fn Tryz.prog 9 #[.pointer (some ⟨b, 0, none⟩), .int .i64 ((j : Int) % 2), .int .u8 a.lose, .int .i64 (1 + (j : Int) % 3)] B w0 G fun u G' => ∃ y : PrM × Hp, u = .tuple #[] ∧ (Inv y.1 (data * 4) one (many % 5) (j + 1) ∧ PrAt y.1 p b y.2) ∧ G' = R y.2 := fun hs => by
      rw [hi]
      exact (pump_c hs hP2 hI2 hlo zom).mono fun u G' ⟨y, h1, ⟨h2, _, _, h3⟩, h4⟩ => ⟨y, h1, ⟨h2, h3⟩, h4⟩
    refine qs <| qm <| qm ?_
    refine qv (v_remP rfl rfl zom zom) ?_
    refine qf Ty.fd30_6 ?_
    refine ql (Var.at1 Ty.sc5 .here (GetN.lit rfl)) <| qm ?_
    refine qv (v_remP rfl rfl zom zom) ?_
    refine qv (v_add rfl rfl (nw_i64 zom zom)) ?_
    (refine ow_call rfl rfl rfl rfl (hp zsel) ?_; rintro _ _ ⟨x46, rfl, hq46, rfl⟩)
    refine qt ?_
    obtain ⟨P3, c3⟩ := x46
    obtain ⟨hI3, hP3⟩ := hq46
    dsimp only at hI3 hP3 ⊢
    refine qs <| qm ?_
    (refine ow_call rfl rfl rfl rfl (right_c zsel hP3 hI3) ?_; rintro _ _ ⟨x48, rfl, hq48, rfl⟩)
    refine qv (v_not_true rfl) <| qt ?_
    refine cw_false rfl <| cw_skip ?_
    refine xw_block <| xw_then <| cw_region ?_
    refine qv (v_add rfl rfl (nw_i64 zom zom)) <| qm <| ow_nil ?_
    exact xw_round (⟨j + 1, P3, p, x48⟩ : LwS) ⟨⟨by dsimp only; omega, by dsimp only; omega⟩, hI3, hq48⟩ zdo zcov zenv
  · exact done0 rfl zcov
/-- an act as it lies in memory -/
theorem form_act {H : Type} {enc : TypeId × Value → H} {w : World} {fuel : Nat} {cs : List Value} {y : DataW H × List MemPlace} (h : DataW.trod enc Tryz.prog w 0 (fun _ => true) true fuel 30 cs = some y) : ∃ a : ActO, cs = (enAct w.heap.size w).f a ∧ (enAct w.heap.size w).ok a := by
  obtain ⟨hl, fuel', hf⟩ := form_struct Tryz.underlying30 h
  have hc : Tryz.prog.cellsOf 30 = 7 := by kernel_rfl
  rw [hc] at hl
  have g0 : ∃ z, DataW.trod enc Tryz.prog w 0 (fun _ => true) true fuel' 5 ((cs.drop 0).take (Tryz.prog.cellsOf 5)) = some z := hf 0 _ rfl
  obtain ⟨_, h0⟩ := g0
  rw [show Tryz.prog.cellsOf 5 = 1 by kernel_rfl] at h0
  have g1 : ∃ z, DataW.trod enc Tryz.prog w 0 (fun _ => true) true fuel' 5 ((cs.drop 1).take (Tryz.prog.cellsOf 5)) = some z := hf 1 _ rfl
  obtain ⟨_, h1⟩ := g1
  rw [show Tryz.prog.cellsOf 5 = 1 by kernel_rfl] at h1
  have g2 : ∃ z, DataW.trod enc Tryz.prog w 0 (fun _ => true) true fuel' 28 ((cs.drop 2).take (Tryz.prog.cellsOf 28)) = some z := hf 2 _ rfl
  obtain ⟨_, h2⟩ := g2
  rw [show Tryz.prog.cellsOf 28 = 1 by kernel_rfl] at h2
  have g3 : ∃ z, DataW.trod enc Tryz.prog w 0 (fun _ => true) true fuel' 5 ((cs.drop 3).take (Tryz.prog.cellsOf 5)) = some z := hf 3 _ rfl
  obtain ⟨_, h3⟩ := g3
  rw [show Tryz.prog.cellsOf 5 = 1 by kernel_rfl] at h3
  have g4 : ∃ z, DataW.trod enc Tryz.prog w 0 (fun _ => true) true fuel' 4 ((cs.drop 4).take (Tryz.prog.cellsOf 4)) = some z := hf 4 _ rfl
  obtain ⟨_, h4⟩ := g4
  rw [show Tryz.prog.cellsOf 4 = 1 by kernel_rfl] at h4
  have g5 : ∃ z, DataW.trod enc Tryz.prog w 0 (fun _ => true) true fuel' 4 ((cs.drop 5).take (Tryz.prog.cellsOf 4)) = some z := hf 5 _ rfl
  obtain ⟨_, h5⟩ := g5
  rw [show Tryz.prog.cellsOf 4 = 1 by kernel_rfl] at h5
  have g6 : ∃ z, DataW.trod enc Tryz.prog w 0 (fun _ => true) true fuel' 5 ((cs.drop 6).take (Tryz.prog.cellsOf 5)) = some z := hf 6 _ rfl
  obtain ⟨_, h6⟩ := g6
  rw [show Tryz.prog.cellsOf 5 = 1 by kernel_rfl] at h6
  obtain ⟨n0, e0, w0⟩ := form_int Tryz.underlying5 h0
  obtain ⟨n1, e1, w1⟩ := form_int Tryz.underlying5 h1
  obtain ⟨n3, e3, w3⟩ := form_int Tryz.underlying5 h3
  obtain ⟨n4, e4⟩ := form_bool Tryz.underlying4 h4
  obtain ⟨n5, e5⟩ := form_bool Tryz.underlying4 h5
  obtain ⟨n6, e6, w6⟩ := form_int Tryz.underlying5 h6
  have e2 : ∃ ao len cap, (cs.drop 2).take 1 = [.slice ao len cap] := by
    rcases DataW.trod_slice Tryz.underlying28 h2 with ⟨e, _⟩ | ⟨a, len, cap, _, _, _, _, e, _⟩
    · exact ⟨_, _, _, e⟩
    · exact ⟨_, _, _, e⟩
  obtain ⟨ao, len, cap, e2⟩ := e2
  rw [e2] at h2
  obtain ⟨hlc, hm, F, hF, o⟩ := oldSl (size := 1) Tryz.underlying28 (by kernel_rfl) (by decide) h2 enI.f enI.ok (fun fuel cs y h => form_u8 h)
  unfold maxLen at hm
  refine ⟨⟨n0, n1, ao, len, cap, ((List.range len).map F).map toB, n3, n4, n5, n6⟩, ?_, ⟨bounds_u8 w0, bounds_u8 w1, bounds_u8 w3, bounds_u8 w6, by simp, hlc, by dsimp only; omega, fun G => ?_⟩⟩
  · have p : cs = (cs.drop 0).take 1 ++ ((cs.drop 1).take 1 ++ ((cs.drop 2).take 1 ++ ((cs.drop 3).take 1 ++ ((cs.drop 4).take 1 ++ ((cs.drop 5).take 1 ++ ((cs.drop 6).take 1 ++ (cs.drop 7))))))) := by
      conv => lhs; rw [show cs = cs.drop 0 from rfl]
      rw [← drop_take_drop cs 6 1, ← drop_take_drop cs 5 1, ← drop_take_drop cs 4 1, ← drop_take_drop cs 3 1, ← drop_take_drop cs 2 1, ← drop_take_drop cs 1 1, ← drop_take_drop cs 0 1]
    rw [p, e0, e1, e2, e3, e4, e5, e6, List.drop_eq_nil_of_le zom]
    rfl
  · have hv2 := Vw.bytes (oldVw iTy o hF hlc G)
    have h4 : ((List.range len).map F).length = len := by simp
    rw [h4] at hv2
    exact hv2
theorem walk {H : Type} {enc : TypeId × Value → H} (W : World) (base : Nat) (args : Array Value) (ds : List (DataW H)) (p : List MemPlace)
    (hval : ∀ (j : Nat) t v, Tryz.f3.params[j]? = some t → args[j]? = some v → Value.okWide Tryz.prog W .any base t v)
    (hA : DataW.TrodAll enc Tryz.prog W 0 (fun _ => true) true Tryz.f3.params.toList args.toList ds p) :
    Calls Tryz.prog 3 args W fun e w' => e = .returned (.bool true) ∧ Below W.heap.size W w' := by
  rw [Tryz.params3] at hA hval
  obtain ⟨v0, vs0, d0, ds0, p0, q0, hargs, rfl, rfl, h0, r0⟩ := trodAll_cons hA
  obtain ⟨v1, vs1, d1, ds1, p1, q1, rfl, rfl, rfl, h1, r1⟩ := trodAll_cons r0
  obtain ⟨v2, vs2, d2, ds2, p2, q2, rfl, rfl, rfl, h2, r2⟩ := trodAll_cons r1
  obtain ⟨v3, vs3, d3, ds3, p3, q3, rfl, rfl, rfl, h3, r3⟩ := trodAll_cons r2
  obtain ⟨rfl, rfl, rfl⟩ := trodAll_nil r3
  obtain rfl : args = #[v0, v1, v2, v3] := by cases args; simp_all
  obtain ⟨n0, rfl, b0⟩ := open_u8 (hval 0 5 v0 rfl rfl) h0
  obtain ⟨n1, rfl, b1⟩ := open_u8 (hval 1 5 v1 rfl rfl) h1
  obtain ⟨n2, rfl, b2⟩ := open_u8 (hval 2 5 v2 rfl rfl) h2
  obtain ⟨ao, len, cap, rfl⟩ := okWide_slice Tryz.underlying22 (hval 3 22 v3 rfl rfl)
  obtain ⟨fu, h3⟩ := h3
  obtain ⟨hlc, hm, f, hf, o⟩ := oldSl (size := 7) Tryz.underlying22 (by kernel_rfl) (by decide) h3 (enAct W.heap.size W).f (enAct W.heap.size W).ok (fun fuel cs y h => form_act h)
  unfold maxLen at hm
  have hv := oldVw acTy o hf hlc
  have hlen : ((List.range len).map f).length = len := by simp
  have key := (law b0 b1 b2 (by rw [hlen]; omega) hv []).call
  rw [hlen] at key
  exact key
theorem own : ownKnob Tryz.prog.godebug = none := by kernel_rfl
theorem laidOut : laidOutB Tryz.prog = true := by kernel_rfl
theorem reads : ∀ t ∈ Tryz.f3.params.toList, Tryz.prog.readableRec t = true ∧ t < Tryz.prog.types.size := by
  rw [Tryz.params3]
  intro t ht
  simp only [List.mem_cons, List.not_mem_nil, or_false] at ht
  rcases ht with rfl | rfl | rfl | rfl
  · exact ⟨by kernel_rfl, of_decide_eq_true (by kernel_rfl)⟩
  · exact ⟨by kernel_rfl, of_decide_eq_true (by kernel_rfl)⟩
  · exact ⟨by kernel_rfl, of_decide_eq_true (by kernel_rfl)⟩
  · exact ⟨by kernel_rfl, of_decide_eq_true (by kernel_rfl)⟩
set_option maxRecDepth 100000 in
theorem lifted (os : Os) (started : os.Started) (H : Type) (enc : TypeId × Value → H) :
    ReturnsInHanded {} Tryz.checked os 3 .any (Rows.streamPairsSpec.pre6 enc Tryz.prog Tryz.f3 Rows.streamPairsRow.domain false) (Rows.streamPairsSpec.post enc Tryz.prog Tryz.f3 false true false false) := by
  refine returnsInHanded_of_change (C := Tryz.checked) own started (by kernel_rfl) Tryz.func3
    (ChangeSpec.witness6 (enc := enc) (C := Tryz.checked) false ⟨#[], #[.int .u8 0, .int .u8 0, .int .u8 0, .slice none 0 0], []⟩ 8 (by kernel_rfl) (by kernel_rfl) (by kernel_rfl) (by kernel_rfl)) ?_
  intro W base args ds gs before hval hW _ _
  have hW' := hW
  obtain ⟨p, q, hA0, hV, rfl, _, _⟩ := hW
  obtain ⟨rfl, rfl⟩ := trodVars_none hV
  have hA : DataW.TrodAll enc Tryz.prog W 0 (fun _ => true) true Tryz.f3.params.toList args.toList ds p := hA0
  have hlen := trodAll_len hA
  refine (walk W base args ds p hval hA).mono fun e W' ⟨he, bel⟩ => ?_
  subst he
  rw [Tryz.params3] at hlen
  match ds, hlen.2, hA, hW' with
  | [d0, d1, d2, d3], _, hA, hW' => exact ⟨_, rfl, _, _, _, [], _, [], hW', trodAll_mk1 (shut_bool Tryz.underlying4 _), trodAll_stays laidOut bel reads hA, rfl, bel.frame _, fun h => by cases h⟩
theorem over : Rows.streamPairsRow.holds Tryz.pinned (OpenSpec.ofChange Rows.streamPairsSpec) :=
  OpenClaim.holds_of_wide 3 Tryz.f3 rfl rfl rfl rfl rfl rfl rfl ⟨rfl, rfl, rfl, rfl, rfl⟩ rfl rfl rfl rfl rfl (by kernel_rfl) Tryz.func3 (by kernel_rfl)
    (of_decide_eq_true (by kernel_rfl)) (by unfold Func.isWrapper; first | (rw [if_pos zdk]; kernel_rfl) | (rw [if_neg zdk]; exact ⟨rfl, rfl⟩))
    (fun os started H enc _ => lifted os started H enc)
theorem proved : Rows.StreamPairsSaid := over
end Go.Proofs.YtnlaffkihohfkaaGreat.lawStreamPairs
