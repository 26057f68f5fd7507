/- InbufEnds: whatever the input it returns true, and the input reads as it did. Conditions: none. -/
import Derived.Test.YtbpnnkkbaakdjaaInLaw
import Derived.Test.YtbpnnkkbaakdjaaMakeZ
namespace Go.Proofs.Ytbpnnkkbaakdjaa.lawInbufEnds
open Go Go.Sl Go.Proofs Go.RowKit Go.ChangeShapes Go.WideShapes Go.ChangeAt Go.Proofs.Ytbpnnkkbaakdjaa
set_option maxRecDepth 20000
set_option linter.unusedVariables false
set_option linter.unusedSimpArgs false

/-- all of the text came; its end was said; the rest came -/
def m1 (t : List UInt8) : InM := in0.add 0 t false
def m2 (t : List UInt8) (M : Int) : InM := (m1 t).stop (t.length + M)
def zs (M : Int) : List UInt8 := List.replicate M.toNat 0
def m3 (t : List UInt8) (M : Int) : InM := (m2 t M).add t.length (zs M) true
variable {t : List UInt8} {M : Int}
theorem zs_len (hM : 0 ≤ M) : ((zs M).length : Int) = M := by unfold zs; rw [List.length_replicate]; omega
theorem p1 : Piece (t ++ zs M) 0 t := fun j h => by
  have h1 : ((0 : Int) + (j : Int)).toNat = j := by omega
  rw [h1, List.getElem?_append_left h, List.getElem?_eq_getElem h]
theorem p2 : Piece (t ++ zs M) t.length (zs M) := fun j h => by
  have h1 : ((t.length : Int) + (j : Int)).toNat = t.length + j := by omega
  rw [h1, List.getElem?_append_right (by omega), Nat.add_sub_cancel_left, List.getElem?_eq_getElem h]
theorem e1 (ht : t.length ≤ 100) : in0.addE 0 t false = 0 ∧ ¬ in0.addBad 0 t.length false ∧ ¬ in0.read + 65536 < 0 + (t.length : Int) := by
  have hb : ¬ in0.addBad 0 t.length false := fun h => by
    rcases h with ⟨h, _⟩ | ⟨h, _⟩ <;> cases h
  have hf : ¬ in0.read + 65536 < 0 + (t.length : Int) := by show ¬ (0 : Int) + 65536 < 0 + t.length; omega
  refine ⟨?_, hb, hf⟩
  unfold InM.addE
  rw [if_neg hb, if_neg hf]
  split
  · unfold InM.storeE
    rw [if_neg]
    have h1 : (addE [] ⟨max 0 in0.read, max 0 in0.read + (in0.fresh 0 t).length⟩).length ≤ 1 := by
      unfold addE
      split
      · exact Nat.le_refl _
      · simp
    show ¬ 32 < (((addE [] ⟨max 0 in0.read, max 0 in0.read + (in0.fresh 0 t).length⟩).length : Nat) : Int)
    omega
  · rfl
theorem r1 : (m1 t).Right (t ++ zs M) := InM.Right.add (in0_right _) (Int.le_refl _) p1
theorem s1 (ht : t.length ≤ 100) : (m1 t).read = 0 ∧ (m1 t).high = t.length ∧ (m1 t).known = false := by
  obtain ⟨h1, h2, h3, _⟩ := InM.add_same (e1 ht).1
  refine ⟨h1, ?_, h3⟩
  rw [m1, h2]
  show max (0 : Int) (0 + t.length) = t.length
  omega
theorem w1 (ht : t.length ≤ 100) : (m1 t).WF := InM.add_wf in0_wf ⟨Int.le_refl _, by omega⟩
theorem f1 (ht : t.length ≤ 100) (k : Int) : ((m1 t).f k).isSome = true ↔ 0 ≤ k ∧ k < t.length := by
  rw [m1, InM.add_mem (Int.le_refl _) (e1 ht).1 (e1 ht).2.1 (e1 ht).2.2]
  have hr : in0.read = 0 := rfl
  rw [hr]
  by_cases h : max (0 : Int) 0 ≤ k ∧ k < 0 + t.length
  · rw [if_pos h, List.getElem?_eq_getElem (by omega)]
    simp
    omega
  · rw [if_neg h]
    constructor
    · intro h2; cases h2
    · intro h2; omega
theorem e2 (ht : t.length ≤ 100) (hM : 0 ≤ M ∧ M ≤ 255) : (m1 t).stopE (t.length + M) = 0 := by
  obtain ⟨h1, h2, h3⟩ := s1 ht
  unfold InM.stopE
  rw [if_neg (by omega), if_neg]
  rintro (⟨h, _⟩ | h)
  · rw [h3] at h; cases h
  · omega
theorem s2 (ht : t.length ≤ 100) (hM : 0 ≤ M ∧ M ≤ 255) : m2 t M = ⟨0, t.length + M, t.length + M, true, (m1 t).l, (m1 t).f⟩ := by
  obtain ⟨h1, h2, h3⟩ := s1 ht
  rw [m2, show (m1 t).stop (t.length + M) = ({ m1 t with final := t.length + M, known := true } : InM).rise (t.length + M) from if_pos (e2 ht hM)]
  unfold InM.rise
  dsimp only
  rw [h1, h2]
  split
  · congr 1; omega
  · rfl
theorem w2 (ht : t.length ≤ 100) (hM : 0 ≤ M ∧ M ≤ 255) : (m2 t M).WF := InM.stop_wf (w1 ht) (by omega)
theorem r2 (ht : t.length ≤ 100) (hM : 0 ≤ M ∧ M ≤ 255) : (m2 t M).Right (t ++ zs M) := by
  rw [s2 ht hM]
  exact r1
/-- the end said again -/
theorem e3 (ht : t.length ≤ 100) (hM : 0 ≤ M ∧ M ≤ 255) (O : Int) (hO : 0 ≤ O ∧ O ≤ 255) : (m2 t M).stopE O = (if O = t.length + M then 0 else 13) ∧ (m2 t M).stop O = m2 t M := by
  have hE : (m2 t M).stopE O = (if O = t.length + M then 0 else 13) := by
    unfold InM.stopE
    rw [if_neg (by omega), s2 ht hM]
    dsimp only
    by_cases h : O = t.length + M
    · rw [if_neg (by rintro (⟨_, h1⟩ | h1) <;> omega), if_pos h]
    · rw [if_pos (.inl ⟨rfl, h⟩), if_neg h]
  refine ⟨hE, ?_⟩
  unfold InM.stop
  rw [hE]
  by_cases h : O = t.length + M
  · rw [if_pos h, if_pos rfl, h]
    rw [s2 ht hM]
    unfold InM.rise
    rw [if_pos (Int.le_refl _)]
  · rw [if_neg h, if_neg (by decide)]
theorem e4 (ht : t.length ≤ 100) (hM : 0 ≤ M ∧ M ≤ 255) : (m2 t M).addE (t.length + M) [1] false = 13 := by
  unfold InM.addE
  rw [if_pos]
  refine .inl ?_
  rw [s2 ht hM]
  exact ⟨rfl, .inl (by show (t.length : Int) + M < t.length + M + 1; omega)⟩
theorem a4 (ht : t.length ≤ 100) (hM : 0 ≤ M ∧ M ≤ 255) : (m2 t M).Agree (max (t.length + M) (m2 t M).read) ((m2 t M).fresh (t.length + M) [1]) := fun j hj => by
  left
  have hr : (m2 t M).read = 0 := by rw [s2 ht hM]
  have h1 : ¬ ((m2 t M).f (max (t.length + M) (m2 t M).read + j)).isSome = true := fun h => by
    have h2 := (w2 ht hM).low _ (((w2 ht hM).mem _).2 h)
    have h3 : (m2 t M).high = t.length + M := by rw [s2 ht hM]
    omega
  simpa using h1
theorem e5 (ht : t.length ≤ 100) (hM : 0 ≤ M ∧ M ≤ 255) : (m2 t M).addE t.length (zs M) true = 0 ∧ ¬ (m2 t M).addBad t.length (zs M).length true ∧ ¬ (m2 t M).read + 65536 < (t.length : Int) + (zs M).length := by
  have hz := zs_len hM.1
  have hb : ¬ (m2 t M).addBad t.length (zs M).length true := fun h => by
    unfold InM.addBad at h
    rw [s2 ht hM, hz] at h
    dsimp only at h
    omega
  have hf : ¬ (m2 t M).read + 65536 < (t.length : Int) + (zs M).length := by rw [s2 ht hM]; dsimp only; omega
  refine ⟨?_, hb, hf⟩
  unfold InM.addE
  rw [if_neg hb, if_neg hf]
  have hr : (m2 t M).read = 0 := by rw [s2 ht hM]
  split
  · rename_i h
    unfold InM.storeE
    rw [if_neg]
    have hl : ((m2 t M).fresh t.length (zs M)).length = (zs M).length - (max (t.length : Int) (m2 t M).read - t.length).toNat := List.length_drop ..
    have hrg : RgIn ⟨max (t.length : Int) (m2 t M).read, max (t.length : Int) (m2 t M).read + ((m2 t M).fresh t.length (zs M)).length⟩ := ⟨by dsimp only; omega, by dsimp only; omega⟩
    have hs := (addE_spec (w2 ht hM).gl hrg).2.2
    have h1 : (m2 t M).l.length ≤ 1 := by
      rw [s2 ht hM]
      dsimp only
      have h2 := good_len2 (u := 0) (v := 0) (l := []) Good.nil (Int.le_refl _) (by simp)
      unfold m1
      rw [show in0.add 0 t false = (in0.add2 0 t false).rise (0 + t.length) from if_pos (e1 ht).1]
      have h3 : ((in0.add2 0 t false).rise (0 + t.length)).l = (in0.add1 0 t).l := by
        unfold InM.rise InM.add2
        split <;> split <;> rfl
      rw [h3]
      unfold InM.add1
      split
      · unfold InM.store
        split
        · show (addE [] _).length ≤ 1
          unfold addE
          split
          · exact Nat.le_refl _
          · simp
        · simp [in0]
      · simp [in0]
    omega
  · rfl
theorem a5 (ht : t.length ≤ 100) (hM : 0 ≤ M ∧ M ≤ 255) : (m2 t M).Agree (max t.length (m2 t M).read) ((m2 t M).fresh t.length (zs M)) := InM.Right.agree (r2 ht hM) (by omega) p2
theorem w3 (ht : t.length ≤ 100) (hM : 0 ≤ M ∧ M ≤ 255) : (m3 t M).WF := InM.add_wf (w2 ht hM) ⟨by omega, by have := zs_len hM.1; omega⟩
theorem r3 (ht : t.length ≤ 100) (hM : 0 ≤ M ∧ M ≤ 255) : (m3 t M).Right (t ++ zs M) := InM.Right.add (r2 ht hM) (by omega) p2
theorem s3 (ht : t.length ≤ 100) (hM : 0 ≤ M ∧ M ≤ 255) : (m3 t M).read = 0 ∧ (m3 t M).known = true ∧ (m3 t M).final = t.length + M := by
  have hz := zs_len hM.1
  obtain ⟨h1, h2, h3, h4⟩ := InM.add_same (e5 ht hM).1
  rw [m3, h1, h3, h4, s2 ht hM]
  exact ⟨rfl, rfl, by rw [if_pos rfl, hz]⟩
theorem f3 (ht : t.length ≤ 100) (hM : 0 ≤ M ∧ M ≤ 255) (k : Int) : ((m3 t M).f k).isSome = true ↔ 0 ≤ k ∧ k < t.length + M := by
  have hz := zs_len hM.1
  rw [m3, InM.add_mem (by omega) (e5 ht hM).1 (e5 ht hM).2.1 (e5 ht hM).2.2]
  have hr : (m2 t M).read = 0 := by rw [s2 ht hM]
  rw [hr]
  by_cases h : max (t.length : Int) 0 ≤ k ∧ k < t.length + ((zs M).length : Int)
  · rw [if_pos h, List.getElem?_eq_getElem (by omega)]
    simp
    omega
  · rw [if_neg h, s2 ht hM]
    dsimp only
    rw [f1 ht]
    omega
theorem y3 (ht : t.length ≤ 100) (hM : 0 ≤ M ∧ M ≤ 255) : (m3 t M).ready = t.length + M := by
  have hw := w3 ht hM
  have hs := s3 ht hM
  refine InM.ready_eq hw (by omega) (fun k h1 h2 => ?_) (fun h => ?_)
  · rw [hw.mem, f3 ht hM]; omega
  · have := (f3 ht hM _).1 ((hw.mem _).1 h); omega
theorem w4 (ht : t.length ≤ 100) (hM : 0 ≤ M ∧ M ≤ 255) : ((m3 t M).off (t.length + M.toNat)).WF := InM.off_wf (w3 ht hM) (by rw [y3 ht hM]; omega)
theorem y4 (ht : t.length ≤ 100) (hM : 0 ≤ M ∧ M ≤ 255) : ((m3 t M).off (t.length + M.toNat)).ready = 0 := by
  have hw := w4 ht hM
  have hs := s3 ht hM
  refine InM.ready_eq hw (Int.le_refl _) (fun k h1 h2 => by omega) (fun h => ?_)
  have h2 := hw.low _ h
  have h3 : ((m3 t M).off (t.length + M.toNat)).high = (m3 t M).high := rfl
  have h4 : (m3 t M).high = t.length + M := by
    have hz := zs_len hM.1
    rw [m3, (InM.add_same (e5 ht hM).1).2.1, s2 ht hM, hz]
    dsimp only
    omega
  have h5 : ((m3 t M).off (t.length + M.toNat)).read = (m3 t M).read + (t.length + M.toNat : Nat) := rfl
  omega

set_option maxHeartbeats 8000000 in
theorem law {B : Nat} {w0 : World} {t : List UInt8} {M O : Int} {aoT : Option Addr} {capT : Nat} (hM : 0 ≤ M ∧ M ≤ 255) (hOo : 0 ≤ O ∧ O ≤ 255) (hl : t.length ≤ 9223372036854775807) (hct : t.length ≤ capT) (hT : ∀ G, Vw enB (St B w0 G) (.slice aoT t.length capT) t) :
    FnC Try.prog 10 #[.slice aoT t.length capT, .int .u8 M, .int .u8 O] B w0 [] (R0 (.bool true)) := fun F => by
  refine fn_enter Try.func10 rfl (by kernel_rfl) Try.ntmps10 (by simp) ?_
  refine Go.Sl.cw_seq ?_
  refine Go.Sl.cw_region ?_
  refine Go.Sl.ow_val rfl rfl (Go.Sl.v_assign rfl) ?_
  refine Go.Sl.ow_nil ?_
  refine Go.Sl.xw_then ?_
  refine Go.Sl.cw_seq ?_
  refine Go.Sl.cw_seq ?_
  refine Go.Sl.cw_region ?_
  refine Go.Sl.ow_val rfl rfl (Go.Sl.v_call rfl rfl (inAwake_c)) ?_
  refine Go.Sl.ow_val rfl rfl (Go.Sl.v_not_true rfl) ?_
  refine Go.Sl.ow_nil ?_
  refine Go.Sl.xw_then ?_
  refine Go.Sl.cw_false rfl ?_
  refine Go.Sl.cw_skip ?_
  refine Go.Sl.xw_then ?_
  refine Go.Sl.cw_seq ?_
  refine Go.Sl.cw_seq ?_
  refine Go.Sl.cw_region ?_
  refine Go.Sl.ow_val rfl rfl (Go.Sl.v_move rfl) ?_
  refine Go.Sl.ow_val rfl rfl (Go.Sl.v_len rfl Try.underlying57 rfl) ?_
  refine Go.Sl.ow_val rfl rfl (Go.Sl.v_gtr rfl rfl) ?_
  refine Go.Sl.ow_nil ?_
  refine Go.Sl.xw_then ?_
  refine Go.Sl.cw_dec rfl (fun hc28 => ?_) (fun hc28 => ?_)
  refine Go.Sl.cw_seq ?_
  refine Go.Sl.cw_region ?_
  refine Go.Sl.ow_val rfl rfl (Go.Sl.v_assign rfl) ?_
  refine Go.Sl.ow_nil ?_
  refine Go.Sl.xw_then ?_
  refine Go.Sl.cw_ret ?_
  refine Go.Sl.xw_then_ret ?_
  refine Go.Sl.ret1 rfl (Go.Sl.res_tmp rfl) ?_
  rotate_left
  refine Go.Sl.cw_skip ?_
  refine Go.Sl.xw_then ?_
  refine Go.Sl.cw_seq ?_
  refine Go.Sl.cw_region ?_
  refine Go.Sl.ow_val rfl rfl (Go.Sl.v_move rfl) ?_
  refine Go.Sl.ow_val rfl rfl (Go.Sl.v_len rfl Try.underlying57 rfl) ?_
  refine Go.Sl.ow_val rfl rfl (Go.Sl.v_convert Try.underlying3 Try.underlying23 rfl (Go.Sl.nw_u64 (by omega) (by omega))) ?_
  refine Go.Sl.ow_val rfl rfl (Go.Sl.v_assign rfl) ?_
  refine Go.Sl.ow_nil ?_
  refine Go.Sl.xw_then ?_
  refine Go.Sl.cw_seq ?_
  refine Go.Sl.cw_region ?_
  refine Go.Sl.ow_val rfl rfl (Go.Sl.v_move rfl) ?_
  refine Go.Sl.ow_val rfl rfl (Go.Sl.v_move rfl) ?_
  refine Go.Sl.ow_val rfl rfl (Go.Sl.v_convert Try.underlying5 Try.underlying23 rfl (Go.Sl.nw_u64 (by omega) (by omega))) ?_
  refine Go.Sl.ow_val rfl rfl (Go.Sl.v_add rfl rfl (Go.Sl.nw_u64 (by omega) (by omega))) ?_
  refine Go.Sl.ow_val rfl rfl (Go.Sl.v_assign rfl) ?_
  refine Go.Sl.ow_nil ?_
  refine Go.Sl.xw_then ?_
  refine Go.Sl.cw_seq ?_
  refine Go.Sl.cw_region ?_
  (refine Go.Sl.ow_call rfl rfl rfl rfl (newIn_c) ?_; rintro _ _ ⟨x36, rfl, hq36, rfl⟩)
  refine Go.Sl.ow_val rfl rfl (Go.Sl.v_assign rfl) ?_
  refine Go.Sl.ow_nil ?_
  refine Go.Sl.xw_then ?_
  rotate_left
  · exact done0 rfl (by first | exact Go.Sl.Cov.refl _ | (intro p; simp only [List.flatten_cons, List.flatten_nil, List.flatten_append, List.append_nil, List.nil_append, Go.Sl.cnt_append, Go.Sl.cnt_cons, Go.Sl.cnt_nil, List.set_cons_zero, List.set_cons_succ, List.length_nil, List.length_cons, Nat.zero_add, List.append]; omega))
  have ht : t.length ≤ 100 := by omega
  have c1 : ∀ {G : List Hp} {R : Hp → List Hp}, Sel G x36.2 R → Go.Sl.Fn Try.prog 45 #[.pointer (some ⟨x36.1, 0, none⟩), .int .u64 0, .slice aoT t.length capT, .bool false] B w0 G fun u G' => ∃ c' : Hp, u = .tuple #[.int .u64 t.length, .int .i64 0] ∧ InAt (m1 t) x36.1 c' ∧ G' = R c' := fun hs => by
    have h := inAdd_c (B := B) (w0 := w0) (last := false) hs hq36 in0_wf (by omega) (InM.Right.agree (in0_right (t ++ zs 0)) (Int.le_refl _) p1) (fun _ => hT _)
    rw [(e1 ht).1, if_pos rfl, show in0.more (0 + (t.length : Int)) = t.length from by show (if (0 : Int) + t.length ≤ 0 then (0 : Int) else 0 + t.length - 0) = t.length; split <;> omega] at h
    exact h
  refine Go.Sl.cw_seq ?_
  refine Go.Sl.cw_region ?_
  refine Go.Sl.ow_val rfl rfl (Go.Sl.v_move rfl) ?_
  refine Go.Sl.ow_val rfl rfl (Go.Sl.v_move rfl) ?_
  (refine Go.Sl.ow_call rfl rfl rfl rfl (c1 (by repeat (first | exact Go.Sl.Sel.here | apply Go.Sl.Sel.there))) ?_; rintro _ _ ⟨x40, rfl, hq40, rfl⟩)
  refine Go.Sl.ow_val rfl rfl (Go.Sl.v_move rfl) ?_
  refine Go.Sl.ow_val rfl rfl (Go.Sl.v_extract rfl rfl) ?_
  refine Go.Sl.ow_val rfl rfl (Go.Sl.v_extract rfl rfl) ?_
  refine Go.Sl.ow_val rfl rfl (Go.Sl.v_assign rfl) ?_
  refine Go.Sl.ow_val rfl rfl (Go.Sl.v_assign rfl) ?_
  refine Go.Sl.ow_nil ?_
  refine Go.Sl.xw_then ?_
  have c2 : ∀ {G : List Hp} {R : Hp → List Hp}, Sel G x40 R → Go.Sl.Fn Try.prog 56 #[.pointer (some ⟨x36.1, 0, none⟩), .int .u64 (t.length + M)] B w0 G fun u G' => ∃ c' : Hp, u = .tuple #[.int .u64 M, .int .i64 0] ∧ InAt (m2 t M) x36.1 c' ∧ G' = R c' := fun hs => by
    have h := inEnd_c (B := B) (w0 := w0) (fin := t.length + M) hs hq40 (by rw [(s1 ht).2.1]; omega) (by omega)
    rw [e2 ht hM, if_pos rfl, show (m1 t).more (t.length + M) = M from by unfold InM.more; rw [(s1 ht).2.1]; split <;> omega] at h
    exact h
  refine Go.Sl.cw_seq ?_
  refine Go.Sl.cw_region ?_
  refine Go.Sl.ow_val rfl rfl (Go.Sl.v_move rfl) ?_
  refine Go.Sl.ow_val rfl rfl (Go.Sl.v_move rfl) ?_
  (refine Go.Sl.ow_call rfl rfl rfl rfl (c2 (by repeat (first | exact Go.Sl.Sel.here | apply Go.Sl.Sel.there))) ?_; rintro _ _ ⟨x46, rfl, hq46, rfl⟩)
  refine Go.Sl.ow_val rfl rfl (Go.Sl.v_move rfl) ?_
  refine Go.Sl.ow_val rfl rfl (Go.Sl.v_extract rfl rfl) ?_
  refine Go.Sl.ow_val rfl rfl (Go.Sl.v_extract rfl rfl) ?_
  refine Go.Sl.ow_val rfl rfl (Go.Sl.v_assign rfl) ?_
  refine Go.Sl.ow_val rfl rfl (Go.Sl.v_assign rfl) ?_
  refine Go.Sl.ow_nil ?_
  refine Go.Sl.xw_then ?_
  refine Go.Sl.cw_seq ?_
  refine Go.Sl.cw_seq ?_
  refine Go.Sl.cw_region ?_
  refine Go.Sl.ow_val rfl rfl (Go.Sl.v_move rfl) ?_
  refine Go.Sl.ow_val rfl rfl (Go.Sl.v_move rfl) ?_
  refine Go.Sl.ow_val rfl rfl (Go.Sl.v_neq rfl rfl) ?_
  refine Go.Sl.ow_val rfl rfl (Go.Sl.v_move rfl) ?_
  refine Go.Sl.ow_dec 52 rfl (fun hc52 => ?_) (fun hc52 => ?_)
  (exfalso; omega)
  refine Go.Sl.ow_val rfl rfl (Go.Sl.v_move rfl) ?_
  refine Go.Sl.ow_val rfl rfl (Go.Sl.v_neq rfl rfl) ?_
  refine Go.Sl.ow_val rfl rfl (Go.Sl.v_pick_false rfl rfl) ?_
  refine Go.Sl.ow_val rfl rfl (Go.Sl.v_move rfl) ?_
  refine Go.Sl.ow_dec 56 rfl (fun hc56 => ?_) (fun hc56 => ?_)
  (exfalso; omega)
  refine Go.Sl.ow_val rfl rfl (Go.Sl.v_move rfl) ?_
  refine Go.Sl.ow_val rfl rfl (Go.Sl.v_move rfl) ?_
  refine Go.Sl.ow_val rfl rfl (Go.Sl.v_convert Try.underlying5 Try.underlying23 rfl (Go.Sl.nw_u64 (by omega) (by omega))) ?_
  refine Go.Sl.ow_val rfl rfl (Go.Sl.v_neq rfl rfl) ?_
  refine Go.Sl.ow_val rfl rfl (Go.Sl.v_pick_false rfl rfl) ?_
  refine Go.Sl.ow_val rfl rfl (Go.Sl.v_move rfl) ?_
  refine Go.Sl.ow_dec 62 rfl (fun hc62 => ?_) (fun hc62 => ?_)
  (exfalso; omega)
  refine Go.Sl.ow_val rfl rfl (Go.Sl.v_move rfl) ?_
  refine Go.Sl.ow_val rfl rfl (Go.Sl.v_neq rfl rfl) ?_
  refine Go.Sl.ow_val rfl rfl (Go.Sl.v_pick_false rfl rfl) ?_
  refine Go.Sl.ow_nil ?_
  refine Go.Sl.xw_then ?_
  refine Go.Sl.cw_false rfl ?_
  refine Go.Sl.cw_skip ?_
  refine Go.Sl.xw_then ?_
  have c3 : ∀ {G : List Hp} {R : Hp → List Hp}, Sel G x46 R → Go.Sl.Fn Try.prog 56 #[.pointer (some ⟨x36.1, 0, none⟩), .int .u64 O] B w0 G fun u G' => ∃ c' : Hp, u = .tuple #[.int .u64 (if (if O = t.length + M then (0 : Int) else 13) = 0 then (m2 t M).more O else 0), .int .i64 (if O = t.length + M then 0 else 13)] ∧ InAt (m2 t M) x36.1 c' ∧ G' = R c' := fun hs => by
    have h := inEnd_c (B := B) (w0 := w0) (fin := O) hs hq46 (by rw [s2 ht hM]; dsimp only; omega) (by omega)
    rw [(e3 ht hM O hOo).1, (e3 ht hM O hOo).2] at h
    exact h
  refine Go.Sl.cw_cut2 (ι := (Hp)) [(0, _), (1, _), (2, _), (7, _), (8, _), (9, _)] ⟨rfl, rfl, rfl, rfl, rfl, rfl, trivial⟩ ((fun _ => [])) ((fun x => InAt (m2 t M) x36.1 x)) ((fun x => x :: F)) ?_ ?_
  · have hne : ∀ (p : Prop) [Decidable p], decide ((if p then (0 : Int) else 13) = 0) = decide p := fun p _ => by by_cases h : p <;> simp [h]
    refine Go.Sl.cw_seq ?_
    refine Go.Sl.cw_region ?_
    refine Go.Sl.ow_val rfl rfl (Go.Sl.v_move rfl) ?_
    refine Go.Sl.ow_val rfl rfl (Go.Sl.v_move rfl) ?_
    refine Go.Sl.ow_val rfl rfl (Go.Sl.v_convert Try.underlying5 Try.underlying23 rfl (Go.Sl.nw_u64 (by omega) (by omega))) ?_
    (refine Go.Sl.ow_call rfl rfl rfl rfl (c3 (by repeat (first | exact Go.Sl.Sel.here | apply Go.Sl.Sel.there))) ?_; rintro _ _ ⟨x70, rfl, hq70, rfl⟩)
    refine Go.Sl.ow_val rfl rfl (Go.Sl.v_move rfl) ?_
    refine Go.Sl.ow_val rfl rfl (Go.Sl.v_extract rfl rfl) ?_
    refine Go.Sl.ow_val rfl rfl (Go.Sl.v_extract rfl rfl) ?_
    refine Go.Sl.ow_val rfl rfl (Go.Sl.v_assign rfl) ?_
    refine Go.Sl.ow_val rfl rfl (Go.Sl.v_assign rfl) ?_
    refine Go.Sl.ow_nil ?_
    refine Go.Sl.xw_then ?_
    refine Go.Sl.cw_seq ?_
    refine Go.Sl.cw_region ?_
    refine Go.Sl.ow_val rfl rfl (Go.Sl.v_move rfl) ?_
    refine Go.Sl.ow_val rfl rfl (Go.Sl.v_eql rfl rfl) ?_
    refine Go.Sl.ow_val rfl rfl (Go.Sl.v_move rfl) ?_
    refine Go.Sl.ow_val rfl rfl (Go.Sl.v_convert Try.underlying5 Try.underlying23 rfl (Go.Sl.nw_u64 (by omega) (by omega))) ?_
    refine Go.Sl.ow_val rfl rfl (Go.Sl.v_move rfl) ?_
    refine Go.Sl.ow_val rfl rfl (Go.Sl.v_eql rfl rfl) ?_
    refine Go.Sl.ow_val rfl rfl (Go.Sl.v_neqB Try.underlying4 rfl rfl) ?_
    refine Go.Sl.ow_val rfl rfl (Go.Sl.v_move rfl) ?_
    refine Go.Sl.ow_dec 80 rfl (fun hc80 => ?_) (fun hc80 => ?_)
    refine Go.Sl.ow_skip rfl rfl ?_
    refine Go.Sl.ow_skip rfl rfl ?_
    refine Go.Sl.ow_skip rfl rfl ?_
    refine Go.Sl.ow_skip rfl rfl ?_
    refine Go.Sl.ow_skip rfl rfl ?_
    refine Go.Sl.ow_skip rfl rfl ?_
    refine Go.Sl.ow_val rfl rfl (Go.Sl.v_pick_true rfl rfl) ?_
    refine Go.Sl.ow_nil ?_
    refine Go.Sl.xw_then ?_
    refine Go.Sl.cw_true rfl ?_
    refine Go.Sl.cw_seq ?_
    refine Go.Sl.cw_region ?_
    refine Go.Sl.ow_val rfl rfl (Go.Sl.v_assign rfl) ?_
    refine Go.Sl.ow_nil ?_
    refine Go.Sl.xw_then ?_
    refine Go.Sl.cw_ret ?_
    refine Go.Sl.xw_joint_ret ?_
    refine Go.Sl.ret1 rfl (Go.Sl.res_tmp rfl) ?_
    rotate_left
    refine Go.Sl.ow_val rfl rfl (Go.Sl.v_move rfl) ?_
    refine Go.Sl.ow_val rfl rfl (Go.Sl.v_neq rfl rfl) ?_
    refine Go.Sl.ow_val rfl rfl (Go.Sl.v_move rfl) ?_
    refine Go.Sl.ow_dec 83 rfl (fun hc83 => ?_) (fun hc83 => ?_)
    refine Go.Sl.ow_val rfl rfl (Go.Sl.v_move rfl) ?_
    refine Go.Sl.ow_val rfl rfl (Go.Sl.v_neq rfl rfl) ?_
    refine Go.Sl.ow_val rfl rfl (Go.Sl.v_pick_true rfl rfl) ?_
    refine Go.Sl.ow_val rfl rfl (Go.Sl.v_pick_false rfl rfl) ?_
    refine Go.Sl.ow_nil ?_
    refine Go.Sl.xw_then ?_
    refine Go.Sl.cw_dec rfl (fun hc87 => ?_) (fun hc87 => ?_)
    (exfalso; omega)
    refine Go.Sl.cw_skip ?_
    rotate_left
    refine Go.Sl.ow_skip rfl rfl ?_
    refine Go.Sl.ow_skip rfl rfl ?_
    refine Go.Sl.ow_val rfl rfl (Go.Sl.v_pick_false rfl rfl) ?_
    refine Go.Sl.ow_val rfl rfl (Go.Sl.v_pick_false rfl rfl) ?_
    refine Go.Sl.ow_nil ?_
    refine Go.Sl.xw_then ?_
    refine Go.Sl.cw_false rfl ?_
    refine Go.Sl.cw_skip ?_
    rotate_left
    · exact absurd (hne _) hc80
    all_goals exact xw_joint x70 hq70 (by first | exact Go.Sl.Cov.refl _ | (intro p; simp only [List.flatten_cons, List.flatten_nil, List.flatten_append, List.append_nil, List.nil_append, Go.Sl.cnt_append, Go.Sl.cnt_cons, Go.Sl.cnt_nil, List.set_cons_zero, List.set_cons_succ, List.length_nil, List.length_cons, Nat.zero_add, List.append]; omega)) (by repeat (first | exact True.intro | refine And.intro rfl ?_))
  rintro x70 hq70
  have c4 : ∀ {G : List Hp} {R : Hp → List Hp} {ao : Option Addr} {n cap : Nat}, Sel G x70 R → (∀ c', Vw enB (St B w0 (R c')) (.slice ao n cap) [1]) → Go.Sl.Fn Try.prog 45 #[.pointer (some ⟨x36.1, 0, none⟩), .int .u64 (t.length + M), .slice ao n cap, .bool false] B w0 G fun u G' => ∃ c' : Hp, u = .tuple #[.int .u64 0, .int .i64 13] ∧ InAt (m2 t M) x36.1 c' ∧ G' = R c' := fun hs hV => by
    have h := inAdd_c (B := B) (w0 := w0) (last := false) hs hq70 (w2 ht hM) (by show 0 ≤ (t.length : Int) + M ∧ (t.length : Int) + M + 1 ≤ _; omega) (a4 ht hM) hV
    rw [show (m2 t M).add (t.length + M) [1] false = m2 t M from if_neg (by rw [e4 ht hM]; decide), e4 ht hM] at h
    exact h
  refine Go.Sl.cw_seq ?_
  refine Go.Sl.cw_region ?_
  refine Go.Sl.ow_val rfl rfl (Go.Sl.v_move rfl) ?_
  refine Go.Sl.ow_val rfl rfl (Go.Sl.v_move rfl) ?_
  (refine Go.Sl.ow_buildL (es := [((1 : Int))]) rfl rfl Try.underlying57 Ty.em57 (iTy) rfl rfl (by simp [*]) (by simp only [List.length_cons, List.length_nil]; decide) ?_; intro ao91 c91 hL91)
  (refine Go.Sl.ow_call rfl rfl rfl rfl (c4 (by repeat (first | exact Go.Sl.Sel.here | apply Go.Sl.Sel.there)) (fun _ => Vw.bytes (l := [1]) (Ls.vw (by assumption) (by repeat (first | exact Go.Sl.Sub.here | assumption | refine Go.Sl.Sub.there ?_))))) ?_; rintro _ _ ⟨x92, rfl, hq92, rfl⟩)
  refine Go.Sl.ow_val rfl rfl (Go.Sl.v_move rfl) ?_
  refine Go.Sl.ow_val rfl rfl (Go.Sl.v_extract rfl rfl) ?_
  refine Go.Sl.ow_val rfl rfl (Go.Sl.v_extract rfl rfl) ?_
  refine Go.Sl.ow_val rfl rfl (Go.Sl.v_assign rfl) ?_
  refine Go.Sl.ow_val rfl rfl (Go.Sl.v_assign rfl) ?_
  refine Go.Sl.ow_nil ?_
  refine Go.Sl.xw_then ?_
  have c5 : ∀ {G : List Hp} {R : Hp → List Hp} {ao : Option Addr} {n cap : Nat}, Sel G x92 R → (∀ c', Vw enB (St B w0 (R c')) (.slice ao n cap) (zs M)) → Go.Sl.Fn Try.prog 45 #[.pointer (some ⟨x36.1, 0, none⟩), .int .u64 t.length, .slice ao n cap, .bool true] B w0 G fun u G' => ∃ c' : Hp, u = .tuple #[.int .u64 ((m2 t M).more (t.length + (zs M).length)), .int .i64 0] ∧ InAt (m3 t M) x36.1 c' ∧ G' = R c' := fun hs hV => by
    have h := inAdd_c (B := B) (w0 := w0) (last := true) hs hq92 (w2 ht hM) (by have := zs_len hM.1; omega) (a5 ht hM) hV
    rw [(e5 ht hM).1, if_pos rfl] at h
    exact h
  refine Go.Sl.cw_seq ?_
  refine Go.Sl.cw_region ?_
  refine Go.Sl.ow_val rfl rfl (Go.Sl.v_move rfl) ?_
  refine Go.Sl.ow_val rfl rfl (Go.Sl.v_move rfl) ?_
  refine Go.Sl.ow_val rfl rfl (Go.Sl.v_move rfl) ?_
  refine Go.Sl.ow_makeL (En := enB) (a0 := 0) (n := M.toNat) rfl rfl Try.underlying57 u8Ty zB rfl rfl (Int.toNat_of_nonneg hM.1).symm (Int.toNat_of_nonneg hM.1).symm (by omega) (by omega) ?_
  intro ao99 c99 hL99
  have hL99 : Ls enB 5 (.slice ao99 M.toNat M.toNat) c99 (zs M) := hL99
  (refine Go.Sl.ow_call rfl rfl rfl rfl (c5 (by repeat (first | exact Go.Sl.Sel.here | apply Go.Sl.Sel.there)) (fun _ => Ls.vw hL99 (by repeat (first | exact Go.Sl.Sub.here | assumption | refine Go.Sl.Sub.there ?_)))) ?_; rintro _ _ ⟨x100, rfl, hq100, rfl⟩)
  refine Go.Sl.ow_val rfl rfl (Go.Sl.v_move rfl) ?_
  refine Go.Sl.ow_val rfl rfl (Go.Sl.v_extract rfl rfl) ?_
  refine Go.Sl.ow_val rfl rfl (Go.Sl.v_extract rfl rfl) ?_
  refine Go.Sl.ow_val rfl rfl (Go.Sl.v_assign rfl) ?_
  refine Go.Sl.ow_val rfl rfl (Go.Sl.v_assign rfl) ?_
  refine Go.Sl.ow_nil ?_
  refine Go.Sl.xw_then ?_
  have c6 : ∀ {G : List Hp}, Go.Sl.Sub x100 G → Go.Sl.Fn Try.prog 47 #[.pointer (some ⟨x36.1, 0, none⟩)] B w0 G fun u G' => u = .bool true ∧ G' = G := fun hs => by
    have h := inWhole_c (B := B) (w0 := w0) hq100 hs (w3 ht hM) (by rw [(s3 ht hM).1, y3 ht hM]; omega)
    rw [(s3 ht hM).1, (s3 ht hM).2.1, (s3 ht hM).2.2, y3 ht hM, Int.zero_add, decide_eq_true rfl] at h
    exact h
  refine Go.Sl.cw_seq ?_
  refine Go.Sl.cw_seq ?_
  refine Go.Sl.cw_region ?_
  refine Go.Sl.ow_val rfl rfl (Go.Sl.v_move rfl) ?_
  refine Go.Sl.ow_val rfl rfl (Go.Sl.v_neq rfl rfl) ?_
  refine Go.Sl.ow_val rfl rfl (Go.Sl.v_move rfl) ?_
  refine Go.Sl.ow_dec 105 rfl (fun hc105 => ?_) (fun hc105 => ?_)
  (exfalso; omega)
  refine Go.Sl.ow_val rfl rfl (Go.Sl.v_move rfl) ?_
  refine Go.Sl.ow_val rfl rfl (Go.Sl.v_neq rfl rfl) ?_
  refine Go.Sl.ow_val rfl rfl (Go.Sl.v_pick_false rfl rfl) ?_
  refine Go.Sl.ow_val rfl rfl (Go.Sl.v_move rfl) ?_
  refine Go.Sl.ow_dec 109 rfl (fun hc109 => ?_) (fun hc109 => ?_)
  (exfalso; omega)
  refine Go.Sl.ow_val rfl rfl (Go.Sl.v_move rfl) ?_
  refine Go.Sl.ow_val rfl rfl (Go.Sl.v_call rfl rfl (c6 (by repeat (first | exact Go.Sl.Sub.here | assumption | refine Go.Sl.Sub.there ?_)))) ?_
  refine Go.Sl.ow_val rfl rfl (Go.Sl.v_not_true rfl) ?_
  refine Go.Sl.ow_val rfl rfl (Go.Sl.v_pick_false rfl rfl) ?_
  refine Go.Sl.ow_nil ?_
  refine Go.Sl.xw_then ?_
  refine Go.Sl.cw_false rfl ?_
  refine Go.Sl.cw_skip ?_
  refine Go.Sl.xw_then ?_
  have hmn : (m3 t M).many 1000 = t.length + M.toNat := by unfold InM.many; rw [y3 ht hM]; omega
  have hby : (m3 t M).bytes (t.length + M.toNat) = t ++ zs M := by
    have hz := zs_len hM.1
    rw [(r3 ht hM).bytes (w3 ht hM) (by rw [y3 ht hM]; omega), (s3 ht hM).1]
    exact List.take_of_length_le (by simp; omega)
  have c7 : ∀ {G : List Hp} {R : Hp → List Hp}, Sel G x100 R → Go.Sl.Fn Try.prog 46 #[.pointer (some ⟨x36.1, 0, none⟩), .int .i64 1000] B w0 G fun u G' => ∃ x : Option Addr × Nat × Hp × Hp, u = .tuple #[.slice x.1 (t ++ zs M).length x.2.1, .bool true] ∧ (Ls enB 5 (.slice x.1 (t ++ zs M).length x.2.1) x.2.2.1 (t ++ zs M) ∧ InAt ((m3 t M).off (t.length + M.toNat)) x36.1 x.2.2.2) ∧ G' = [x.2.2.1] ++ R x.2.2.2 := fun hs => by
    have h := inRead_c (B := B) (w0 := w0) (many := 1000) hs hq100 (w3 ht hM) (by decide)
    rw [hmn, hby, (s3 ht hM).1, (s3 ht hM).2.1, (s3 ht hM).2.2, show (true && decide ((0 : Int) + ((t.length + M.toNat : Nat) : Int) = (t.length : Int) + M)) = true from by rw [Bool.true_and]; exact decide_eq_true (by omega)] at h
    exact h
  refine Go.Sl.cw_seq ?_
  refine Go.Sl.cw_region ?_
  refine Go.Sl.ow_val rfl rfl (Go.Sl.v_move rfl) ?_
  (refine Go.Sl.ow_call rfl rfl rfl rfl (c7 (by repeat (first | exact Go.Sl.Sel.here | apply Go.Sl.Sel.there))) ?_; rintro _ _ ⟨x116, rfl, hq116, rfl⟩)
  refine Go.Sl.ow_val rfl rfl (Go.Sl.v_move rfl) ?_
  refine Go.Sl.ow_val rfl rfl (Go.Sl.v_extract rfl rfl) ?_
  refine Go.Sl.ow_val rfl rfl (Go.Sl.v_extract rfl rfl) ?_
  refine Go.Sl.ow_val rfl rfl (Go.Sl.v_assign rfl) ?_
  refine Go.Sl.ow_val rfl rfl (Go.Sl.v_assign rfl) ?_
  refine Go.Sl.ow_nil ?_
  refine Go.Sl.xw_then ?_
  obtain ⟨hq116, hO4⟩ := hq116
  have c8 : ∀ {G : List Hp} {R : Hp → List Hp}, Sel G x116.2.2.2 R → Go.Sl.Fn Try.prog 46 #[.pointer (some ⟨x36.1, 0, none⟩), .int .i64 5] B w0 G fun u G' => ∃ x : Option Addr × Nat × Hp × Hp, u = .tuple #[.slice x.1 ([] : List UInt8).length x.2.1, .bool true] ∧ True ∧ G' = [x.2.2.1] ++ R x.2.2.2 := fun hs => by
    have h := inRead_c (B := B) (w0 := w0) (many := 5) hs hO4 (w4 ht hM) (by decide)
    have e0 : ((m3 t M).off (t.length + M.toNat)).many 5 = 0 := by unfold InM.many; rw [y4 ht hM]; rfl
    have e6 : (((m3 t M).off (t.length + M.toNat)).known && decide (((m3 t M).off (t.length + M.toNat)).read + ((0 : Nat) : Int) = ((m3 t M).off (t.length + M.toNat)).final)) = true := by
      show ((m3 t M).known && decide ((m3 t M).read + ((t.length + M.toNat : Nat) : Int) + ((0 : Nat) : Int) = (m3 t M).final)) = true
      rw [(s3 ht hM).1, (s3 ht hM).2.1, (s3 ht hM).2.2, Bool.true_and]
      exact decide_eq_true (by omega)
    rw [e0, e6] at h
    refine h.mono ?_
    rintro u G' ⟨x, rfl, _, rfl⟩
    exact ⟨x, rfl, trivial, rfl⟩
  refine Go.Sl.cw_seq ?_
  refine Go.Sl.cw_region ?_
  refine Go.Sl.ow_val rfl rfl (Go.Sl.v_move rfl) ?_
  (refine Go.Sl.ow_call rfl rfl rfl rfl (c8 (by repeat (first | exact Go.Sl.Sel.here | apply Go.Sl.Sel.there))) ?_; rintro _ _ ⟨x121, rfl, hq121, rfl⟩)
  refine Go.Sl.ow_val rfl rfl (Go.Sl.v_move rfl) ?_
  refine Go.Sl.ow_val rfl rfl (Go.Sl.v_extract rfl rfl) ?_
  refine Go.Sl.ow_val rfl rfl (Go.Sl.v_extract rfl rfl) ?_
  refine Go.Sl.ow_val rfl rfl (Go.Sl.v_assign rfl) ?_
  refine Go.Sl.ow_val rfl rfl (Go.Sl.v_assign rfl) ?_
  refine Go.Sl.ow_nil ?_
  refine Go.Sl.xw_then ?_
  refine Go.Sl.cw_seq ?_
  refine Go.Sl.cw_any Ty.mixed ?_
  refine Go.Sl.aw_pure 0 rfl (by decide +kernel) rfl rfl (Go.Sl.v_move rfl) rfl ?_
  refine Go.Sl.aw_pure 1 rfl (by decide +kernel) rfl rfl (Go.Sl.v_move rfl) rfl ?_
  refine Go.Sl.aw_pure 2 rfl (by decide +kernel) rfl rfl (Go.Sl.v_move rfl) rfl ?_
  refine Go.Sl.aw_pure 3 rfl (by decide +kernel) rfl rfl (Go.Sl.v_pick_true rfl rfl) rfl ?_
  refine Go.Sl.aw_pure 4 rfl (by decide +kernel) rfl rfl (Go.Sl.v_move rfl) rfl ?_
  refine Go.Sl.aw_pure 5 rfl (by decide +kernel) rfl rfl (Go.Sl.v_move rfl) rfl ?_
  refine Go.Sl.aw_pure 6 rfl (by decide +kernel) rfl rfl (Go.Sl.v_len rfl Try.underlying57 rfl) rfl ?_
  refine Go.Sl.aw_pure 7 rfl (by decide +kernel) rfl rfl (Go.Sl.v_eql rfl rfl) rfl ?_
  refine Go.Sl.aw_pure 8 rfl (by decide +kernel) rfl rfl (Go.Sl.v_pick_true rfl rfl) rfl ?_
  refine Go.Sl.aw_pure 9 rfl (by decide +kernel) rfl rfl (Go.Sl.v_move rfl) rfl ?_
  refine Go.Sl.aw_pure 10 rfl (by decide +kernel) rfl rfl (Go.Sl.v_move rfl) rfl ?_
  refine Go.Sl.aw_pure 13 rfl (by decide +kernel) rfl rfl (Go.Sl.v_move rfl) rfl ?_
  refine Go.Sl.aw_pure 15 rfl (by decide +kernel) rfl rfl (Go.Sl.v_move rfl) rfl ?_
  refine Go.Sl.aw_step2 11 12 (by decide +kernel) rfl rfl ?_ ?_
  refine Go.Sl.ow_dec 133 rfl (fun hc133 => ?_) (fun hc133 => ?_)
  refine Go.Sl.ow_val rfl rfl (Go.Sl.v_str Try.underlying9 Try.underlying57 Try.underlying5 rfl ((Ls.vw hq116 (by repeat (first | exact Go.Sl.Sub.here | assumption | refine Go.Sl.Sub.there ?_))))) ?_
  refine Go.Sl.ow_nil ?_
  refine Go.Sl.xw_nx ?_
  refine Go.Sl.aw_step1 12 (by decide +kernel) rfl ?_
  (refine Go.Sl.ow_buildL (es := []) rfl rfl Try.underlying57 Ty.em57 (u8Ty) rfl rfl (by simp [*]) (by simp only [List.length_cons, List.length_nil]; decide) ?_; intro ao136 c136 hL136)
  refine Go.Sl.ow_nil ?_
  refine Go.Sl.xw_nx ?_
  refine Go.Sl.aw_step1 14 (by decide +kernel) rfl ?_
  (refine Go.Sl.ow_appendL rfl rfl Try.underlying57 Try.underlying57 Ty.em57 (u8Ty) rfl rfl (by assumption) (by repeat (first | exact Go.Sl.Sel.here | apply Go.Sl.Sel.there)) (hT _) (by first | omega | (simp only [List.length_append, List.length_take, List.length_drop, List.length_nil, List.length_cons]; omega)) (by first | omega | (simp only [List.length_append, List.length_take, List.length_drop, List.length_nil, List.length_cons]; omega)) ?_; intro ao138 cap138 c138 hL138)
  refine Go.Sl.ow_nil ?_
  refine Go.Sl.xw_nx ?_
  refine Go.Sl.aw_step1 16 (by decide +kernel) rfl ?_
  rotate_left
  refine Go.Sl.ow_skip rfl rfl ?_
  refine Go.Sl.ow_nil ?_
  refine Go.Sl.xw_nx ?_
  refine Go.Sl.aw_step1 12 (by decide +kernel) rfl ?_
  refine Go.Sl.ow_skip rfl rfl ?_
  refine Go.Sl.ow_nil ?_
  refine Go.Sl.xw_nx ?_
  refine Go.Sl.aw_step1 14 (by decide +kernel) rfl ?_
  refine Go.Sl.ow_skip rfl rfl ?_
  refine Go.Sl.ow_nil ?_
  refine Go.Sl.xw_nx ?_
  refine Go.Sl.aw_step1 16 (by decide +kernel) rfl ?_
  refine Go.Sl.ow_skip rfl rfl ?_
  refine Go.Sl.ow_nil ?_
  refine Go.Sl.xw_nx ?_
  refine Go.Sl.aw_step1 17 (by decide +kernel) rfl ?_
  refine Go.Sl.ow_skip rfl rfl ?_
  refine Go.Sl.ow_nil ?_
  refine Go.Sl.xw_nx ?_
  refine Go.Sl.aw_step1 18 (by decide +kernel) rfl ?_
  refine Go.Sl.ow_skip rfl rfl ?_
  refine Go.Sl.ow_nil ?_
  refine Go.Sl.xw_nx ?_
  refine Go.Sl.aw_pure 19 rfl (by decide +kernel) rfl rfl (Go.Sl.v_pick_false rfl rfl) rfl ?_
  refine Go.Sl.aw_pure 20 rfl (by decide +kernel) rfl rfl (Go.Sl.v_assign rfl) rfl ?_
  refine Go.Sl.aw_end (by decide +kernel) ?_
  refine Go.Sl.xw_np ?_
  refine Go.Sl.xw_then ?_
  refine Go.Sl.cw_ret ?_
  refine Go.Sl.ret1 rfl (Go.Sl.res_tmp rfl) ?_
  rotate_left
  refine Go.Sl.ow_dec 133 rfl (fun hc133 => ?_) (fun hc133 => ?_)
  (refine Go.Sl.ow_buildL (es := []) rfl rfl Try.underlying57 Ty.em57 (u8Ty) rfl rfl (by simp [*]) (by simp only [List.length_cons, List.length_nil]; decide) ?_; intro ao136 c136 hL136)
  refine Go.Sl.ow_nil ?_
  refine Go.Sl.xw_nx ?_
  refine Go.Sl.aw_step2 11 14 (by decide +kernel) rfl rfl ?_ ?_
  refine Go.Sl.ow_val rfl rfl (Go.Sl.v_str Try.underlying9 Try.underlying57 Try.underlying5 rfl ((Ls.vw hq116 (by repeat (first | exact Go.Sl.Sub.here | assumption | refine Go.Sl.Sub.there ?_))))) ?_
  refine Go.Sl.ow_nil ?_
  refine Go.Sl.xw_nx ?_
  refine Go.Sl.aw_step1 14 (by decide +kernel) rfl ?_
  (refine Go.Sl.ow_appendL rfl rfl Try.underlying57 Try.underlying57 Ty.em57 (u8Ty) rfl rfl (by assumption) (by repeat (first | exact Go.Sl.Sel.here | apply Go.Sl.Sel.there)) (hT _) (by first | omega | (simp only [List.length_append, List.length_take, List.length_drop, List.length_nil, List.length_cons]; omega)) (by first | omega | (simp only [List.length_append, List.length_take, List.length_drop, List.length_nil, List.length_cons]; omega)) ?_; intro ao138 cap138 c138 hL138)
  refine Go.Sl.ow_nil ?_
  refine Go.Sl.xw_nx ?_
  refine Go.Sl.aw_step1 16 (by decide +kernel) rfl ?_
  rotate_left
  (refine Go.Sl.ow_appendL rfl rfl Try.underlying57 Try.underlying57 Ty.em57 (u8Ty) rfl rfl (by assumption) (by repeat (first | exact Go.Sl.Sel.here | apply Go.Sl.Sel.there)) (hT _) (by first | omega | (simp only [List.length_append, List.length_take, List.length_drop, List.length_nil, List.length_cons]; omega)) (by first | omega | (simp only [List.length_append, List.length_take, List.length_drop, List.length_nil, List.length_cons]; omega)) ?_; intro ao138 cap138 c138 hL138)
  refine Go.Sl.ow_nil ?_
  refine Go.Sl.xw_nx ?_
  refine Go.Sl.aw_step2 11 16 (by decide +kernel) rfl rfl ?_ ?_
  refine Go.Sl.ow_val rfl rfl (Go.Sl.v_str Try.underlying9 Try.underlying57 Try.underlying5 rfl ((Ls.vw hq116 (by repeat (first | exact Go.Sl.Sub.here | assumption | refine Go.Sl.Sub.there ?_))))) ?_
  refine Go.Sl.ow_nil ?_
  refine Go.Sl.xw_nx ?_
  refine Go.Sl.aw_step1 16 (by decide +kernel) rfl ?_
  rotate_left
  rotate_left
  refine Go.Sl.ow_skip rfl rfl ?_
  refine Go.Sl.ow_nil ?_
  refine Go.Sl.xw_nx ?_
  refine Go.Sl.aw_step2 11 14 (by decide +kernel) rfl rfl ?_ ?_
  refine Go.Sl.ow_skip rfl rfl ?_
  refine Go.Sl.ow_nil ?_
  refine Go.Sl.xw_nx ?_
  refine Go.Sl.aw_step1 14 (by decide +kernel) rfl ?_
  refine Go.Sl.ow_skip rfl rfl ?_
  refine Go.Sl.ow_nil ?_
  refine Go.Sl.xw_nx ?_
  refine Go.Sl.aw_step1 16 (by decide +kernel) rfl ?_
  refine Go.Sl.ow_skip rfl rfl ?_
  refine Go.Sl.ow_nil ?_
  refine Go.Sl.xw_nx ?_
  refine Go.Sl.aw_step1 17 (by decide +kernel) rfl ?_
  refine Go.Sl.ow_skip rfl rfl ?_
  refine Go.Sl.ow_nil ?_
  refine Go.Sl.xw_nx ?_
  refine Go.Sl.aw_step1 18 (by decide +kernel) rfl ?_
  refine Go.Sl.ow_skip rfl rfl ?_
  refine Go.Sl.ow_nil ?_
  refine Go.Sl.xw_nx ?_
  refine Go.Sl.aw_pure 19 rfl (by decide +kernel) rfl rfl (Go.Sl.v_pick_false rfl rfl) rfl ?_
  refine Go.Sl.aw_pure 20 rfl (by decide +kernel) rfl rfl (Go.Sl.v_assign rfl) rfl ?_
  refine Go.Sl.aw_end (by decide +kernel) ?_
  refine Go.Sl.xw_np ?_
  refine Go.Sl.xw_then ?_
  refine Go.Sl.cw_ret ?_
  refine Go.Sl.ret1 rfl (Go.Sl.res_tmp rfl) ?_
  rotate_left
  refine Go.Sl.ow_skip rfl rfl ?_
  refine Go.Sl.ow_nil ?_
  refine Go.Sl.xw_nx ?_
  refine Go.Sl.aw_step2 11 16 (by decide +kernel) rfl rfl ?_ ?_
  refine Go.Sl.ow_skip rfl rfl ?_
  refine Go.Sl.ow_nil ?_
  refine Go.Sl.xw_nx ?_
  refine Go.Sl.aw_step1 16 (by decide +kernel) rfl ?_
  refine Go.Sl.ow_skip rfl rfl ?_
  refine Go.Sl.ow_nil ?_
  refine Go.Sl.xw_nx ?_
  refine Go.Sl.aw_step1 17 (by decide +kernel) rfl ?_
  refine Go.Sl.ow_skip rfl rfl ?_
  refine Go.Sl.ow_nil ?_
  refine Go.Sl.xw_nx ?_
  refine Go.Sl.aw_step1 18 (by decide +kernel) rfl ?_
  refine Go.Sl.ow_skip rfl rfl ?_
  refine Go.Sl.ow_nil ?_
  refine Go.Sl.xw_nx ?_
  refine Go.Sl.aw_pure 19 rfl (by decide +kernel) rfl rfl (Go.Sl.v_pick_false rfl rfl) rfl ?_
  refine Go.Sl.aw_pure 20 rfl (by decide +kernel) rfl rfl (Go.Sl.v_assign rfl) rfl ?_
  refine Go.Sl.aw_end (by decide +kernel) ?_
  refine Go.Sl.xw_np ?_
  refine Go.Sl.xw_then ?_
  refine Go.Sl.cw_ret ?_
  refine Go.Sl.ret1 rfl (Go.Sl.res_tmp rfl) ?_
  rotate_left
  refine Go.Sl.ow_skip rfl rfl ?_
  refine Go.Sl.ow_nil ?_
  refine Go.Sl.xw_nx ?_
  refine Go.Sl.aw_step2 11 17 (by decide +kernel) rfl rfl ?_ ?_
  refine Go.Sl.ow_skip rfl rfl ?_
  refine Go.Sl.ow_nil ?_
  refine Go.Sl.xw_nx ?_
  refine Go.Sl.aw_step1 17 (by decide +kernel) rfl ?_
  refine Go.Sl.ow_skip rfl rfl ?_
  refine Go.Sl.ow_nil ?_
  refine Go.Sl.xw_nx ?_
  refine Go.Sl.aw_step1 18 (by decide +kernel) rfl ?_
  refine Go.Sl.ow_skip rfl rfl ?_
  refine Go.Sl.ow_nil ?_
  refine Go.Sl.xw_nx ?_
  refine Go.Sl.aw_pure 19 rfl (by decide +kernel) rfl rfl (Go.Sl.v_pick_false rfl rfl) rfl ?_
  refine Go.Sl.aw_pure 20 rfl (by decide +kernel) rfl rfl (Go.Sl.v_assign rfl) rfl ?_
  refine Go.Sl.aw_end (by decide +kernel) ?_
  refine Go.Sl.xw_np ?_
  refine Go.Sl.xw_then ?_
  refine Go.Sl.cw_ret ?_
  refine Go.Sl.ret1 rfl (Go.Sl.res_tmp rfl) ?_
  rotate_left
  refine Go.Sl.ow_skip rfl rfl ?_
  refine Go.Sl.ow_nil ?_
  refine Go.Sl.xw_nx ?_
  refine Go.Sl.aw_step1 11 (by decide +kernel) rfl ?_
  refine Go.Sl.ow_skip rfl rfl ?_
  refine Go.Sl.ow_nil ?_
  refine Go.Sl.xw_nx ?_
  refine Go.Sl.aw_step1 18 (by decide +kernel) rfl ?_
  refine Go.Sl.ow_skip rfl rfl ?_
  refine Go.Sl.ow_nil ?_
  refine Go.Sl.xw_nx ?_
  refine Go.Sl.aw_pure 19 rfl (by decide +kernel) rfl rfl (Go.Sl.v_pick_false rfl rfl) rfl ?_
  refine Go.Sl.aw_pure 20 rfl (by decide +kernel) rfl rfl (Go.Sl.v_assign rfl) rfl ?_
  refine Go.Sl.aw_end (by decide +kernel) ?_
  refine Go.Sl.xw_np ?_
  refine Go.Sl.xw_then ?_
  refine Go.Sl.cw_ret ?_
  refine Go.Sl.ret1 rfl (Go.Sl.res_tmp rfl) ?_
  rotate_left
  · refine Go.Sl.ow_appendZs (En := enB) (a0 := 0) (m := M.toNat) rfl rfl Try.underlying57 Try.underlying5 u8Ty zB rfl rfl (Int.toNat_of_nonneg hM.1).symm (by assumption) (by repeat (first | exact Go.Sl.Sel.here | apply Go.Sl.Sel.there)) (by simp; omega) (by simp; omega) ?_
    intro ao140 cap140 c140 hL140
    refine Go.Sl.ow_nil ?_
    refine Go.Sl.xw_nx ?_
    refine Go.Sl.aw_step1 17 (by decide +kernel) rfl ?_
    refine Go.Sl.ow_val rfl rfl (Go.Sl.v_str Try.underlying9 Try.underlying57 Try.underlying5 rfl ((Ls.vw hL140 (by repeat (first | exact Go.Sl.Sub.here | assumption | refine Go.Sl.Sub.there ?_))))) ?_
    refine Go.Sl.ow_nil ?_
    refine Go.Sl.xw_nx ?_
    refine Go.Sl.aw_pure 18 rfl (by decide +kernel) rfl rfl (Go.Sl.v_eqlS rfl rfl) rfl ?_
    refine Go.Sl.aw_pure 19 rfl (by decide +kernel) rfl rfl (Go.Sl.v_pick_true rfl rfl) rfl ?_
    refine Go.Sl.aw_pure 20 rfl (by decide +kernel) rfl rfl (Go.Sl.v_assign rfl) rfl ?_
    refine Go.Sl.aw_end (by decide +kernel) ?_
    refine Go.Sl.xw_np ?_
    refine Go.Sl.xw_then ?_
    refine Go.Sl.cw_ret ?_
    refine Go.Sl.ret1 rfl (Go.Sl.res_tmp rfl) ?_
    all_goals exact done0 (congrArg Value.bool (decide_eq_true rfl)) (by first | exact Go.Sl.Cov.refl _ | (intro p; simp only [List.flatten_cons, List.flatten_nil, List.flatten_append, List.append_nil, List.nil_append, Go.Sl.cnt_append, Go.Sl.cnt_cons, Go.Sl.cnt_nil, List.set_cons_zero, List.set_cons_succ, List.length_nil, List.length_cons, Nat.zero_add, List.append]; omega))
  · exact absurd rfl hc133
  · refine Go.Sl.ow_appendZs (En := enB) (a0 := 0) (m := M.toNat) rfl rfl Try.underlying57 Try.underlying5 u8Ty zB rfl rfl (Int.toNat_of_nonneg hM.1).symm (by assumption) (by repeat (first | exact Go.Sl.Sel.here | apply Go.Sl.Sel.there)) (by simp; omega) (by simp; omega) ?_
    intro ao140 cap140 c140 hL140
    refine Go.Sl.ow_nil ?_
    refine Go.Sl.xw_nx ?_
    refine Go.Sl.aw_step1 17 (by decide +kernel) rfl ?_
    refine Go.Sl.ow_val rfl rfl (Go.Sl.v_str Try.underlying9 Try.underlying57 Try.underlying5 rfl ((Ls.vw hL140 (by repeat (first | exact Go.Sl.Sub.here | assumption | refine Go.Sl.Sub.there ?_))))) ?_
    refine Go.Sl.ow_nil ?_
    refine Go.Sl.xw_nx ?_
    refine Go.Sl.aw_pure 18 rfl (by decide +kernel) rfl rfl (Go.Sl.v_eqlS rfl rfl) rfl ?_
    refine Go.Sl.aw_pure 19 rfl (by decide +kernel) rfl rfl (Go.Sl.v_pick_true rfl rfl) rfl ?_
    refine Go.Sl.aw_pure 20 rfl (by decide +kernel) rfl rfl (Go.Sl.v_assign rfl) rfl ?_
    refine Go.Sl.aw_end (by decide +kernel) ?_
    refine Go.Sl.xw_np ?_
    refine Go.Sl.xw_then ?_
    refine Go.Sl.cw_ret ?_
    refine Go.Sl.ret1 rfl (Go.Sl.res_tmp rfl) ?_
    all_goals exact done0 (congrArg Value.bool (decide_eq_true rfl)) (by first | exact Go.Sl.Cov.refl _ | (intro p; simp only [List.flatten_cons, List.flatten_nil, List.flatten_append, List.append_nil, List.nil_append, Go.Sl.cnt_append, Go.Sl.cnt_cons, Go.Sl.cnt_nil, List.set_cons_zero, List.set_cons_succ, List.length_nil, List.length_cons, Nat.zero_add, List.append]; omega))
  · refine Go.Sl.ow_appendZs (En := enB) (a0 := 0) (m := M.toNat) rfl rfl Try.underlying57 Try.underlying5 u8Ty zB rfl rfl (Int.toNat_of_nonneg hM.1).symm (by assumption) (by repeat (first | exact Go.Sl.Sel.here | apply Go.Sl.Sel.there)) (by simp; omega) (by simp; omega) ?_
    intro ao140 cap140 c140 hL140
    refine Go.Sl.ow_nil ?_
    refine Go.Sl.xw_nx ?_
    refine Go.Sl.aw_step1 17 (by decide +kernel) rfl ?_
    refine Go.Sl.ow_val rfl rfl (Go.Sl.v_str Try.underlying9 Try.underlying57 Try.underlying5 rfl ((Ls.vw hL140 (by repeat (first | exact Go.Sl.Sub.here | assumption | refine Go.Sl.Sub.there ?_))))) ?_
    refine Go.Sl.ow_nil ?_
    refine Go.Sl.xw_nx ?_
    refine Go.Sl.aw_pure 18 rfl (by decide +kernel) rfl rfl (Go.Sl.v_eqlS rfl rfl) rfl ?_
    refine Go.Sl.aw_pure 19 rfl (by decide +kernel) rfl rfl (Go.Sl.v_pick_true rfl rfl) rfl ?_
    refine Go.Sl.aw_pure 20 rfl (by decide +kernel) rfl rfl (Go.Sl.v_assign rfl) rfl ?_
    refine Go.Sl.aw_end (by decide +kernel) ?_
    refine Go.Sl.xw_np ?_
    refine Go.Sl.xw_then ?_
    refine Go.Sl.cw_ret ?_
    refine Go.Sl.ret1 rfl (Go.Sl.res_tmp rfl) ?_
    all_goals exact done0 (congrArg Value.bool (decide_eq_true rfl)) (by first | exact Go.Sl.Cov.refl _ | (intro p; simp only [List.flatten_cons, List.flatten_nil, List.flatten_append, List.append_nil, List.nil_append, Go.Sl.cnt_append, Go.Sl.cnt_cons, Go.Sl.cnt_nil, List.set_cons_zero, List.set_cons_succ, List.length_nil, List.length_cons, Nat.zero_add, List.append]; omega))
  · refine Go.Sl.ow_appendZs (En := enB) (a0 := 0) (m := M.toNat) rfl rfl Try.underlying57 Try.underlying5 u8Ty zB rfl rfl (Int.toNat_of_nonneg hM.1).symm (by assumption) (by repeat (first | exact Go.Sl.Sel.here | apply Go.Sl.Sel.there)) (by simp; omega) (by simp; omega) ?_
    intro ao140 cap140 c140 hL140
    refine Go.Sl.ow_nil ?_
    refine Go.Sl.xw_nx ?_
    refine Go.Sl.aw_step2 11 17 (by decide +kernel) rfl rfl ?_ ?_
    refine Go.Sl.ow_val rfl rfl (Go.Sl.v_str Try.underlying9 Try.underlying57 Try.underlying5 rfl ((Ls.vw hq116 (by repeat (first | exact Go.Sl.Sub.here | assumption | refine Go.Sl.Sub.there ?_))))) ?_
    refine Go.Sl.ow_nil ?_
    refine Go.Sl.xw_nx ?_
    refine Go.Sl.aw_step1 17 (by decide +kernel) rfl ?_
    refine Go.Sl.ow_val rfl rfl (Go.Sl.v_str Try.underlying9 Try.underlying57 Try.underlying5 rfl ((Ls.vw hL140 (by repeat (first | exact Go.Sl.Sub.here | assumption | refine Go.Sl.Sub.there ?_))))) ?_
    refine Go.Sl.ow_nil ?_
    refine Go.Sl.xw_nx ?_
    refine Go.Sl.aw_pure 18 rfl (by decide +kernel) rfl rfl (Go.Sl.v_eqlS rfl rfl) rfl ?_
    refine Go.Sl.aw_pure 19 rfl (by decide +kernel) rfl rfl (Go.Sl.v_pick_true rfl rfl) rfl ?_
    refine Go.Sl.aw_pure 20 rfl (by decide +kernel) rfl rfl (Go.Sl.v_assign rfl) rfl ?_
    refine Go.Sl.aw_end (by decide +kernel) ?_
    refine Go.Sl.xw_np ?_
    refine Go.Sl.xw_then ?_
    refine Go.Sl.cw_ret ?_
    refine Go.Sl.ret1 rfl (Go.Sl.res_tmp rfl) ?_
    rotate_left
    refine Go.Sl.ow_val rfl rfl (Go.Sl.v_str Try.underlying9 Try.underlying57 Try.underlying5 rfl ((Ls.vw hL140 (by repeat (first | exact Go.Sl.Sub.here | assumption | refine Go.Sl.Sub.there ?_))))) ?_
    refine Go.Sl.ow_nil ?_
    refine Go.Sl.xw_nx ?_
    refine Go.Sl.aw_step1 11 (by decide +kernel) rfl ?_
    refine Go.Sl.ow_val rfl rfl (Go.Sl.v_str Try.underlying9 Try.underlying57 Try.underlying5 rfl ((Ls.vw hq116 (by repeat (first | exact Go.Sl.Sub.here | assumption | refine Go.Sl.Sub.there ?_))))) ?_
    refine Go.Sl.ow_nil ?_
    refine Go.Sl.xw_nx ?_
    refine Go.Sl.aw_pure 18 rfl (by decide +kernel) rfl rfl (Go.Sl.v_eqlS rfl rfl) rfl ?_
    refine Go.Sl.aw_pure 19 rfl (by decide +kernel) rfl rfl (Go.Sl.v_pick_true rfl rfl) rfl ?_
    refine Go.Sl.aw_pure 20 rfl (by decide +kernel) rfl rfl (Go.Sl.v_assign rfl) rfl ?_
    refine Go.Sl.aw_end (by decide +kernel) ?_
    refine Go.Sl.xw_np ?_
    refine Go.Sl.xw_then ?_
    refine Go.Sl.cw_ret ?_
    refine Go.Sl.ret1 rfl (Go.Sl.res_tmp rfl) ?_
    rotate_left
    all_goals exact done0 (congrArg Value.bool (decide_eq_true rfl)) (by first | exact Go.Sl.Cov.refl _ | (intro p; simp only [List.flatten_cons, List.flatten_nil, List.flatten_append, List.append_nil, List.nil_append, Go.Sl.cnt_append, Go.Sl.cnt_cons, Go.Sl.cnt_nil, List.set_cons_zero, List.set_cons_succ, List.length_nil, List.length_cons, Nat.zero_add, List.append]; omega))
  all_goals exact absurd rfl hc133

theorem walk {H : Type} {enc : TypeId × Value → H} (W : World) (base : Nat) (args : Array Value) (ds : List (DataW H)) (p : List MemPlace)
    (hval : ∀ (j : Nat) t v, Try.f10.params[j]? = some t → args[j]? = some v → Value.okWide Try.prog W .any base t v)
    (hA : DataW.TrodAll enc Try.prog W 0 (fun _ => true) true Try.f10.params.toList args.toList ds p) :
    Calls Try.prog 10 args W fun e w' => e = .returned (.bool true) ∧ Below W.heap.size W w' := by
  rw [Try.params10] at hA hval
  obtain ⟨v0, vs0, d0, ds0, p0, q0, hargs, rfl, rfl, h0, r0⟩ := trodAll_cons hA
  obtain ⟨v1, vs1, d1, ds1, p1, q1, rfl, rfl, rfl, h1, r1⟩ := trodAll_cons r0
  obtain ⟨v2, vs2, d2, ds2, p2, q2, rfl, rfl, rfl, h2, r2⟩ := trodAll_cons r1
  obtain ⟨rfl, rfl, rfl⟩ := trodAll_nil r2
  obtain rfl : args = #[v0, v1, v2] := by cases args; simp_all
  obtain ⟨t, aoT, capT, rfl, hl, hct, hT⟩ := open_bytes (hval 0 57 v0 rfl rfl) h0
  obtain ⟨n1, rfl, w1⟩ := open_u8 (hval 1 5 v1 rfl rfl) h1
  obtain ⟨n2, rfl, w2⟩ := open_u8 (hval 2 5 v2 rfl rfl) h2
  exact (law w1 w2 hl hct hT []).call

theorem own : ownKnob Try.prog.godebug = none := by kernel_rfl
theorem laidOut : laidOutB Try.prog = true := by kernel_rfl
theorem reads : ∀ t ∈ Try.f10.params.toList, Try.prog.readableRec t = true ∧ t < Try.prog.types.size := by
  rw [Try.params10]
  intro t ht
  simp only [List.mem_cons, List.not_mem_nil, or_false] at ht
  rcases ht with rfl | rfl | rfl
  · exact ⟨by kernel_rfl, of_decide_eq_true (by kernel_rfl)⟩
  · exact ⟨by kernel_rfl, of_decide_eq_true (by kernel_rfl)⟩
  · exact ⟨by kernel_rfl, of_decide_eq_true (by kernel_rfl)⟩

set_option maxRecDepth 100000 in
theorem lifted (os : Os) (started : os.Started) (H : Type) (enc : TypeId × Value → H) :
    ReturnsInHanded {} Try.checked os 10 .any (Rows.inbufEndsSpec.pre6 enc Try.prog Try.f10 Rows.inbufEndsRow.domain false) (Rows.inbufEndsSpec.post enc Try.prog Try.f10 false true false false) := by
  refine returnsInHanded_of_change (C := Try.checked) own started (by kernel_rfl) Try.func10
    (ChangeSpec.witness6 (enc := enc) (C := Try.checked) false ⟨#[], #[.slice none 0 0, .int .u8 0, .int .u8 0], []⟩ 8 (by kernel_rfl) (by kernel_rfl) (by kernel_rfl) (by kernel_rfl)) ?_
  intro W base args ds gs before hval hW _ _
  have hW' := hW
  obtain ⟨p, q, hA0, hV, rfl, _, _⟩ := hW
  obtain ⟨rfl, rfl⟩ := trodVars_none hV
  have hA : DataW.TrodAll enc Try.prog W 0 (fun _ => true) true Try.f10.params.toList args.toList ds p := hA0
  have hlen := trodAll_len hA
  refine (walk W base args ds p hval hA).mono fun e W' ⟨he, bel⟩ => ?_
  subst he
  rw [Try.params10] at hlen
  match ds, hlen.2, hA, hW' with
  | [d0, d1, d2], _, hA, hW' => exact ⟨_, rfl, _, _, _, [], _, [], hW', trodAll_mk1 (shut_bool Try.underlying4 _), trodAll_stays laidOut bel reads hA, rfl, bel.frame _, fun h => by cases h⟩

theorem over : Rows.inbufEndsRow.holds Try.pinned (OpenSpec.ofChange Rows.inbufEndsSpec) :=
  OpenClaim.holds_of_wide 10 Try.f10 rfl rfl rfl rfl rfl rfl rfl ⟨rfl, rfl, rfl, rfl, rfl⟩ rfl rfl rfl rfl rfl (by kernel_rfl) Try.func10 (by kernel_rfl)
    (of_decide_eq_true (by kernel_rfl)) (by unfold Func.isWrapper; first | (rw [if_pos (by decide +kernel)]; kernel_rfl) | (rw [if_neg (by decide +kernel)]; exact ⟨rfl, rfl⟩))
    (fun os started H enc _ => lifted os started H enc)

theorem proved : Rows.InbufEndsSaid := over

end Go.Proofs.Ytbpnnkkbaakdjaa.lawInbufEnds
