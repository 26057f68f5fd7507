/- OutbufWhole: whatever the input it returns true, and the input reads as it did. Conditions: none. -/
import Derived.Test.YtbpnnkkbaakdjaaOutLaw
import Derived.Test.YtbpnnkkbaakdjaaForm
import Derived.Test.YtbpnnkkbaakdjaaMake
namespace Go.Proofs.Ytbpnnkkbaakdjaa.lawOutbufWhole
open Go Go.Sl Go.Proofs Go.RowKit Go.ChangeShapes Go.WideShapes Go.ChangeAt Go.Proofs.Ytbpnnkkbaakdjaa
set_option maxRecDepth 20000
set_option linter.unusedVariables false
set_option linter.unusedSimpArgs false

def enBo : Enc Bool := ⟨fun b => [.bool b], 1, fun b => .bool b, fun _ => True⟩
theorem boTy : EncTy Try.prog 4 enBo := EncTy.scalar Ty.sc4 rfl (fun _ => rfl) (fun _ => rfl)
theorem zB : ZeroE Try.prog 5 enB 0 1 := ZeroE.of (by kernel_rfl) trivial

/-- a buffer of which k bytes came, all else is pending -/
def mW (t : List UInt8) (k : Nat) (e : Bool) : BufM := ⟨t.drop k, k, rngL k t.length, rngL 0 k, true, !e, e⟩
/-- and m bytes more are on their way -/
def mS (t : List UInt8) (k m : Nat) : BufM := ⟨t.drop k, k, rngL (k + m : Nat) t.length, rngL 0 k, true, !(decide (k + m = t.length)), false⟩
theorem mWS_wf {t : List UInt8} {k m : Nat} {w e : Bool} (hk : k + m ≤ t.length) (ht : t.length ≤ 300) : (⟨t.drop k, k, rngL (k + m : Nat) t.length, rngL 0 k, true, w, e⟩ : BufM).WF := by
  have hd : (t.drop k).length = t.length - k := List.length_drop ..
  refine ⟨by dsimp only; omega, by dsimp only; omega, rngL_good (by omega) (by omega), rngL_good (by omega) (by omega), fun n hn => ?_, fun n hn => ?_, fun n hn h => ?_, fun n h1 h2 => rngL_mem.2 ⟨h1, h2⟩, fun h => ?_⟩
  · have := rngL_mem.1 hn; dsimp only; omega
  · have := rngL_mem.1 hn; dsimp only; omega
  · have := rngL_mem.1 hn; have := rngL_mem.1 h; omega
  · have := rngL_mem.1 h; dsimp only at this; omega
theorem mW_wf {t : List UInt8} {k : Nat} {e : Bool} (hk : k ≤ t.length) (ht : t.length ≤ 300) : (mW t k e).WF := mWS_wf (m := 0) (by omega) ht
theorem mS_wf {t : List UInt8} {k m : Nat} (hk : k + m ≤ t.length) (ht : t.length ≤ 300) : (mS t k m).WF := mWS_wf hk ht
theorem w_new {t : List UInt8} (ht : t.length ≤ 300) : buf0.write t = ⟨t, 0, rngL 0 t.length, [], false, false, false⟩ := by
  have hp : addE [] ⟨0 + (0 : Int), 0 + (0 : Int) + t.length⟩ = rngL 0 t.length := by
    refine rngL_eq (addE_spec Good.nil ⟨by simp, by simp; omega⟩).1 (by omega) (by omega) fun n => ?_
    rw [(addE_spec Good.nil ⟨by simp, by simp; omega⟩).2.1]
    simp only [Int.zero_add, InR.nil, false_or]
  rw [← hp]; rfl
theorem mW_new {t : List UInt8} (ht : t.length ≤ 300) : (buf0.write t).finish = mW t 0 false := by
  rw [w_new ht]
  have : rngL 0 ((0 : Nat) : Int) = [] := rngL_nil (by omega)
  unfold mW
  rw [this]
  rfl
theorem mW_next {t : List UInt8} {k : Nat} {e : Bool} {most : Int} (hk : k ≤ t.length) (he : e = true → k = t.length) (he2 : e = false → k < t.length ∨ t.length = 0) (hm : 1 ≤ most) :
    ((mW t k e).next most t.length = (⟨0, [], false⟩, false) ∧ e = true) ∨
    (∃ n : Nat, (mW t k e).next most t.length = (⟨k, (t.drop k).take n, decide (k + n = t.length)⟩, true) ∧ e = false ∧ k + n ≤ t.length ∧ (n = 0 → t.length = 0)) := by
  have hf : firstR (mW t k e).pend 0 = if (k : Int) < t.length then (⟨k, t.length⟩, true) else (⟨0, 0⟩, false) := rngL_first (by omega)
  have hd : (t.drop k).length = t.length - k := List.length_drop ..
  by_cases h1 : k < t.length
  · rw [if_pos (by omega)] at hf
    have hef : e = false := by
      cases e with
      | false => rfl
      | true => have := he rfl; omega
    refine .inr ⟨(min (min (t.length : Int) t.length) (k + most) - k).toNat, ?_, hef, by omega, by omega⟩
    rw [BufM.next_some (by omega) (by rw [hf]; rfl) (by rw [hf]; dsimp only; omega), hf]
    have e1 : ((mW t k e).base) = (k : Int) := rfl
    have e2 : ((mW t k e).data) = t.drop k := rfl
    have e3 : ((mW t k e).fin) = true := rfl
    rw [e1, e2, e3]
    dsimp only
    rw [Bool.true_and, Int.sub_self, hd]
    congr 2
    simp
    omega
  · rw [if_neg (by omega)] at hf
    cases e with
    | true =>
      refine .inl ⟨?_, rfl⟩
      rw [BufM.next, if_neg (by omega), hf, if_pos rfl, if_neg (by simp [mW])]
    | false =>
      have h0 := he2 rfl
      have h00 : t.length = 0 := by omega
      have ht : t = [] := List.length_eq_zero_iff.1 h00
      subst ht
      have ha0 : k = 0 := by simpa using hk
      subst ha0
      refine .inr ⟨0, ?_, rfl, by simp, fun _ => rfl⟩
      rw [BufM.next, if_neg (by omega), hf, if_pos rfl, if_pos (by simp [mW])]
      rfl
theorem mW_sent {t : List UInt8} {k m : Nat} (hk : k + m ≤ t.length) (ht : t.length ≤ 300) : (mW t k false).sent k m (decide (k + m = t.length)) = mS t k m := by
  have hw : (mW t k false).WF := mW_wf (by omega) ht
  have hp : ((mW t k false).sent k m (decide (k + m = t.length))).pend = rngL (k + m : Nat) t.length := by
    refine rngL_eq (BufM.sent_wf hw (by omega) (by omega)).gp (by omega) (by omega) fun n => ?_
    rw [BufM.sent_mem hw (by omega) (by omega)]
    have : InR (mW t k false).pend n ↔ (k : Int) ≤ n ∧ n < t.length := rngL_mem
    rw [this]
    omega
  have h2 : (mW t k false).sent k m (decide (k + m = t.length)) = ⟨t.drop k, k, ((mW t k false).sent k m (decide (k + m = t.length))).pend, rngL 0 k, true, if (decide (k + m = t.length)) = true then false else true, false⟩ := rfl
  rw [h2, hp, mS]
  congr 1
  cases decide (k + m = t.length) <;> rfl
theorem mS_lost {t : List UInt8} {k m : Nat} (hk : k + m ≤ t.length) (ht : t.length ≤ 300) : (mS t k m).lostIt k m (decide (k + m = t.length)) = mW t k false := by
  have hw : (mS t k m).WF := mS_wf hk ht
  have hd : (t.drop k).length = t.length - k := List.length_drop ..
  have e1 : (mS t k m).base + (mS t k m).data.length = (t.length : Int) := by show (k : Int) + ((t.drop k).length : Int) = _; omega
  have hwr : (mS t k m).written k m = true := BufM.written_iff.2 ⟨by omega, by rw [e1]; omega, by rw [e1]; omega⟩
  have hp : ((mS t k m).lose k m).pend = rngL k t.length := by
    have hm := BufM.lose_mem hw (at_ := k) (size := m) (by omega) (by omega) (by rw [e1]; omega)
    refine rngL_eq (hm 0).1 (by omega) (by omega) fun n => ?_
    rw [(hm n).2]
    have h1 : InR (mS t k m).pend n ↔ ((k + m : Nat) : Int) ≤ n ∧ n < t.length := rngL_mem
    have h2 : InR (mS t k m).came n ↔ (0 : Int) ≤ n ∧ n < k := rngL_mem
    rw [h1, h2]
    omega
  have hlo : (mS t k m).lose k m = ⟨t.drop k, k, rngL k t.length, rngL 0 k, true, !(decide (k + m = t.length)), false⟩ := by
    rw [← hp]
    unfold BufM.lose
    split <;> rfl
  unfold BufM.lostIt
  rw [if_pos hwr, hlo]
  by_cases hf : k + m = t.length
  · rw [if_pos ⟨decide_eq_true hf, rfl, rfl⟩]
    rfl
  · rw [if_neg (by simp [hf]), decide_eq_false hf]
    rfl
theorem mS_came {t : List UInt8} {k m : Nat} (hk : k + m ≤ t.length) (ht : t.length ≤ 300) (h0 : m = 0 → t.length = 0) : (mS t k m).gotIt k m (decide (k + m = t.length)) = mW t (k + m) (decide (k + m = t.length)) := by
  have hw : (mS t k m).WF := mS_wf hk ht
  have hd : (t.drop k).length = t.length - k := List.length_drop ..
  have e1 : (mS t k m).base + (mS t k m).data.length = (t.length : Int) := by show (k : Int) + ((t.drop k).length : Int) = _; omega
  have hwr : (mS t k m).written k m = true := BufM.written_iff.2 ⟨by omega, by rw [e1]; omega, by rw [e1]; omega⟩
  have htk : (mS t k m).take k m = ⟨t.drop (k + m), (k + m : Nat), rngL (k + m : Nat) t.length, rngL 0 (k + m : Nat), true, !(decide (k + m = t.length)), false⟩ := by
    unfold BufM.take
    by_cases hm : m = 0
    · subst hm
      rw [if_neg (by omega)]
      rfl
    · rw [if_pos (by omega)]
      have hrg : RgIn ⟨k, (k : Int) + m⟩ := ⟨by dsimp only; omega, by dsimp only; omega⟩
      have h1 : cutE (mS t k m).pend ⟨k, (k : Int) + m⟩ = rngL (k + m : Nat) t.length := by
        refine rngL_eq (cutE_spec hw.gp hrg).1 (by omega) (by omega) fun n => ?_
        rw [(cutE_spec hw.gp hrg).2.1]
        have h1 : InR (mS t k m).pend n ↔ ((k + m : Nat) : Int) ≤ n ∧ n < t.length := rngL_mem
        rw [h1]
        dsimp only
        omega
      have h2 : addE (mS t k m).came ⟨k, (k : Int) + m⟩ = rngL 0 (k + m : Nat) := by
        refine rngL_eq (addE_spec hw.gc hrg).1 (by omega) (by omega) fun n => ?_
        rw [(addE_spec hw.gc hrg).2.1]
        have h1 : InR (mS t k m).came n ↔ (0 : Int) ≤ n ∧ n < k := rngL_mem
        rw [h1]
        dsimp only
        omega
      rw [h1, h2]
      unfold BufM.release
      have hf : firstR (rngL 0 ((k + m : Nat) : Int)) 0 = (⟨0, (k + m : Nat)⟩, true) := by
        rw [rngL_first (by omega), if_pos (by omega)]
      dsimp only
      rw [hf, if_neg (by
        rintro (h | h | h)
        · cases h
        · dsimp only at h; omega
        · have : ((mS t k m).base) = (k : Int) := rfl
          rw [this] at h; dsimp only at h; omega)]
      have e2 : (mS t k m).data = t.drop k := rfl
      have e3 : (mS t k m).base = (k : Int) := rfl
      rw [e2, e3]
      have h3 : (((k + m : Nat) : Int) - (k : Int)).toNat = m := by omega
      dsimp only
      rw [h3, List.drop_drop]
      rfl
  unfold BufM.gotIt
  rw [if_pos hwr, htk]
  have hd2 : (t.drop (k + m)).length = t.length - (k + m) := List.length_drop ..
  by_cases hf : k + m = t.length
  · rw [if_pos ⟨decide_eq_true hf, rfl, by dsimp only; omega⟩, decide_eq_true hf]
    rfl
  · rw [if_neg (by simp [hf]), decide_eq_false hf]
    rfl

theorem mF_next {t : List UInt8} {lim : Int} (ht : t.length ≤ 300) (hl : 0 ≤ lim) : (⟨t, 0, rngL 0 t.length, [], false, false, false⟩ : BufM).next 1000 lim = (⟨0, t.take (min (t.length : Int) lim).toNat, false⟩, decide (0 < (t.length : Int)) && decide (0 < lim)) := by
  have hf : firstR (⟨t, 0, rngL 0 t.length, [], false, false, false⟩ : BufM).pend 0 = if (0 : Int) < t.length then (⟨0, t.length⟩, true) else (⟨0, 0⟩, false) := rngL_first (by omega)
  by_cases h1 : (0 : Int) < t.length
  · rw [if_pos h1] at hf
    by_cases h2 : 0 < lim
    · rw [BufM.next_some (by omega) (by rw [hf]; rfl) (by rw [hf]; dsimp only; omega), hf]
      dsimp only
      have h3 : min (min (t.length : Int) lim) (0 + 1000) = min (t.length : Int) lim := by omega
      rw [decide_eq_true h1, decide_eq_true h2, Bool.false_and, h3]
      simp only [Int.sub_zero, Int.toNat_zero, List.drop_zero, Bool.and_self]
    · have h3 : (min (t.length : Int) lim).toNat = 0 := by omega
      rw [BufM.next, if_neg (by omega), hf, if_neg (by simp), if_pos (by dsimp only; omega), decide_eq_false h2, h3, Bool.and_false]
      rfl
  · rw [if_neg h1] at hf
    have h3 : (min (t.length : Int) lim).toNat = 0 := by omega
    rw [BufM.next, if_neg (by omega), hf, if_pos rfl, if_neg (by simp), decide_eq_false h1, h3, Bool.false_and]
    rfl
theorem mF_wf {t : List UInt8} (ht : t.length ≤ 300) : (⟨t, 0, rngL 0 t.length, [], false, false, false⟩ : BufM).WF := by
  rw [← w_new ht]
  exact BufM.write_wf buf0_wf (by simp [buf0]; omega)

structure Ix where
  i : Nat
  k : Nat
  e : Bool
  c : Hp
  g : List UInt8
  cg : Hp
structure Inv (t : List UInt8) (b : Nat) (ao : Option Addr) (x : Ix) : Prop where
  i : x.i ≤ 2000
  k : x.k ≤ t.length
  e1 : x.e = true → x.k = t.length
  e2 : x.e = false → x.k < t.length ∨ t.length = 0
  far : x.i ≤ 500 ∨ x.e = true ∨ x.i ≤ 500 + x.k
  out : OutAt (mW t x.k x.e) b x.c
  gl : x.g.length = t.length
  gk : x.g.take x.k = t.take x.k
  got : Ls enB 5 (.slice ao t.length t.length) x.cg x.g

set_option maxHeartbeats 8000000 in
theorem law {B : Nat} {w0 : World} {t : List UInt8} {los : List Bool} {most limit : Int} {aoT aoL : Option Addr} {capT capL : Nat} (hmo : 0 ≤ most ∧ most ≤ 255) (hli : 0 ≤ limit ∧ limit ≤ 255) (hl : t.length ≤ 9223372036854775807) (hct : t.length ≤ capT) (hll : los.length ≤ 9223372036854775807) (hT : ∀ G, Vw enB (St B w0 G) (.slice aoT t.length capT) t) (hLo : ∀ G, Vw enBo (St B w0 G) (.slice aoL los.length capL) los) :
    FnC Try.prog 12 #[.slice aoT t.length capT, .slice aoL los.length capL, .int .u8 most, .int .u8 limit] B w0 [] (R0 (.bool true)) := fun F => by
  refine fn_enter Try.func12 rfl (by kernel_rfl) Try.ntmps12 (by simp) ?_
  refine Go.Sl.cw_seq ?_
  refine Go.Sl.cw_region ?_
  refine Go.Sl.ow_val rfl rfl (Go.Sl.v_assign rfl) ?_
  refine Go.Sl.ow_nil ?_
  refine Go.Sl.xw_then ?_
  refine Go.Sl.cw_seq ?_
  refine Go.Sl.cw_seq ?_
  refine Go.Sl.cw_region ?_
  refine Go.Sl.ow_val rfl rfl (Go.Sl.v_call rfl rfl (outAwake_c)) ?_
  refine Go.Sl.ow_val rfl rfl (Go.Sl.v_not_true rfl) ?_
  refine Go.Sl.ow_nil ?_
  refine Go.Sl.xw_then ?_
  refine Go.Sl.cw_false rfl ?_
  refine Go.Sl.cw_skip ?_
  refine Go.Sl.xw_then ?_
  refine Go.Sl.cw_seq ?_
  refine Go.Sl.cw_seq ?_
  refine Go.Sl.cw_region ?_
  refine Go.Sl.ow_val rfl rfl (Go.Sl.v_move rfl) ?_
  refine Go.Sl.ow_val rfl rfl (Go.Sl.v_len rfl Try.underlying57 rfl) ?_
  refine Go.Sl.ow_val rfl rfl (Go.Sl.v_gtr rfl rfl) ?_
  refine Go.Sl.ow_nil ?_
  refine Go.Sl.xw_then ?_
  refine Go.Sl.cw_dec rfl (fun hc24 => ?_) (fun hc24 => ?_)
  refine Go.Sl.cw_seq ?_
  refine Go.Sl.cw_region ?_
  refine Go.Sl.ow_val rfl rfl (Go.Sl.v_assign rfl) ?_
  refine Go.Sl.ow_nil ?_
  refine Go.Sl.xw_then ?_
  refine Go.Sl.cw_ret ?_
  refine Go.Sl.xw_then_ret ?_
  refine Go.Sl.ret1 rfl (Go.Sl.res_tmp rfl) ?_
  rotate_left
  refine Go.Sl.cw_skip ?_
  refine Go.Sl.xw_then ?_
  refine Go.Sl.cw_seq ?_
  refine Go.Sl.cw_region ?_
  (refine Go.Sl.ow_call rfl rfl rfl rfl (newOut_c) ?_; rintro _ _ ⟨x25, rfl, hq25, rfl⟩)
  refine Go.Sl.ow_val rfl rfl (Go.Sl.v_assign rfl) ?_
  refine Go.Sl.ow_nil ?_
  refine Go.Sl.xw_then ?_
  rotate_left
  · exact done0 rfl (by first | exact Go.Sl.Cov.refl _ | (intro p; simp only [List.flatten_cons, List.flatten_nil, List.flatten_append, List.append_nil, List.nil_append, Go.Sl.cnt_append, Go.Sl.cnt_cons, Go.Sl.cnt_nil, List.set_cons_zero, List.set_cons_succ, List.length_nil, List.length_cons, Nat.zero_add, List.append]; omega))
  have ht : t.length ≤ 300 := by omega
  have hwr : ∀ {G : List Hp} {R : Hp → List Hp} {b : Nat} {c : Hp}, OutAt buf0 b c → Sel G c R → Go.Sl.Fn Try.prog 37 #[.pointer (some ⟨b, 0, none⟩), .slice aoT t.length capT] B w0 G fun u G' => ∃ c' : Hp, u = .tuple #[.int .i64 t.length, .int .i64 0] ∧ OutAt (buf0.write t) b c' ∧ G' = R c' := fun hO hs => outWrite_c hs hO buf0_wf (hT _) (by simp [buf0]; omega)
  refine Go.Sl.cw_seq ?_
  refine Go.Sl.cw_region ?_
  refine Go.Sl.ow_val rfl rfl (Go.Sl.v_move rfl) ?_
  refine Go.Sl.ow_val rfl rfl (Go.Sl.v_move rfl) ?_
  (refine Go.Sl.ow_call rfl rfl rfl rfl (hwr hq25 (by repeat (first | exact Go.Sl.Sel.here | apply Go.Sl.Sel.there))) ?_; rintro _ _ ⟨x29, rfl, hq29, rfl⟩)
  refine Go.Sl.ow_val rfl rfl (Go.Sl.v_move rfl) ?_
  refine Go.Sl.ow_val rfl rfl (Go.Sl.v_extract rfl rfl) ?_
  refine Go.Sl.ow_val rfl rfl (Go.Sl.v_extract rfl rfl) ?_
  refine Go.Sl.ow_val rfl rfl (Go.Sl.v_assign rfl) ?_
  refine Go.Sl.ow_val rfl rfl (Go.Sl.v_assign rfl) ?_
  refine Go.Sl.ow_nil ?_
  refine Go.Sl.xw_then ?_
  have hfi : ∀ {G : List Hp} {R : Hp → List Hp}, Sel G x29 R → Go.Sl.Fn Try.prog 38 #[.pointer (some ⟨x25.1, 0, none⟩)] B w0 G fun u G' => ∃ c' : Hp, u = .int .i64 0 ∧ OutAt (mW t 0 false) x25.1 c' ∧ G' = R c' := fun hs => by
    have h := outFinish_c (B := B) (w0 := w0) hs hq29
    rw [mW_new ht] at h
    exact h
  have hfi2 : ∀ {G : List Hp} {R : Hp → List Hp} {c : Hp}, OutAt (mW t 0 false) x25.1 c → Sel G c R → Go.Sl.Fn Try.prog 38 #[.pointer (some ⟨x25.1, 0, none⟩)] B w0 G fun u G' => ∃ c' : Hp, u = .int .i64 19 ∧ OutAt (mW t 0 false) x25.1 c' ∧ G' = R c' := fun hO hs => outFinish_c (B := B) (w0 := w0) hs hO
  refine Go.Sl.cw_seq ?_
  refine Go.Sl.cw_seq ?_
  refine Go.Sl.cw_region ?_
  refine Go.Sl.ow_val rfl rfl (Go.Sl.v_move rfl) ?_
  refine Go.Sl.ow_val rfl rfl (Go.Sl.v_move rfl) ?_
  refine Go.Sl.ow_val rfl rfl (Go.Sl.v_len rfl Try.underlying57 rfl) ?_
  refine Go.Sl.ow_val rfl rfl (Go.Sl.v_neq rfl rfl) ?_
  refine Go.Sl.ow_val rfl rfl (Go.Sl.v_move rfl) ?_
  refine Go.Sl.ow_dec 36 rfl (fun hc36 => ?_) (fun hc36 => ?_)
  (exfalso; omega)
  refine Go.Sl.ow_val rfl rfl (Go.Sl.v_move rfl) ?_
  refine Go.Sl.ow_val rfl rfl (Go.Sl.v_neq rfl rfl) ?_
  refine Go.Sl.ow_val rfl rfl (Go.Sl.v_pick_false rfl rfl) ?_
  refine Go.Sl.ow_val rfl rfl (Go.Sl.v_move rfl) ?_
  refine Go.Sl.ow_dec 40 rfl (fun hc40 => ?_) (fun hc40 => ?_)
  (exfalso; omega)
  refine Go.Sl.ow_val rfl rfl (Go.Sl.v_move rfl) ?_
  (refine Go.Sl.ow_call rfl rfl rfl rfl (hfi (by repeat (first | exact Go.Sl.Sel.here | apply Go.Sl.Sel.there))) ?_; rintro _ _ ⟨x42, rfl, hq42, rfl⟩)
  refine Go.Sl.ow_val rfl rfl (Go.Sl.v_neq rfl rfl) ?_
  refine Go.Sl.ow_val rfl rfl (Go.Sl.v_pick_false rfl rfl) ?_
  refine Go.Sl.ow_val rfl rfl (Go.Sl.v_move rfl) ?_
  refine Go.Sl.ow_dec 45 rfl (fun hc45 => ?_) (fun hc45 => ?_)
  (exfalso; omega)
  refine Go.Sl.ow_val rfl rfl (Go.Sl.v_move rfl) ?_
  (refine Go.Sl.ow_call rfl rfl rfl rfl (hfi2 (by assumption) (by repeat (first | exact Go.Sl.Sel.here | apply Go.Sl.Sel.there))) ?_; rintro _ _ ⟨x47, rfl, hq47, rfl⟩)
  refine Go.Sl.ow_val rfl rfl (Go.Sl.v_neq rfl rfl) ?_
  refine Go.Sl.ow_val rfl rfl (Go.Sl.v_pick_false rfl rfl) ?_
  refine Go.Sl.ow_nil ?_
  refine Go.Sl.xw_then ?_
  refine Go.Sl.cw_false rfl ?_
  refine Go.Sl.cw_skip ?_
  refine Go.Sl.xw_then ?_
  refine Go.Sl.cw_seq ?_
  refine Go.Sl.cw_region ?_
  refine Go.Sl.ow_val rfl rfl (Go.Sl.v_move rfl) ?_
  refine Go.Sl.ow_val rfl rfl (Go.Sl.v_len rfl Try.underlying57 rfl) ?_
  refine Go.Sl.ow_makeL (En := enB) (a0 := 0) (n := t.length) rfl rfl Try.underlying57 u8Ty zB rfl rfl rfl rfl (by omega) (by omega) ?_
  intro ao52 c52 hL52
  refine Go.Sl.ow_val rfl rfl (Go.Sl.v_assign rfl) ?_
  refine Go.Sl.ow_nil ?_
  refine Go.Sl.xw_then ?_
  refine Go.Sl.cw_seq ?_
  refine Go.Sl.cw_region ?_
  refine Go.Sl.ow_val rfl rfl (Go.Sl.v_assign rfl) ?_
  refine Go.Sl.ow_nil ?_
  refine Go.Sl.xw_then ?_
  refine Go.Sl.cw_cut2 (ι := ((Hp × Hp))) [(0, _), (2, _), (3, _), (8, _), (9, _), (10, _), (12, _), (22, _), (28, _)] ⟨rfl, rfl, rfl, rfl, rfl, rfl, rfl, rfl, rfl, trivial⟩ ((fun _ => [(13, .bool true)])) ((fun x => OutAt (mW t t.length true) x25.1 x.1 ∧ Ls enB 5 (.slice ao52 t.length t.length) x.2 t)) ((fun x => x.1 :: x.2 :: F)) ?_ ?_
  rotate_left
  · rintro ⟨c, cg⟩ ⟨hO, hL⟩
    dsimp only at hO hL ⊢
    refine Go.Sl.cw_seq ?_
    refine Go.Sl.cw_region ?_
    (refine Go.Sl.ow_call rfl rfl rfl rfl (newOut_c) ?_; rintro _ _ ⟨x130, rfl, hq130, rfl⟩)
    refine Go.Sl.ow_val rfl rfl (Go.Sl.v_assign rfl) ?_
    refine Go.Sl.ow_nil ?_
    refine Go.Sl.xw_then ?_
    refine Go.Sl.cw_seq ?_
    refine Go.Sl.cw_region ?_
    refine Go.Sl.ow_val rfl rfl (Go.Sl.v_move rfl) ?_
    refine Go.Sl.ow_val rfl rfl (Go.Sl.v_move rfl) ?_
    (refine Go.Sl.ow_call rfl rfl rfl rfl (hwr (by assumption) (by repeat (first | exact Go.Sl.Sel.here | apply Go.Sl.Sel.there))) ?_; rintro _ _ ⟨x133, rfl, hq133, rfl⟩)
    refine Go.Sl.ow_nil ?_
    refine Go.Sl.xw_then ?_
    rw [w_new ht] at hq133
    have hmin : ((t.take (min (t.length : Int) limit).toNat).length : Int) = min (t.length : Int) limit := by rw [List.length_take]; omega
    have hnx : ∀ {G : List Hp}, Go.Sl.Sub x133 G → Go.Sl.Fn Try.prog 39 #[.pointer (some ⟨x130.1, 0, none⟩), .int .i64 1000, .int .u64 limit] B w0 G fun u G' => ∃ x : PartV × Hp, u = .tuple #[enP.val x.1, .bool (decide (0 < (t.length : Int)) && decide (0 < limit))] ∧ Ls enB 5 (.slice x.1.ao x.1.n x.1.cap) x.2 (t.take (min (t.length : Int) limit).toNat) ∧ G' = [x.2] ++ G := fun hs => by
      have h := outNext_c (B := B) (w0 := w0) hq133 hs (mF_wf ht) (most := 1000) (limit := limit) (by omega) (by omega)
      rw [mF_next ht hli.1] at h
      dsimp only at h
      refine h.mono ?_
      rintro u G' ⟨x, rfl, hx, rfl⟩
      exact ⟨(⟨0, x.1, _, x.2.1, false⟩, x.2.2), rfl, hx, rfl⟩
    have hdo : ∀ {G : List Hp}, Go.Sl.Sub c G → Go.Sl.Fn Try.prog 42 #[.pointer (some ⟨x25.1, 0, none⟩)] B w0 G fun u G' => u = .bool true ∧ G' = G := fun hs => by
      have h := outDone_c (B := B) (w0 := w0) hO hs (mW_wf (Nat.le_refl _) ht)
      rw [show ((mW t t.length true).endCame && decide ((mW t t.length true).data.length = 0)) = true from by simp [mW]] at h
      exact h
    have hwa : ∀ {G : List Hp}, Go.Sl.Sub c G → Go.Sl.Fn Try.prog 41 #[.pointer (some ⟨x25.1, 0, none⟩)] B w0 G fun u G' => u = .bool false ∧ G' = G := fun hs => by
      have h := outWaits_c (B := B) (w0 := w0) hO hs (mW_wf (Nat.le_refl _) ht)
      rw [show ((mW t t.length true).waits || decide (0 < (mW t t.length true).pend.length)) = false from by simp [mW, rngL]] at h
      exact h
    refine Go.Sl.cw_seq ?_
    refine Go.Sl.cw_region ?_
    refine Go.Sl.ow_val rfl rfl (Go.Sl.v_move rfl) ?_
    refine Go.Sl.ow_val rfl rfl (Go.Sl.v_move rfl) ?_
    refine Go.Sl.ow_val rfl rfl (Go.Sl.v_convert Try.underlying5 Try.underlying23 rfl (Go.Sl.nw_u64 (by omega) (by omega))) ?_
    (refine Go.Sl.ow_call rfl rfl rfl rfl (hnx (by repeat (first | exact Go.Sl.Sub.here | assumption | refine Go.Sl.Sub.there ?_))) ?_; rintro _ _ ⟨x138, rfl, hq138, rfl⟩)
    refine Go.Sl.ow_val rfl rfl (Go.Sl.v_move rfl) ?_
    refine Go.Sl.ow_val rfl rfl (Go.Sl.v_extract rfl rfl) ?_
    refine Go.Sl.ow_val rfl rfl (Go.Sl.v_extract rfl rfl) ?_
    (refine Go.Sl.ow_alloc rfl rfl Ty.ze64 ?_; intro b18)
    refine Go.Sl.ow_storeE rfl (pTy) rfl rfl .here (by first | rfl | assumption) (okP _) ?_
    refine Go.Sl.ow_val rfl rfl (Go.Sl.v_assign rfl) ?_
    refine Go.Sl.ow_nil ?_
    refine Go.Sl.xw_then ?_
    refine Go.Sl.cw_seq ?_
    refine Go.Sl.cw_quiet Ty.mixed (by decide +kernel) ?_
    refine Go.Sl.kw_val rfl rfl (Go.Sl.v_move rfl) ?_
    refine Go.Sl.kw_val rfl rfl (Go.Sl.v_call rfl rfl (hdo (by repeat (first | exact Go.Sl.Sub.here | assumption | refine Go.Sl.Sub.there ?_)))) ?_
    refine Go.Sl.kw_val rfl rfl (Go.Sl.v_move rfl) ?_
    refine Go.Sl.kw_val rfl rfl (Go.Sl.v_move rfl) ?_
    refine Go.Sl.kw_val rfl rfl (Go.Sl.v_pick_true rfl rfl) ?_
    refine Go.Sl.kw_val rfl rfl (Go.Sl.v_move rfl) ?_
    refine Go.Sl.kw_val rfl rfl (Go.Sl.v_move rfl) ?_
    refine Go.Sl.kw_val rfl rfl (Go.Sl.v_call rfl rfl (hwa (by repeat (first | exact Go.Sl.Sub.here | assumption | refine Go.Sl.Sub.there ?_)))) ?_
    refine Go.Sl.kw_val rfl rfl (Go.Sl.v_not_false rfl) ?_
    refine Go.Sl.kw_val rfl rfl (Go.Sl.v_pick_true rfl rfl) ?_
    refine Go.Sl.kw_val rfl rfl (Go.Sl.v_move rfl) ?_
    refine Go.Sl.kw_val rfl rfl (Go.Sl.v_move rfl) ?_
    refine Go.Sl.kw_val rfl rfl (Go.Sl.v_str Try.underlying9 Try.underlying57 Try.underlying5 rfl ((Ls.vw hL (by repeat (first | exact Go.Sl.Sub.here | assumption | refine Go.Sl.Sub.there ?_))))) ?_
    refine Go.Sl.kw_val rfl rfl (Go.Sl.v_move rfl) ?_
    refine Go.Sl.kw_val rfl rfl (Go.Sl.v_str Try.underlying9 Try.underlying57 Try.underlying5 rfl (hT _)) ?_
    refine Go.Sl.kw_val rfl rfl (Go.Sl.v_eqlS rfl rfl) ?_
    refine Go.Sl.kw_val rfl rfl (Go.Sl.v_pick_true rfl rfl) ?_
    refine Go.Sl.kw_val rfl rfl (Go.Sl.v_move rfl) ?_
    refine Go.Sl.kw_dec 158 rfl (fun hc158 => ?_) (fun hc158 => ?_)
    refine Go.Sl.kw_val rfl rfl (Go.Sl.v_move rfl) ?_
    refine Go.Sl.kw_val rfl rfl (Go.Sl.v_move rfl) ?_
    refine Go.Sl.kw_val rfl rfl (Go.Sl.v_len rfl Try.underlying57 rfl) ?_
    refine Go.Sl.kw_val rfl rfl (Go.Sl.v_gtr rfl rfl) ?_
    refine Go.Sl.kw_val rfl rfl (Go.Sl.v_move rfl) ?_
    refine Go.Sl.kw_dec 163 rfl (fun hc163 => ?_) (fun hc163 => ?_)
    refine Go.Sl.kw_val rfl rfl (Go.Sl.v_move rfl) ?_
    refine Go.Sl.kw_val rfl rfl (Go.Sl.v_gtr rfl rfl) ?_
    refine Go.Sl.kw_val rfl rfl (Go.Sl.v_pick_true rfl rfl) ?_
    refine Go.Sl.kw_val rfl rfl (Go.Sl.v_eqlB Try.underlying4 rfl rfl) ?_
    refine Go.Sl.kw_val rfl rfl (Go.Sl.v_pick_true rfl rfl) ?_
    refine Go.Sl.kw_val rfl rfl (Go.Sl.v_move rfl) ?_
    refine Go.Sl.kw_dec 169 rfl (fun hc169 => ?_) (fun hc169 => ?_)
    refine Go.Sl.kw_val rfl rfl (Go.Sl.v_fieldAddr0 Ty.fd64_1 rfl) ?_
    refine Go.Sl.kw_val rfl rfl (Go.Sl.v_load rfl (Go.Sl.Var.at1 Ty.sc57 .here (Go.Sl.GetN.lit rfl))) ?_
    refine Go.Sl.kw_val rfl rfl (Go.Sl.v_str Try.underlying9 Try.underlying57 Try.underlying5 rfl ((Ls.vw hq138 (by repeat (first | exact Go.Sl.Sub.here | assumption | refine Go.Sl.Sub.there ?_))))) ?_
    refine Go.Sl.kw_val rfl rfl (Go.Sl.v_move rfl) ?_
    refine Go.Sl.kw_val rfl rfl (Go.Sl.v_move rfl) ?_
    refine Go.Sl.kw_val rfl rfl (Go.Sl.v_len rfl Try.underlying57 rfl) ?_
    refine Go.Sl.kw_val rfl rfl (Go.Sl.v_move rfl) ?_
    refine Go.Sl.kw_val rfl rfl (Go.Sl.v_convert Try.underlying5 Try.underlying3 rfl (Go.Sl.nw_i64 (by omega) (by omega))) ?_
    refine Go.Sl.kw_val rfl rfl (Go.Sl.v_min rfl rfl) ?_
    refine Go.Sl.kw_val rfl rfl (Go.Sl.v_slice_nh Try.underlying57 Ty.el57 rfl rfl (Int.toNat_of_nonneg (by omega)).symm (by omega)) ?_
    refine Go.Sl.kw_val rfl rfl (Go.Sl.v_str Try.underlying9 Try.underlying57 Try.underlying5 rfl (Vw.sub1 u8Ty (hT _) (m := (min (t.length : Int) limit).toNat) (by omega))) ?_
    refine Go.Sl.kw_val rfl rfl (Go.Sl.v_eqlS rfl rfl) ?_
    refine Go.Sl.kw_val rfl rfl (Go.Sl.v_pick_true rfl rfl) ?_
    refine Go.Sl.kw_val rfl rfl (Go.Sl.v_assign rfl) ?_
    refine Go.Sl.kw_nil ?_
    refine Go.Sl.xw_then ?_
    refine Go.Sl.cw_ret ?_
    refine Go.Sl.ret1 rfl (Go.Sl.res_tmp rfl) ?_
    rotate_left
    refine Go.Sl.kw_skip rfl rfl ?_
    refine Go.Sl.kw_skip rfl rfl ?_
    refine Go.Sl.kw_skip rfl rfl ?_
    refine Go.Sl.kw_skip rfl rfl ?_
    refine Go.Sl.kw_skip rfl rfl ?_
    refine Go.Sl.kw_skip rfl rfl ?_
    refine Go.Sl.kw_skip rfl rfl ?_
    refine Go.Sl.kw_skip rfl rfl ?_
    refine Go.Sl.kw_skip rfl rfl ?_
    refine Go.Sl.kw_skip rfl rfl ?_
    refine Go.Sl.kw_skip rfl rfl ?_
    refine Go.Sl.kw_skip rfl rfl ?_
    refine Go.Sl.kw_val rfl rfl (Go.Sl.v_pick_false rfl rfl) ?_
    refine Go.Sl.kw_val rfl rfl (Go.Sl.v_assign rfl) ?_
    refine Go.Sl.kw_nil ?_
    refine Go.Sl.xw_then ?_
    refine Go.Sl.cw_ret ?_
    refine Go.Sl.ret1 rfl (Go.Sl.res_tmp rfl) ?_
    rotate_left
    refine Go.Sl.kw_skip rfl rfl ?_
    refine Go.Sl.kw_skip rfl rfl ?_
    refine Go.Sl.kw_val rfl rfl (Go.Sl.v_pick_false rfl rfl) ?_
    refine Go.Sl.kw_val rfl rfl (Go.Sl.v_eqlB Try.underlying4 rfl rfl) ?_
    refine Go.Sl.kw_val rfl rfl (Go.Sl.v_pick_true rfl rfl) ?_
    refine Go.Sl.kw_val rfl rfl (Go.Sl.v_move rfl) ?_
    refine Go.Sl.kw_dec 169 rfl (fun hc169 => ?_) (fun hc169 => ?_)
    refine Go.Sl.kw_val rfl rfl (Go.Sl.v_fieldAddr0 Ty.fd64_1 rfl) ?_
    refine Go.Sl.kw_val rfl rfl (Go.Sl.v_load rfl (Go.Sl.Var.at1 Ty.sc57 .here (Go.Sl.GetN.lit rfl))) ?_
    refine Go.Sl.kw_val rfl rfl (Go.Sl.v_str Try.underlying9 Try.underlying57 Try.underlying5 rfl ((Ls.vw hq138 (by repeat (first | exact Go.Sl.Sub.here | assumption | refine Go.Sl.Sub.there ?_))))) ?_
    refine Go.Sl.kw_val rfl rfl (Go.Sl.v_move rfl) ?_
    refine Go.Sl.kw_val rfl rfl (Go.Sl.v_move rfl) ?_
    refine Go.Sl.kw_val rfl rfl (Go.Sl.v_len rfl Try.underlying57 rfl) ?_
    refine Go.Sl.kw_val rfl rfl (Go.Sl.v_move rfl) ?_
    refine Go.Sl.kw_val rfl rfl (Go.Sl.v_convert Try.underlying5 Try.underlying3 rfl (Go.Sl.nw_i64 (by omega) (by omega))) ?_
    refine Go.Sl.kw_val rfl rfl (Go.Sl.v_min rfl rfl) ?_
    refine Go.Sl.kw_val rfl rfl (Go.Sl.v_slice_nh Try.underlying57 Ty.el57 rfl rfl (Int.toNat_of_nonneg (by omega)).symm (by omega)) ?_
    refine Go.Sl.kw_val rfl rfl (Go.Sl.v_str Try.underlying9 Try.underlying57 Try.underlying5 rfl (Vw.sub1 u8Ty (hT _) (m := (min (t.length : Int) limit).toNat) (by omega))) ?_
    refine Go.Sl.kw_val rfl rfl (Go.Sl.v_eqlS rfl rfl) ?_
    refine Go.Sl.kw_val rfl rfl (Go.Sl.v_pick_true rfl rfl) ?_
    refine Go.Sl.kw_val rfl rfl (Go.Sl.v_assign rfl) ?_
    refine Go.Sl.kw_nil ?_
    refine Go.Sl.xw_then ?_
    refine Go.Sl.cw_ret ?_
    refine Go.Sl.ret1 rfl (Go.Sl.res_tmp rfl) ?_
    rotate_left
    refine Go.Sl.kw_skip rfl rfl ?_
    refine Go.Sl.kw_skip rfl rfl ?_
    refine Go.Sl.kw_skip rfl rfl ?_
    refine Go.Sl.kw_skip rfl rfl ?_
    refine Go.Sl.kw_skip rfl rfl ?_
    refine Go.Sl.kw_skip rfl rfl ?_
    refine Go.Sl.kw_skip rfl rfl ?_
    refine Go.Sl.kw_skip rfl rfl ?_
    refine Go.Sl.kw_skip rfl rfl ?_
    refine Go.Sl.kw_skip rfl rfl ?_
    refine Go.Sl.kw_skip rfl rfl ?_
    refine Go.Sl.kw_skip rfl rfl ?_
    refine Go.Sl.kw_val rfl rfl (Go.Sl.v_pick_false rfl rfl) ?_
    refine Go.Sl.kw_val rfl rfl (Go.Sl.v_assign rfl) ?_
    refine Go.Sl.kw_nil ?_
    refine Go.Sl.xw_then ?_
    refine Go.Sl.cw_ret ?_
    refine Go.Sl.ret1 rfl (Go.Sl.res_tmp rfl) ?_
    rotate_left
    refine Go.Sl.kw_skip rfl rfl ?_
    refine Go.Sl.kw_skip rfl rfl ?_
    refine Go.Sl.kw_skip rfl rfl ?_
    refine Go.Sl.kw_skip rfl rfl ?_
    refine Go.Sl.kw_skip rfl rfl ?_
    refine Go.Sl.kw_skip rfl rfl ?_
    refine Go.Sl.kw_skip rfl rfl ?_
    refine Go.Sl.kw_skip rfl rfl ?_
    refine Go.Sl.kw_skip rfl rfl ?_
    refine Go.Sl.kw_val rfl rfl (Go.Sl.v_pick_false rfl rfl) ?_
    refine Go.Sl.kw_val rfl rfl (Go.Sl.v_move rfl) ?_
    refine Go.Sl.kw_skip rfl rfl ?_
    refine Go.Sl.kw_skip rfl rfl ?_
    refine Go.Sl.kw_skip rfl rfl ?_
    refine Go.Sl.kw_skip rfl rfl ?_
    refine Go.Sl.kw_skip rfl rfl ?_
    refine Go.Sl.kw_skip rfl rfl ?_
    refine Go.Sl.kw_skip rfl rfl ?_
    refine Go.Sl.kw_skip rfl rfl ?_
    refine Go.Sl.kw_skip rfl rfl ?_
    refine Go.Sl.kw_skip rfl rfl ?_
    refine Go.Sl.kw_skip rfl rfl ?_
    refine Go.Sl.kw_skip rfl rfl ?_
    refine Go.Sl.kw_val rfl rfl (Go.Sl.v_pick_false rfl rfl) ?_
    refine Go.Sl.kw_val rfl rfl (Go.Sl.v_assign rfl) ?_
    refine Go.Sl.kw_nil ?_
    refine Go.Sl.xw_then ?_
    refine Go.Sl.cw_ret ?_
    refine Go.Sl.ret1 rfl (Go.Sl.res_tmp rfl) ?_
    rotate_left
    · rw [decide_eq_true rfl]
      exact done0 rfl (by first | exact Go.Sl.Cov.refl _ | (intro p; simp only [List.flatten_cons, List.flatten_nil, List.flatten_append, List.append_nil, List.nil_append, Go.Sl.cnt_append, Go.Sl.cnt_cons, Go.Sl.cnt_nil, List.set_cons_zero, List.set_cons_succ, List.length_nil, List.length_cons, Nat.zero_add, List.append]; omega))
    · rw [decide_eq_true hc163, Bool.true_and] at hc169
      exact absurd rfl hc169
    · rw [decide_eq_true rfl]
      exact done0 rfl (by first | exact Go.Sl.Cov.refl _ | (intro p; simp only [List.flatten_cons, List.flatten_nil, List.flatten_append, List.append_nil, List.nil_append, Go.Sl.cnt_append, Go.Sl.cnt_cons, Go.Sl.cnt_nil, List.set_cons_zero, List.set_cons_succ, List.length_nil, List.length_cons, Nat.zero_add, List.append]; omega))
    · rw [decide_eq_false hc163, Bool.false_and] at hc169
      exact absurd rfl hc169
    · exact absurd rfl hc158
  refine Go.Sl.cw_seq ?_
  refine Go.Sl.cw_region ?_
  refine Go.Sl.ow_val rfl rfl (Go.Sl.v_move rfl) ?_
  refine Go.Sl.ow_nil ?_
  refine Go.Sl.xw_then ?_
  refine Go.Sl.cw_block ?_
  refine Go.Sl.cw_loop2 (ι := (Ix)) [(0, _), (1, _), (2, _), (3, _), (8, _), (9, _), (10, _), (12, _), (22, _), (28, _)] ⟨rfl, rfl, rfl, rfl, rfl, rfl, rfl, rfl, rfl, rfl, trivial⟩ ((fun x => [(13, .bool x.e), (53, .int .i64 x.i)])) ((fun x => Inv t x25.1 ao52 x)) ((fun x => 2000 - x.i)) ((fun x => x.c :: x.cg :: F)) ((⟨0, 0, false, x47, List.replicate t.length 0, c52⟩ : Ix)) (by repeat (first | exact True.intro | refine And.intro rfl ?_)) (by first | exact Go.Sl.Cov.refl _ | (intro p; simp only [List.flatten_cons, List.flatten_nil, List.flatten_append, List.append_nil, List.nil_append, Go.Sl.cnt_append, Go.Sl.cnt_cons, Go.Sl.cnt_nil, List.set_cons_zero, List.set_cons_succ, List.length_nil, List.length_cons, Nat.zero_add, List.append]; omega)) ?_ ?_
  · exact ⟨Nat.zero_le _, Nat.zero_le _, (fun h => by cases h), (fun _ => by show 0 < t.length ∨ t.length = 0; omega), .inl (Nat.zero_le _), hq47, List.length_replicate, rfl, hL52⟩
  rintro ⟨i, k, e, c, g, cg⟩ ⟨hi, hk, he1, he2, hfar, hO, hgl, hgk, hL⟩
  dsimp only at hi hk he1 he2 hfar hO hgl hgk hL ⊢
  have hw : (mW t k e).WF := mW_wf hk ht
  have htm := tmodB (k := most) (n := 50) hmo.1 (by decide)
  refine Go.Sl.cw_seq ?_
  refine Go.Sl.cw_region ?_
  refine Go.Sl.ow_val rfl rfl (Go.Sl.v_lss rfl rfl) ?_
  refine Go.Sl.ow_nil ?_
  refine Go.Sl.xw_then ?_
  refine Go.Sl.cw_seq ?_
  refine Go.Sl.cw_dec rfl (fun hc54 => ?_) (fun hc54 => ?_)
  refine Go.Sl.cw_skip ?_
  refine Go.Sl.xw_then ?_
  refine Go.Sl.cw_seq ?_
  refine Go.Sl.cw_block ?_
  refine Go.Sl.cw_seq ?_
  refine Go.Sl.cw_region ?_
  refine Go.Sl.ow_val rfl rfl (Go.Sl.v_move rfl) ?_
  refine Go.Sl.ow_val rfl rfl (Go.Sl.v_assign rfl) ?_
  refine Go.Sl.ow_nil ?_
  refine Go.Sl.xw_then ?_
  rotate_left
  refine Go.Sl.cw_exit ?_
  refine Go.Sl.xw_then_exit ?_
  refine Go.Sl.xw_round_exit ?_
  refine Go.Sl.xw_block_exit ?_
  rotate_left
  · rcases mW_next (t := t) (most := 1 + most.tmod 50) hk he1 he2 (by omega) with ⟨hN, rfl⟩ | ⟨n, hN, rfl, hn1, hn2⟩
    · have hnx : ∀ {G : List Hp}, Go.Sl.Sub c G → Go.Sl.Fn Try.prog 39 #[.pointer (some ⟨x25.1, 0, none⟩), .int .i64 (1 + most.tmod 50), .int .u64 t.length] B w0 G fun u G' => ∃ x : Option Addr × Nat × Hp, u = .tuple #[enP.val ⟨0, x.1, 0, x.2.1, false⟩, .bool false] ∧ Ls enB 5 (.slice x.1 0 x.2.1) x.2.2 [] ∧ G' = [x.2.2] ++ G := fun hs => by
        have h := outNext_c (B := B) (w0 := w0) hO hs hw (most := 1 + most.tmod 50) (limit := t.length) (by omega) (by omega)
        rw [hN] at h
        exact h
      have hkn := he1 rfl
      subst hkn
      rw [List.take_of_length_le (by omega), List.take_of_length_le (Nat.le_refl _)] at hgk
      subst hgk
      refine Go.Sl.cw_seq ?_
      refine Go.Sl.cw_region ?_
      refine Go.Sl.ow_val rfl rfl (Go.Sl.v_move rfl) ?_
      refine Go.Sl.ow_val rfl rfl (Go.Sl.v_move rfl) ?_
      refine Go.Sl.ow_val rfl rfl (Go.Sl.v_rem rfl rfl (by decide)) ?_
      refine Go.Sl.ow_val rfl rfl (Go.Sl.v_convert Try.underlying5 Try.underlying3 rfl (Go.Sl.nw_i64 (by omega) (by omega))) ?_
      refine Go.Sl.ow_val rfl rfl (Go.Sl.v_add rfl rfl (Go.Sl.nw_i64 (by omega) (by omega))) ?_
      refine Go.Sl.ow_val rfl rfl (Go.Sl.v_move rfl) ?_
      refine Go.Sl.ow_val rfl rfl (Go.Sl.v_len rfl Try.underlying57 rfl) ?_
      refine Go.Sl.ow_val rfl rfl (Go.Sl.v_convert Try.underlying3 Try.underlying23 rfl (Go.Sl.nw_u64 (by omega) (by omega))) ?_
      (refine Go.Sl.ow_call rfl rfl rfl rfl (hnx (by repeat (first | exact Go.Sl.Sub.here | assumption | refine Go.Sl.Sub.there ?_))) ?_; rintro _ _ ⟨x65, rfl, hq65, rfl⟩)
      refine Go.Sl.ow_val rfl rfl (Go.Sl.v_move rfl) ?_
      refine Go.Sl.ow_val rfl rfl (Go.Sl.v_extract rfl rfl) ?_
      refine Go.Sl.ow_val rfl rfl (Go.Sl.v_extract rfl rfl) ?_
      (refine Go.Sl.ow_alloc rfl rfl Ty.ze64 ?_; intro b15)
      refine Go.Sl.ow_storeE rfl (pTy) rfl rfl .here (by first | rfl | assumption) (okP _) ?_
      refine Go.Sl.ow_val rfl rfl (Go.Sl.v_assign rfl) ?_
      refine Go.Sl.ow_nil ?_
      refine Go.Sl.xw_then ?_
      refine Go.Sl.cw_seq ?_
      refine Go.Sl.cw_seq ?_
      refine Go.Sl.cw_region ?_
      refine Go.Sl.ow_val rfl rfl (Go.Sl.v_move rfl) ?_
      refine Go.Sl.ow_val rfl rfl (Go.Sl.v_not_false rfl) ?_
      refine Go.Sl.ow_nil ?_
      refine Go.Sl.xw_then ?_
      refine Go.Sl.cw_true rfl ?_
      refine Go.Sl.cw_exit ?_
      refine Go.Sl.xw_then_exit ?_
      refine Go.Sl.xw_block_other rfl ?_
      refine Go.Sl.xw_then_exit ?_
      refine Go.Sl.xw_round_exit ?_
      refine Go.Sl.xw_block_exit ?_
      exact xw_joint ((c, cg) : Hp × Hp) ⟨hO, hL⟩ (by first | exact Go.Sl.Cov.refl _ | (intro p; simp only [List.flatten_cons, List.flatten_nil, List.flatten_append, List.append_nil, List.nil_append, Go.Sl.cnt_append, Go.Sl.cnt_cons, Go.Sl.cnt_nil, List.set_cons_zero, List.set_cons_succ, List.length_nil, List.length_cons, Nat.zero_add, List.append]; omega)) (by repeat (first | exact True.intro | refine And.intro rfl ?_))
    · have hd : (t.drop k).length = t.length - k := List.length_drop ..
      have hdl : ((t.drop k).take n).length = n := by rw [List.length_take]; omega
      have hnx : ∀ {G : List Hp}, Go.Sl.Sub c G → Go.Sl.Fn Try.prog 39 #[.pointer (some ⟨x25.1, 0, none⟩), .int .i64 (1 + most.tmod 50), .int .u64 t.length] B w0 G fun u G' => ∃ x : PartV × Hp, u = .tuple #[enP.val x.1, .bool true] ∧ (x.1.at_ = k ∧ x.1.n = n ∧ x.1.fin = decide (k + n = t.length) ∧ Ls enB 5 (.slice x.1.ao x.1.n x.1.cap) x.2 ((t.drop k).take n)) ∧ G' = [x.2] ++ G := fun hs => by
        have h := outNext_c (B := B) (w0 := w0) hO hs hw (most := 1 + most.tmod 50) (limit := t.length) (by omega) (by omega)
        rw [hN] at h
        dsimp only at h
        rw [hdl] at h
        refine h.mono ?_
        rintro u G' ⟨x, rfl, hx, rfl⟩
        exact ⟨(⟨k, x.1, n, x.2.1, decide (k + n = t.length)⟩, x.2.2), rfl, ⟨rfl, rfl, rfl, hx⟩, rfl⟩
      have hsn : ∀ {G : List Hp} {R : Hp → List Hp} {p : PartV}, Sel G c R → p.at_ = k → p.n = n → p.fin = decide (k + n = t.length) → Go.Sl.Fn Try.prog 40 #[.pointer (some ⟨x25.1, 0, none⟩), enP.val p] B w0 G fun u G' => ∃ c' : Hp, u = .tuple #[] ∧ OutAt (mS t k n) x25.1 c' ∧ G' = R c' := fun {G R p} hs h1 h2 h3 => by
        have h := outSent_c (B := B) (w0 := w0) (p := p) hs hO hw (by omega) (by omega)
        rw [h1, h2, h3, mW_sent hn1 ht] at h
        exact h
      have hlo : ∀ {G : List Hp} {R : Hp → List Hp} {c : Hp} {p : PartV}, OutAt (mS t k n) x25.1 c → Sel G c R → p.at_ = k → p.n = n → p.fin = decide (k + n = t.length) → Go.Sl.Fn Try.prog 61 #[.pointer (some ⟨x25.1, 0, none⟩), .int .u64 p.at_, .int .i64 p.n, .bool p.fin] B w0 G fun u G' => ∃ c' : Hp, u = .tuple #[] ∧ OutAt (mW t k false) x25.1 c' ∧ G' = R c' := fun {G R c p} hO hs h1 h2 h3 => by
        have h := outLost_c (B := B) (w0 := w0) (at_ := k) (size := n) (fin := decide (k + n = t.length)) hs hO (mS_wf hn1 ht) (by omega) (by omega)
        rw [mS_lost hn1 ht] at h
        rw [h1, h2, h3]
        exact h
      have hca : ∀ {G : List Hp} {R : Hp → List Hp} {c : Hp} {p : PartV}, OutAt (mS t k n) x25.1 c → Sel G c R → p.at_ = k → p.n = n → p.fin = decide (k + n = t.length) → Go.Sl.Fn Try.prog 62 #[.pointer (some ⟨x25.1, 0, none⟩), .int .u64 p.at_, .int .i64 p.n, .bool p.fin] B w0 G fun u G' => ∃ c' : Hp, u = .tuple #[] ∧ OutAt (mW t (k + n) (decide (k + n = t.length))) x25.1 c' ∧ G' = R c' := fun {G R c p} hO hs h1 h2 h3 => by
        have h := outCame_c (B := B) (w0 := w0) (at_ := k) (size := n) (fin := decide (k + n = t.length)) hs hO (mS_wf hn1 ht) (by omega) (by omega)
        rw [mS_came hn1 ht hn2] at h
        rw [h1, h2, h3]
        exact h
      refine Go.Sl.cw_seq ?_
      refine Go.Sl.cw_region ?_
      refine Go.Sl.ow_val rfl rfl (Go.Sl.v_move rfl) ?_
      refine Go.Sl.ow_val rfl rfl (Go.Sl.v_move rfl) ?_
      refine Go.Sl.ow_val rfl rfl (Go.Sl.v_rem rfl rfl (by decide)) ?_
      refine Go.Sl.ow_val rfl rfl (Go.Sl.v_convert Try.underlying5 Try.underlying3 rfl (Go.Sl.nw_i64 (by omega) (by omega))) ?_
      refine Go.Sl.ow_val rfl rfl (Go.Sl.v_add rfl rfl (Go.Sl.nw_i64 (by omega) (by omega))) ?_
      refine Go.Sl.ow_val rfl rfl (Go.Sl.v_move rfl) ?_
      refine Go.Sl.ow_val rfl rfl (Go.Sl.v_len rfl Try.underlying57 rfl) ?_
      refine Go.Sl.ow_val rfl rfl (Go.Sl.v_convert Try.underlying3 Try.underlying23 rfl (Go.Sl.nw_u64 (by omega) (by omega))) ?_
      (refine Go.Sl.ow_call rfl rfl rfl rfl (hnx (by repeat (first | exact Go.Sl.Sub.here | assumption | refine Go.Sl.Sub.there ?_))) ?_; rintro _ _ ⟨x65, rfl, hq65, rfl⟩)
      refine Go.Sl.ow_val rfl rfl (Go.Sl.v_move rfl) ?_
      refine Go.Sl.ow_val rfl rfl (Go.Sl.v_extract rfl rfl) ?_
      refine Go.Sl.ow_val rfl rfl (Go.Sl.v_extract rfl rfl) ?_
      (refine Go.Sl.ow_alloc rfl rfl Ty.ze64 ?_; intro b15)
      refine Go.Sl.ow_storeE rfl (pTy) rfl rfl .here (by first | rfl | assumption) (okP _) ?_
      refine Go.Sl.ow_val rfl rfl (Go.Sl.v_assign rfl) ?_
      refine Go.Sl.ow_nil ?_
      refine Go.Sl.xw_then ?_
      refine Go.Sl.cw_seq ?_
      refine Go.Sl.cw_seq ?_
      refine Go.Sl.cw_region ?_
      refine Go.Sl.ow_val rfl rfl (Go.Sl.v_move rfl) ?_
      refine Go.Sl.ow_val rfl rfl (Go.Sl.v_not_true rfl) ?_
      refine Go.Sl.ow_nil ?_
      refine Go.Sl.xw_then ?_
      refine Go.Sl.cw_false rfl ?_
      refine Go.Sl.cw_skip ?_
      refine Go.Sl.xw_then ?_
      obtain ⟨hp1, hp2, hp3, hp4⟩ := hq65
      refine Go.Sl.cw_seq ?_
      refine Go.Sl.cw_region ?_
      refine Go.Sl.ow_val rfl rfl (Go.Sl.v_move rfl) ?_
      refine Go.Sl.ow_val rfl rfl (Go.Sl.v_load rfl (Go.Sl.Var.atN Ty.ag64 .here Go.Sl.GetN.all (by first | rfl | assumption))) ?_
      (refine Go.Sl.ow_call rfl rfl rfl rfl (hsn (by repeat (first | exact Go.Sl.Sel.here | apply Go.Sl.Sel.there)) hp1 hp2 hp3) ?_; rintro _ _ ⟨x72, rfl, hq72, rfl⟩)
      refine Go.Sl.ow_nil ?_
      refine Go.Sl.xw_then ?_
      refine Go.Sl.cw_cut2 (ι := (Unit)) [(0, _), (1, _), (2, _), (3, _), (8, _), (9, _), (10, _), (12, _), (13, _), (15, _), (22, _), (28, _), (53, _)] ⟨rfl, rfl, rfl, rfl, rfl, rfl, rfl, rfl, rfl, rfl, rfl, rfl, rfl, trivial⟩ ((fun _ => [])) ((fun _ => True)) ((fun _ => [(b15, .cells (enP.f x65.1).toArray 64 (0, 0))] :: x65.2 :: x72 :: cg :: F)) ?_ ?_
      · refine Go.Sl.cw_seq ?_
        refine Go.Sl.cw_region ?_
        refine Go.Sl.ow_val rfl rfl (Go.Sl.v_move rfl) ?_
        refine Go.Sl.ow_val rfl rfl (Go.Sl.v_move rfl) ?_
        refine Go.Sl.ow_val rfl rfl (Go.Sl.v_len rfl Try.underlying94 rfl) ?_
        refine Go.Sl.ow_val rfl rfl (Go.Sl.v_lss rfl rfl) ?_
        refine Go.Sl.ow_val rfl rfl (Go.Sl.v_move rfl) ?_
        refine Go.Sl.ow_dec 77 rfl (fun hc77 => ?_) (fun hc77 => ?_)
        refine Go.Sl.ow_val rfl rfl (Go.Sl.v_move rfl) ?_
        refine Go.Sl.ow_val rfl rfl (Go.Sl.v_lss rfl rfl) ?_
        refine Go.Sl.ow_val rfl rfl (Go.Sl.v_pick_true rfl rfl) ?_
        refine Go.Sl.ow_val rfl rfl (Go.Sl.v_move rfl) ?_
        refine Go.Sl.ow_dec 81 rfl (fun hc81 => ?_) (fun hc81 => ?_)
        refine Go.Sl.ow_val rfl rfl (Go.Sl.v_move rfl) ?_
        refine Go.Sl.ow_val rfl rfl (Go.Sl.v_move rfl) ?_
        refine Go.Sl.ow_val rfl rfl (Go.Sl.v_indexAddr_vw Try.underlying94 (boTy) rfl rfl (hLo []) rfl (by omega)) ?_
        refine Go.Sl.ow_val rfl rfl (Go.Sl.v_load rfl (Go.Sl.Vw.var (boTy) (hLo _) (by omega))) ?_
        refine Go.Sl.ow_val rfl rfl (Go.Sl.v_pick_true rfl rfl) ?_
        refine Go.Sl.ow_nil ?_
        refine Go.Sl.xw_then ?_
        refine Go.Sl.cw_bool rfl (fun hc86 => ?_) (fun hc86 => ?_)
        refine Go.Sl.cw_seq ?_
        refine Go.Sl.cw_region ?_
        refine Go.Sl.ow_val rfl rfl (Go.Sl.v_move rfl) ?_
        refine Go.Sl.ow_val rfl rfl (Go.Sl.v_fieldAddr0 Ty.fd64_0 rfl) ?_
        refine Go.Sl.ow_val rfl rfl (Go.Sl.v_load rfl (Go.Sl.Var.at1 Ty.sc23 .here (Go.Sl.GetN.lit rfl))) ?_
        refine Go.Sl.ow_val rfl rfl (Go.Sl.v_fieldAddr0 Ty.fd64_1 rfl) ?_
        refine Go.Sl.ow_val rfl rfl (Go.Sl.v_load rfl (Go.Sl.Var.at1 Ty.sc57 .here (Go.Sl.GetN.lit rfl))) ?_
        refine Go.Sl.ow_val rfl rfl (Go.Sl.v_len rfl Try.underlying57 rfl) ?_
        refine Go.Sl.ow_val rfl rfl (Go.Sl.v_fieldAddr0 Ty.fd64_2 rfl) ?_
        refine Go.Sl.ow_val rfl rfl (Go.Sl.v_load rfl (Go.Sl.Var.at1 Ty.sc4 .here (Go.Sl.GetN.lit rfl))) ?_
        (refine Go.Sl.ow_call rfl rfl rfl rfl (hlo hq72 (by repeat (first | exact Go.Sl.Sel.here | apply Go.Sl.Sel.there)) hp1 hp2 hp3) ?_; rintro _ _ ⟨x95, rfl, hq95, rfl⟩)
        refine Go.Sl.ow_nil ?_
        refine Go.Sl.xw_then ?_
        refine Go.Sl.cw_exit ?_
        refine Go.Sl.xw_joint_exit ?_
        refine Go.Sl.xw_block_exit ?_
        refine Go.Sl.xw_then ?_
        refine Go.Sl.cw_region ?_
        refine Go.Sl.ow_val rfl rfl (Go.Sl.v_add rfl rfl (Go.Sl.nw_i64 (by omega) (by omega))) ?_
        refine Go.Sl.ow_val rfl rfl (Go.Sl.v_move rfl) ?_
        refine Go.Sl.ow_nil ?_
        rotate_left
        refine Go.Sl.cw_skip ?_
        rotate_left
        refine Go.Sl.ow_skip rfl rfl ?_
        refine Go.Sl.ow_skip rfl rfl ?_
        refine Go.Sl.ow_skip rfl rfl ?_
        refine Go.Sl.ow_skip rfl rfl ?_
        refine Go.Sl.ow_val rfl rfl (Go.Sl.v_pick_false rfl rfl) ?_
        refine Go.Sl.ow_nil ?_
        refine Go.Sl.xw_then ?_
        refine Go.Sl.cw_false rfl ?_
        refine Go.Sl.cw_skip ?_
        rotate_left
        refine Go.Sl.ow_skip rfl rfl ?_
        refine Go.Sl.ow_skip rfl rfl ?_
        refine Go.Sl.ow_val rfl rfl (Go.Sl.v_pick_false rfl rfl) ?_
        refine Go.Sl.ow_val rfl rfl (Go.Sl.v_move rfl) ?_
        refine Go.Sl.ow_skip rfl rfl ?_
        refine Go.Sl.ow_skip rfl rfl ?_
        refine Go.Sl.ow_skip rfl rfl ?_
        refine Go.Sl.ow_skip rfl rfl ?_
        refine Go.Sl.ow_val rfl rfl (Go.Sl.v_pick_false rfl rfl) ?_
        refine Go.Sl.ow_nil ?_
        refine Go.Sl.xw_then ?_
        refine Go.Sl.cw_false rfl ?_
        refine Go.Sl.cw_skip ?_
        rotate_left
        · exact xw_round (⟨i + 1, k, false, x95, g, cg⟩ : Ix) ⟨by dsimp only; omega, hk, he1, he2, by dsimp only; omega, hq95, hgl, hgk, hL⟩ (by dsimp only; omega) (by first | exact Go.Sl.Cov.refl _ | (intro p; simp only [List.flatten_cons, List.flatten_nil, List.flatten_append, List.append_nil, List.nil_append, Go.Sl.cnt_append, Go.Sl.cnt_cons, Go.Sl.cnt_nil, List.set_cons_zero, List.set_cons_succ, List.length_nil, List.length_cons, Nat.zero_add, List.append]; omega)) (by repeat (first | exact True.intro | refine And.intro rfl ?_))
        all_goals exact xw_joint () trivial (by first | exact Go.Sl.Cov.refl _ | (intro p; simp only [List.flatten_cons, List.flatten_nil, List.flatten_append, List.append_nil, List.nil_append, Go.Sl.cnt_append, Go.Sl.cnt_cons, Go.Sl.cnt_nil, List.set_cons_zero, List.set_cons_succ, List.length_nil, List.length_cons, Nat.zero_add, List.append]; omega)) (by repeat (first | exact True.intro | refine And.intro rfl ?_))
      rintro _ _
      refine Go.Sl.cw_seq ?_
      refine Go.Sl.cw_mix [] [6] [0, 1, 2, 3, 4, 5] Ty.mixed rfl rfl rfl rfl (by decide +kernel) ?_
      refine Go.Sl.hw_pure rfl rfl (Go.Sl.v_move rfl) rfl ?_
      refine Go.Sl.hw_pure rfl rfl (Go.Sl.v_fieldAddr0 Ty.fd64_0 rfl) rfl ?_
      refine Go.Sl.hw_read rfl rfl rfl (Go.Sl.v_load rfl (Go.Sl.Var.at1 Ty.sc23 .here (Go.Sl.GetN.lit rfl))) ?_
      refine Go.Sl.hw_pure rfl rfl (Go.Sl.v_slice_ln Try.underlying57 Ty.el57 rfl rfl (Int.toNat_of_nonneg (by omega)).symm (by omega)) rfl ?_
      refine Go.Sl.hw_pure rfl rfl (Go.Sl.v_fieldAddr0 Ty.fd64_1 rfl) rfl ?_
      refine Go.Sl.hw_read rfl rfl rfl (Go.Sl.v_load rfl (Go.Sl.Var.at1 Ty.sc57 .here (Go.Sl.GetN.lit rfl))) ?_
      refine Go.Sl.hw_nil ?_
      refine Go.Sl.sw_nil ?_
      refine Go.Sl.ow_copyLs (En := enB) (m := n) (k := x65.1.at_.toNat) rfl rfl rfl Try.underlying57 u8Ty Ty.el57 rfl rfl (by show min x65.1.n (t.length - x65.1.at_.toNat) = n; omega) (by omega) hL (Ls.vw hp4 (by repeat (first | exact Go.Sl.Sub.here | assumption | refine Go.Sl.Sub.there ?_))) (by repeat (first | exact Go.Sl.Sel.here | apply Go.Sl.Sel.there)) ?_
      intro cg2 hL2
      have hk2 : x65.1.at_.toNat = k := by omega
      rw [hk2] at hL2
      have hg2l : (g.take k ++ (((t.drop k).take n).take n ++ g.drop (k + n))).length = t.length := by
        simp only [List.length_append, List.length_take, List.length_drop]; omega
      have hg2k : (g.take k ++ (((t.drop k).take n).take n ++ g.drop (k + n))).take (k + n) = t.take (k + n) := by
        rw [List.take_take, Nat.min_self, hgk, ← List.append_assoc, ← List.take_add, List.take_append_of_le_length (by rw [List.length_take]; omega), List.take_take, Nat.min_self]
      generalize hg2 : g.take k ++ (((t.drop k).take n).take n ++ g.drop (k + n)) = g2 at hL2 hg2l hg2k
      have hinv : ∀ c3, OutAt (mW t (k + n) (decide (k + n = t.length))) x25.1 c3 → Inv t x25.1 ao52 (⟨i + 1, k + n, decide (k + n = t.length), c3, g2, cg2⟩ : Ix) := fun c3 h3 => ⟨by dsimp only; omega, hn1, fun h => of_decide_eq_true h, fun h => by
          have := of_decide_eq_false h
          dsimp only
          omega, by
          dsimp only
          rcases hfar with h | h | h
          · by_cases h0 : n = 0
            · have := hn2 h0
              exact .inr (.inl (decide_eq_true (by omega)))
            · omega
          · cases h
          · by_cases h0 : n = 0
            · have := hn2 h0
              exact .inr (.inl (decide_eq_true (by omega)))
            · omega, h3, hg2l, hg2k, hL2⟩
      refine Go.Sl.ow_nil ?_
      refine Go.Sl.xw_np ?_
      refine Go.Sl.xw_then ?_
      refine Go.Sl.cw_seq ?_
      refine Go.Sl.cw_region ?_
      refine Go.Sl.ow_val rfl rfl (Go.Sl.v_move rfl) ?_
      refine Go.Sl.ow_val rfl rfl (Go.Sl.v_move rfl) ?_
      refine Go.Sl.ow_val rfl rfl (Go.Sl.v_fieldAddr0 Ty.fd64_2 rfl) ?_
      refine Go.Sl.ow_val rfl rfl (Go.Sl.v_load rfl (Go.Sl.Var.at1 Ty.sc4 .here (Go.Sl.GetN.lit rfl))) ?_
      refine Go.Sl.ow_val rfl rfl (Go.Sl.v_move rfl) ?_
      refine Go.Sl.ow_bool 107 rfl (fun hc107 => ?_) (fun hc107 => ?_)
      refine Go.Sl.ow_val rfl rfl (Go.Sl.v_fieldAddr0 Ty.fd64_0 rfl) ?_
      refine Go.Sl.ow_val rfl rfl (Go.Sl.v_load rfl (Go.Sl.Var.at1 Ty.sc23 .here (Go.Sl.GetN.lit rfl))) ?_
      refine Go.Sl.ow_val rfl rfl (Go.Sl.v_convert Try.underlying23 Try.underlying3 rfl (Go.Sl.nw_i64 (by omega) (by omega))) ?_
      refine Go.Sl.ow_val rfl rfl (Go.Sl.v_fieldAddr0 Ty.fd64_1 rfl) ?_
      refine Go.Sl.ow_val rfl rfl (Go.Sl.v_load rfl (Go.Sl.Var.at1 Ty.sc57 .here (Go.Sl.GetN.lit rfl))) ?_
      refine Go.Sl.ow_val rfl rfl (Go.Sl.v_len rfl Try.underlying57 rfl) ?_
      refine Go.Sl.ow_val rfl rfl (Go.Sl.v_add rfl rfl (Go.Sl.nw_i64 (by omega) (by omega))) ?_
      refine Go.Sl.ow_val rfl rfl (Go.Sl.v_move rfl) ?_
      refine Go.Sl.ow_val rfl rfl (Go.Sl.v_len rfl Try.underlying57 rfl) ?_
      refine Go.Sl.ow_val rfl rfl (Go.Sl.v_eql rfl rfl) ?_
      refine Go.Sl.ow_val rfl rfl (Go.Sl.v_pick_true rfl rfl) ?_
      refine Go.Sl.ow_val rfl rfl (Go.Sl.v_pick_false rfl rfl) ?_
      refine Go.Sl.ow_val rfl rfl (Go.Sl.v_assign rfl) ?_
      refine Go.Sl.ow_nil ?_
      refine Go.Sl.xw_then ?_
      refine Go.Sl.cw_region ?_
      refine Go.Sl.ow_val rfl rfl (Go.Sl.v_move rfl) ?_
      refine Go.Sl.ow_val rfl rfl (Go.Sl.v_fieldAddr0 Ty.fd64_0 rfl) ?_
      refine Go.Sl.ow_val rfl rfl (Go.Sl.v_load rfl (Go.Sl.Var.at1 Ty.sc23 .here (Go.Sl.GetN.lit rfl))) ?_
      refine Go.Sl.ow_val rfl rfl (Go.Sl.v_fieldAddr0 Ty.fd64_1 rfl) ?_
      refine Go.Sl.ow_val rfl rfl (Go.Sl.v_load rfl (Go.Sl.Var.at1 Ty.sc57 .here (Go.Sl.GetN.lit rfl))) ?_
      refine Go.Sl.ow_val rfl rfl (Go.Sl.v_len rfl Try.underlying57 rfl) ?_
      refine Go.Sl.ow_val rfl rfl (Go.Sl.v_fieldAddr0 Ty.fd64_2 rfl) ?_
      refine Go.Sl.ow_val rfl rfl (Go.Sl.v_load rfl (Go.Sl.Var.at1 Ty.sc4 .here (Go.Sl.GetN.lit rfl))) ?_
      (refine Go.Sl.ow_call rfl rfl rfl rfl (hca hq72 (by repeat (first | exact Go.Sl.Sel.here | apply Go.Sl.Sel.there)) hp1 hp2 hp3) ?_; rintro _ _ ⟨x128, rfl, hq128, rfl⟩)
      refine Go.Sl.ow_nil ?_
      refine Go.Sl.xw_block ?_
      refine Go.Sl.xw_then ?_
      refine Go.Sl.cw_region ?_
      refine Go.Sl.ow_val rfl rfl (Go.Sl.v_add rfl rfl (Go.Sl.nw_i64 (by omega) (by omega))) ?_
      refine Go.Sl.ow_val rfl rfl (Go.Sl.v_move rfl) ?_
      refine Go.Sl.ow_nil ?_
      rotate_left
      refine Go.Sl.ow_skip rfl rfl ?_
      refine Go.Sl.ow_skip rfl rfl ?_
      refine Go.Sl.ow_skip rfl rfl ?_
      refine Go.Sl.ow_skip rfl rfl ?_
      refine Go.Sl.ow_skip rfl rfl ?_
      refine Go.Sl.ow_skip rfl rfl ?_
      refine Go.Sl.ow_skip rfl rfl ?_
      refine Go.Sl.ow_skip rfl rfl ?_
      refine Go.Sl.ow_skip rfl rfl ?_
      refine Go.Sl.ow_skip rfl rfl ?_
      refine Go.Sl.ow_val rfl rfl (Go.Sl.v_pick_false rfl rfl) ?_
      refine Go.Sl.ow_val rfl rfl (Go.Sl.v_pick_false rfl rfl) ?_
      refine Go.Sl.ow_val rfl rfl (Go.Sl.v_assign rfl) ?_
      refine Go.Sl.ow_nil ?_
      refine Go.Sl.xw_then ?_
      refine Go.Sl.cw_region ?_
      refine Go.Sl.ow_val rfl rfl (Go.Sl.v_move rfl) ?_
      refine Go.Sl.ow_val rfl rfl (Go.Sl.v_fieldAddr0 Ty.fd64_0 rfl) ?_
      refine Go.Sl.ow_val rfl rfl (Go.Sl.v_load rfl (Go.Sl.Var.at1 Ty.sc23 .here (Go.Sl.GetN.lit rfl))) ?_
      refine Go.Sl.ow_val rfl rfl (Go.Sl.v_fieldAddr0 Ty.fd64_1 rfl) ?_
      refine Go.Sl.ow_val rfl rfl (Go.Sl.v_load rfl (Go.Sl.Var.at1 Ty.sc57 .here (Go.Sl.GetN.lit rfl))) ?_
      refine Go.Sl.ow_val rfl rfl (Go.Sl.v_len rfl Try.underlying57 rfl) ?_
      refine Go.Sl.ow_val rfl rfl (Go.Sl.v_fieldAddr0 Ty.fd64_2 rfl) ?_
      refine Go.Sl.ow_val rfl rfl (Go.Sl.v_load rfl (Go.Sl.Var.at1 Ty.sc4 .here (Go.Sl.GetN.lit rfl))) ?_
      (refine Go.Sl.ow_call rfl rfl rfl rfl (hca hq72 (by repeat (first | exact Go.Sl.Sel.here | apply Go.Sl.Sel.there)) hp1 hp2 hp3) ?_; rintro _ _ ⟨x128, rfl, hq128, rfl⟩)
      refine Go.Sl.ow_nil ?_
      refine Go.Sl.xw_block ?_
      refine Go.Sl.xw_then ?_
      refine Go.Sl.cw_region ?_
      refine Go.Sl.ow_val rfl rfl (Go.Sl.v_add rfl rfl (Go.Sl.nw_i64 (by omega) (by omega))) ?_
      refine Go.Sl.ow_val rfl rfl (Go.Sl.v_move rfl) ?_
      refine Go.Sl.ow_nil ?_
      rotate_left
      · exact xw_round _ (hinv _ hq128) (by dsimp only; omega) (by first | exact Go.Sl.Cov.refl _ | (intro p; simp only [List.flatten_cons, List.flatten_nil, List.flatten_append, List.append_nil, List.nil_append, Go.Sl.cnt_append, Go.Sl.cnt_cons, Go.Sl.cnt_nil, List.set_cons_zero, List.set_cons_succ, List.length_nil, List.length_cons, Nat.zero_add, List.append]; omega)) ⟨congrArg (fun z => some (Value.bool z)) (decide_eq_decide.2 (by omega)), (by repeat (first | exact True.intro | refine And.intro rfl ?_))⟩
      · exact xw_round _ (hinv _ hq128) (by dsimp only; omega) (by first | exact Go.Sl.Cov.refl _ | (intro p; simp only [List.flatten_cons, List.flatten_nil, List.flatten_append, List.append_nil, List.nil_append, Go.Sl.cnt_append, Go.Sl.cnt_cons, Go.Sl.cnt_nil, List.set_cons_zero, List.set_cons_succ, List.length_nil, List.length_cons, Nat.zero_add, List.append]; omega)) ⟨congrArg (fun z => some (Value.bool z)) (hc107.symm.trans hp3), (by repeat (first | exact True.intro | refine And.intro rfl ?_))⟩
  · have hend : e = true ∧ k = t.length := by
      rcases hfar with h | h | h
      · omega
      · exact ⟨h, he1 h⟩
      · omega
    obtain ⟨rfl, rfl⟩ := hend
    rw [List.take_of_length_le (by omega), List.take_of_length_le (Nat.le_refl _)] at hgk
    subst hgk
    exact xw_joint ((c, cg) : Hp × Hp) ⟨hO, hL⟩ (by first | exact Go.Sl.Cov.refl _ | (intro p; simp only [List.flatten_cons, List.flatten_nil, List.flatten_append, List.append_nil, List.nil_append, Go.Sl.cnt_append, Go.Sl.cnt_cons, Go.Sl.cnt_nil, List.set_cons_zero, List.set_cons_succ, List.length_nil, List.length_cons, Nat.zero_add, List.append]; omega)) (by repeat (first | exact True.intro | refine And.intro rfl ?_))

/-- a truth value as it lies in memory -/
theorem form_bo {H : Type} {enc : TypeId × Value → H} {w : World} {fuel : Nat} {cs : List Value} {y : DataW H × List MemPlace} (h : DataW.trod enc Try.prog w 0 (fun _ => true) true fuel 4 cs = some y) : ∃ a : Bool, cs = enBo.f a ∧ enBo.ok a := by
  obtain ⟨n, e⟩ := form_bool Try.underlying4 h
  exact ⟨n, e, trivial⟩
theorem walk {H : Type} {enc : TypeId × Value → H} (W : World) (base : Nat) (args : Array Value) (ds : List (DataW H)) (p : List MemPlace)
    (hval : ∀ (j : Nat) t v, Try.f12.params[j]? = some t → args[j]? = some v → Value.okWide Try.prog W .any base t v)
    (hA : DataW.TrodAll enc Try.prog W 0 (fun _ => true) true Try.f12.params.toList args.toList ds p) :
    Calls Try.prog 12 args W fun e w' => e = .returned (.bool true) ∧ Below W.heap.size W w' := by
  rw [Try.params12] at hA hval
  obtain ⟨v0, vs0, d0, ds0, p0, q0, hargs, rfl, rfl, h0, r0⟩ := trodAll_cons hA
  obtain ⟨v1, vs1, d1, ds1, p1, q1, rfl, rfl, rfl, h1, r1⟩ := trodAll_cons r0
  obtain ⟨v2, vs2, d2, ds2, p2, q2, rfl, rfl, rfl, h2, r2⟩ := trodAll_cons r1
  obtain ⟨v3, vs3, d3, ds3, p3, q3, rfl, rfl, rfl, h3, r3⟩ := trodAll_cons r2
  obtain ⟨rfl, rfl, rfl⟩ := trodAll_nil r3
  obtain rfl : args = #[v0, v1, v2, v3] := by cases args; simp_all
  obtain ⟨t, aoT, capT, rfl, hl, hct, hT⟩ := open_bytes (hval 0 57 v0 rfl rfl) h0
  obtain ⟨ao, len, cap, rfl⟩ := okWide_slice Try.underlying94 (hval 1 94 v1 rfl rfl)
  obtain ⟨fu, h1⟩ := h1
  obtain ⟨hlc, hm, f, hf, o⟩ := oldSl (size := 1) Try.underlying94 (by kernel_rfl) (by decide) h1 enBo.f enBo.ok (fun fuel cs y h => form_bo h)
  unfold maxLen at hm
  have hv := oldVw boTy o hf hlc
  have hlen : ((List.range len).map f).length = len := by simp
  obtain ⟨n2, rfl, w2⟩ := open_u8 (hval 2 5 v2 rfl rfl) h2
  obtain ⟨n3, rfl, w3⟩ := open_u8 (hval 3 5 v3 rfl rfl) h3
  have key := (law w2 w3 hl hct (by rw [hlen]; omega) hT hv []).call
  rw [hlen] at key
  exact key

theorem own : ownKnob Try.prog.godebug = none := by kernel_rfl
theorem laidOut : laidOutB Try.prog = true := by kernel_rfl
theorem reads : ∀ t ∈ Try.f12.params.toList, Try.prog.readableRec t = true ∧ t < Try.prog.types.size := by
  rw [Try.params12]
  intro t ht
  simp only [List.mem_cons, List.not_mem_nil, or_false] at ht
  rcases ht with rfl | rfl | rfl | rfl
  · exact ⟨by kernel_rfl, of_decide_eq_true (by kernel_rfl)⟩
  · exact ⟨by kernel_rfl, of_decide_eq_true (by kernel_rfl)⟩
  · exact ⟨by kernel_rfl, of_decide_eq_true (by kernel_rfl)⟩
  · exact ⟨by kernel_rfl, of_decide_eq_true (by kernel_rfl)⟩

set_option maxRecDepth 100000 in
theorem lifted (os : Os) (started : os.Started) (H : Type) (enc : TypeId × Value → H) :
    ReturnsInHanded {} Try.checked os 12 .any (Rows.outbufWholeSpec.pre6 enc Try.prog Try.f12 Rows.outbufWholeRow.domain false) (Rows.outbufWholeSpec.post enc Try.prog Try.f12 false true false false) := by
  refine returnsInHanded_of_change (C := Try.checked) own started (by kernel_rfl) Try.func12
    (ChangeSpec.witness6 (enc := enc) (C := Try.checked) false ⟨#[], #[.slice none 0 0, .slice none 0 0, .int .u8 0, .int .u8 0], []⟩ 8 (by kernel_rfl) (by kernel_rfl) (by kernel_rfl) (by kernel_rfl)) ?_
  intro W base args ds gs before hval hW _ _
  have hW' := hW
  obtain ⟨p, q, hA0, hV, rfl, _, _⟩ := hW
  obtain ⟨rfl, rfl⟩ := trodVars_none hV
  have hA : DataW.TrodAll enc Try.prog W 0 (fun _ => true) true Try.f12.params.toList args.toList ds p := hA0
  have hlen := trodAll_len hA
  refine (walk W base args ds p hval hA).mono fun e W' ⟨he, bel⟩ => ?_
  subst he
  rw [Try.params12] at hlen
  match ds, hlen.2, hA, hW' with
  | [d0, d1, d2, d3], _, hA, hW' => exact ⟨_, rfl, _, _, _, [], _, [], hW', trodAll_mk1 (shut_bool Try.underlying4 _), trodAll_stays laidOut bel reads hA, rfl, bel.frame _, fun h => by cases h⟩

theorem over : Rows.outbufWholeRow.holds Try.pinned (OpenSpec.ofChange Rows.outbufWholeSpec) :=
  OpenClaim.holds_of_wide 12 Try.f12 rfl rfl rfl rfl rfl rfl rfl ⟨rfl, rfl, rfl, rfl, rfl⟩ rfl rfl rfl rfl rfl (by kernel_rfl) Try.func12 (by kernel_rfl)
    (of_decide_eq_true (by kernel_rfl)) (by unfold Func.isWrapper; first | (rw [if_pos (by decide +kernel)]; kernel_rfl) | (rw [if_neg (by decide +kernel)]; exact ⟨rfl, rfl⟩))
    (fun os started H enc _ => lifted os started H enc)

theorem proved : Rows.OutbufWholeSaid := over

end Go.Proofs.Ytbpnnkkbaakdjaa.lawOutbufWhole
