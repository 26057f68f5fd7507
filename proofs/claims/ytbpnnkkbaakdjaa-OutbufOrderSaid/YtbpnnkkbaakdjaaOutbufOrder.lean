/- OutbufOrder: whatever the input it returns true, and the input reads as it did. Conditions: none. -/
import Derived.Test.YtbpnnkkbaakdjaaOutLaw
import Derived.Test.YtbpnnkkbaakdjaaForm
namespace Go.Proofs.Ytbpnnkkbaakdjaa.lawOutbufOrder
open Go Go.Sl Go.Proofs Go.RowKit Go.ChangeShapes Go.WideShapes Go.ChangeAt Go.Proofs.Ytbpnnkkbaakdjaa
set_option maxRecDepth 20000
set_option linter.unusedVariables false
set_option linter.unusedSimpArgs false

/-- a buffer of which nothing came: so many bytes were sent -/
def mO (t : List UInt8) (k : Int) (e : Bool) : BufM := ⟨t, 0, rngL k t.length, [], true, !e, false⟩
theorem mO_wf {t : List UInt8} {k : Int} {e : Bool} (hk : 0 ≤ k) (ht : t.length ≤ 200) : (mO t k e).WF := by
  refine ⟨by simp [mO], by simp [mO]; omega, rngL_good hk (by omega), Good.nil, fun n hn => ?_, fun n h => absurd h InR.nil, fun n _ h => absurd h InR.nil, fun n h1 h2 => by simp [mO] at h2; omega, InR.nil⟩
  have h1 : k ≤ n ∧ n < (t.length : Int) := rngL_mem.1 hn
  simp [mO]
  omega
theorem mO_new {t : List UInt8} (ht : t.length ≤ 200) : (buf0.write t).finish = mO t 0 false := by
  have hp : addE [] ⟨0 + (0 : Int), 0 + (0 : Int) + t.length⟩ = rngL 0 t.length := by
    refine rngL_eq (addE_spec Good.nil ⟨by simp, by simp; omega⟩).1 (by omega) (by omega) fun n => ?_
    rw [(addE_spec Good.nil ⟨by simp, by simp; omega⟩).2.1]
    simp only [Int.zero_add, InR.nil, false_or]
  have h1 : buf0.write t = ⟨t, 0, rngL 0 t.length, [], false, false, false⟩ := by
    rw [← hp]; rfl
  rw [h1]
  rfl
/-- what is sent next: nothing, or bytes in order -/
theorem mO_next {t : List UInt8} {at_ : Nat} {e : Bool} {k lim : Int} (hat : at_ ≤ t.length) (he : e = true → at_ = t.length) (he2 : e = false → at_ < t.length ∨ t.length = 0) (hl : 0 ≤ lim) :
    ((mO t at_ e).next k lim = (⟨0, [], false⟩, false) ∧ (k ≤ 0 ∨ e = true ∨ lim ≤ at_ ∧ at_ < t.length)) ∨
    (∃ n : Nat, (mO t at_ e).next k lim = (⟨at_, (t.take (at_ + n)).drop at_, decide (at_ + n = t.length)⟩, true) ∧ e = false ∧ at_ + n ≤ t.length ∧ (n : Int) ≤ k ∧ ((at_ : Int) + n ≤ lim ∨ n = 0) ∧ (n = 0 → t.length = 0)) := by
  have hf : firstR (mO t at_ e).pend 0 = if (at_ : Int) < t.length then (⟨at_, t.length⟩, true) else (⟨0, 0⟩, false) := rngL_first (by omega)
  by_cases hk : k ≤ 0
  · exact .inl ⟨if_pos hk, .inl hk⟩
  by_cases h1 : at_ < t.length
  · rw [if_pos (by omega)] at hf
    have hef : e = false := by
      cases e with
      | false => rfl
      | true => have := he rfl; omega
    by_cases h2 : lim ≤ at_
    · refine .inl ⟨?_, .inr (.inr ⟨h2, h1⟩)⟩
      rw [BufM.next, if_neg hk, hf, if_neg (by simp), if_pos (by dsimp only; omega)]
    · refine .inr ⟨(min (min (t.length : Int) lim) (at_ + k)).toNat - at_, ?_, hef, by omega, by omega, by omega, by omega⟩
      rw [BufM.next_some hk (by rw [hf]; rfl) (by rw [hf]; dsimp only; omega), hf]
      have hT : at_ + ((min (min (t.length : Int) lim) (at_ + k)).toNat - at_) = (min (min (t.length : Int) lim) (at_ + k)).toNat := by omega
      rw [hT]
      have e1 : ((mO t at_ e).base) = 0 := rfl
      have e2 : ((mO t at_ e).data) = t := rfl
      have e3 : ((mO t at_ e).fin) = true := rfl
      rw [e1, e2, e3]
      dsimp only
      rw [Int.sub_zero, Int.sub_zero, Bool.true_and]
      congr 2
      simp
      omega
  · rw [if_neg (by omega)] at hf
    cases e with
    | true =>
      refine .inl ⟨?_, .inr (.inl rfl)⟩
      rw [BufM.next, if_neg hk, hf, if_pos rfl, if_neg (by simp [mO])]
    | false =>
      have h0 := he2 rfl
      have h00 : t.length = 0 := by omega
      have ht : t = [] := List.length_eq_zero_iff.1 h00
      subst ht
      have ha0 : at_ = 0 := by simpa using hat
      subst ha0
      refine .inr ⟨0, ?_, rfl, by simp, by omega, .inr rfl, fun _ => rfl⟩
      rw [BufM.next, if_neg hk, hf, if_pos rfl, if_pos (by simp [mO])]
      rfl
theorem mO_sent {t : List UInt8} {at_ n : Nat} (hat : at_ + n ≤ t.length) (ht : t.length ≤ 200) : (mO t at_ false).sent at_ n (decide (at_ + n = t.length)) = mO t (at_ + n : Nat) (decide (at_ + n = t.length)) := by
  have hw : (mO t at_ false).WF := mO_wf (by omega) ht
  have hp : ((mO t at_ false).sent at_ n (decide (at_ + n = t.length))).pend = rngL (at_ + n : Nat) t.length := by
    refine rngL_eq (BufM.sent_wf hw (by omega) (by omega)).gp (by omega) (by omega) fun k => ?_
    rw [BufM.sent_mem hw (by omega) (by omega)]
    have : InR (mO t at_ false).pend k ↔ (at_ : Int) ≤ k ∧ k < t.length := rngL_mem
    rw [this]
    omega
  have h2 : (mO t at_ false).sent at_ n (decide (at_ + n = t.length)) = ⟨t, 0, ((mO t at_ false).sent at_ n (decide (at_ + n = t.length))).pend, [], true, if (decide (at_ + n = t.length)) = true then false else true, false⟩ := rfl
  rw [h2, hp, mO]
  congr 1
  cases decide (at_ + n = t.length) <;> rfl

structure Ix where
  i : Nat
  at_ : Nat
  e : Bool
  c : Hp
structure Inv (t : List UInt8) (b : Nat) (x : Ix) : Prop where
  i : x.i ≤ 600
  at_ : x.at_ ≤ t.length
  e1 : x.e = true → x.at_ = t.length
  e2 : x.e = false → x.at_ < t.length ∨ t.length = 0
  far : x.i ≤ 50 ∨ x.e = true ∨ x.i ≤ 50 + x.at_
  out : OutAt (mO t x.at_ x.e) b x.c

set_option maxHeartbeats 8000000 in
theorem law {B : Nat} {w0 : World} {t ms ls : List UInt8} {aoT aoM aoL : Option Addr} {capT capM capL : Nat} (hl : t.length ≤ 9223372036854775807) (hml : ms.length ≤ 9223372036854775807) (hll : ls.length ≤ 9223372036854775807) (hT : ∀ G, Vw enB (St B w0 G) (.slice aoT t.length capT) t) (hM : ∀ G, Vw enB (St B w0 G) (.slice aoM ms.length capM) ms) (hL : ∀ G, Vw enB (St B w0 G) (.slice aoL ls.length capL) ls) :
    FnC Try.prog 7 #[.slice aoT t.length capT, .slice aoM ms.length capM, .slice aoL ls.length capL] B w0 [] (R0 (.bool true)) := fun F => by
  refine fn_enter Try.func7 rfl (by kernel_rfl) Try.ntmps7 (by simp) ?_
  refine Go.Sl.cw_seq ?_
  refine Go.Sl.cw_region ?_
  refine Go.Sl.ow_val rfl rfl (Go.Sl.v_assign rfl) ?_
  refine Go.Sl.ow_nil ?_
  refine Go.Sl.xw_then ?_
  refine Go.Sl.cw_seq ?_
  refine Go.Sl.cw_seq ?_
  refine Go.Sl.cw_region ?_
  refine Go.Sl.ow_val rfl rfl (Go.Sl.v_call rfl rfl (outAwake_c)) ?_
  refine Go.Sl.ow_val rfl rfl (Go.Sl.v_not_true rfl) ?_
  refine Go.Sl.ow_nil ?_
  refine Go.Sl.xw_then ?_
  refine Go.Sl.cw_false rfl ?_
  refine Go.Sl.cw_skip ?_
  refine Go.Sl.xw_then ?_
  refine Go.Sl.cw_seq ?_
  refine Go.Sl.cw_seq ?_
  refine Go.Sl.cw_region ?_
  refine Go.Sl.ow_val rfl rfl (Go.Sl.v_move rfl) ?_
  refine Go.Sl.ow_val rfl rfl (Go.Sl.v_len rfl Try.underlying57 rfl) ?_
  refine Go.Sl.ow_val rfl rfl (Go.Sl.v_gtr rfl rfl) ?_
  refine Go.Sl.ow_nil ?_
  refine Go.Sl.xw_then ?_
  refine Go.Sl.cw_dec rfl (fun hc19 => ?_) (fun hc19 => ?_)
  refine Go.Sl.cw_seq ?_
  refine Go.Sl.cw_region ?_
  refine Go.Sl.ow_val rfl rfl (Go.Sl.v_assign rfl) ?_
  refine Go.Sl.ow_nil ?_
  refine Go.Sl.xw_then ?_
  refine Go.Sl.cw_ret ?_
  refine Go.Sl.xw_then_ret ?_
  refine Go.Sl.ret1 rfl (Go.Sl.res_tmp rfl) ?_
  rotate_left
  refine Go.Sl.cw_skip ?_
  refine Go.Sl.xw_then ?_
  refine Go.Sl.cw_seq ?_
  refine Go.Sl.cw_region ?_
  (refine Go.Sl.ow_call rfl rfl rfl rfl (newOut_c) ?_; rintro _ _ ⟨x20, rfl, hq20, rfl⟩)
  refine Go.Sl.ow_val rfl rfl (Go.Sl.v_assign rfl) ?_
  refine Go.Sl.ow_nil ?_
  refine Go.Sl.xw_then ?_
  rotate_left
  · exact done0 rfl (by first | exact Go.Sl.Cov.refl _ | (intro p; simp only [List.flatten_cons, List.flatten_nil, List.flatten_append, List.append_nil, List.nil_append, Go.Sl.cnt_append, Go.Sl.cnt_cons, Go.Sl.cnt_nil, List.set_cons_zero, List.set_cons_succ, List.length_nil, List.length_cons, Nat.zero_add, List.append]; omega))
  have ht : t.length ≤ 200 := by omega
  have hwr : ∀ {G : List Hp} {R : Hp → List Hp}, Sel G x20.2 R → Go.Sl.Fn Try.prog 37 #[.pointer (some ⟨x20.1, 0, none⟩), .slice aoT t.length capT] B w0 G fun u G' => ∃ c' : Hp, u = .tuple #[.int .i64 t.length, .int .i64 0] ∧ OutAt (buf0.write t) x20.1 c' ∧ G' = R c' := fun hs => outWrite_c hs hq20 buf0_wf (hT _) (by simp [buf0]; omega)
  refine Go.Sl.cw_seq ?_
  refine Go.Sl.cw_region ?_
  refine Go.Sl.ow_val rfl rfl (Go.Sl.v_move rfl) ?_
  refine Go.Sl.ow_val rfl rfl (Go.Sl.v_move rfl) ?_
  (refine Go.Sl.ow_call rfl rfl rfl rfl (hwr (by repeat (first | exact Go.Sl.Sel.here | apply Go.Sl.Sel.there))) ?_; rintro _ _ ⟨x23, rfl, hq23, rfl⟩)
  refine Go.Sl.ow_nil ?_
  refine Go.Sl.xw_then ?_
  have hfi : ∀ {G : List Hp} {R : Hp → List Hp}, Sel G x23 R → Go.Sl.Fn Try.prog 38 #[.pointer (some ⟨x20.1, 0, none⟩)] B w0 G fun u G' => ∃ c' : Hp, u = .int .i64 0 ∧ OutAt (mO t 0 false) x20.1 c' ∧ G' = R c' := fun hs => by
    have h := outFinish_c (B := B) (w0 := w0) hs hq23
    rw [mO_new ht] at h
    exact h
  refine Go.Sl.cw_seq ?_
  refine Go.Sl.cw_region ?_
  refine Go.Sl.ow_val rfl rfl (Go.Sl.v_move rfl) ?_
  (refine Go.Sl.ow_call rfl rfl rfl rfl (hfi (by repeat (first | exact Go.Sl.Sel.here | apply Go.Sl.Sel.there))) ?_; rintro _ _ ⟨x25, rfl, hq25, rfl⟩)
  refine Go.Sl.ow_nil ?_
  refine Go.Sl.xw_then ?_
  refine Go.Sl.cw_seq ?_
  refine Go.Sl.cw_region ?_
  refine Go.Sl.ow_val rfl rfl (Go.Sl.v_assign rfl) ?_
  refine Go.Sl.ow_val rfl rfl (Go.Sl.v_assign rfl) ?_
  refine Go.Sl.ow_nil ?_
  refine Go.Sl.xw_then ?_
  refine Go.Sl.cw_seq ?_
  refine Go.Sl.cw_seq ?_
  refine Go.Sl.cw_region ?_
  refine Go.Sl.ow_val rfl rfl (Go.Sl.v_move rfl) ?_
  refine Go.Sl.ow_nil ?_
  refine Go.Sl.xw_then ?_
  refine Go.Sl.cw_block ?_
  refine Go.Sl.cw_loop2 (ι := (Ix)) [(0, _), (1, _), (2, _), (7, _), (15, _)] ⟨rfl, rfl, rfl, rfl, rfl, trivial⟩ ((fun x => [(8, .int .i64 x.at_), (9, .bool x.e), (26, .int .i64 x.i)])) ((fun x => Inv t x20.1 x)) ((fun x => 600 - x.i)) ((fun x => x.c :: F)) ((⟨0, 0, false, x25⟩ : Ix)) (by repeat (first | exact True.intro | refine And.intro rfl ?_)) (by first | exact Go.Sl.Cov.refl _ | (intro p; simp only [List.flatten_cons, List.flatten_nil, List.flatten_append, List.append_nil, List.nil_append, Go.Sl.cnt_append, Go.Sl.cnt_cons, Go.Sl.cnt_nil, List.set_cons_zero, List.set_cons_succ, List.length_nil, List.length_cons, Nat.zero_add, List.append]; omega)) ?_ ?_
  · exact ⟨Nat.zero_le _, Nat.zero_le _, (fun h => by cases h), (fun _ => by show 0 < t.length ∨ t.length = 0; omega), .inl (Nat.zero_le _), hq25⟩
  rintro ⟨i, at_, e, c⟩ ⟨hi, hat, he1, he2, hfar, hO⟩
  dsimp only at hi hat he1 he2 hfar hO ⊢
  have hw : (mO t at_ e).WF := mO_wf (by omega) ht
  have hpl : (mO t at_ e).pend.length = if (at_ : Int) < t.length then 1 else 0 := rngL_len
  refine Go.Sl.cw_seq ?_
  refine Go.Sl.cw_region ?_
  refine Go.Sl.ow_val rfl rfl (Go.Sl.v_lss rfl rfl) ?_
  refine Go.Sl.ow_nil ?_
  refine Go.Sl.xw_then ?_
  refine Go.Sl.cw_seq ?_
  refine Go.Sl.cw_dec rfl (fun hc27 => ?_) (fun hc27 => ?_)
  refine Go.Sl.cw_skip ?_
  refine Go.Sl.xw_then ?_
  refine Go.Sl.cw_seq ?_
  refine Go.Sl.cw_block ?_
  refine Go.Sl.cw_seq ?_
  refine Go.Sl.cw_region ?_
  refine Go.Sl.ow_val rfl rfl (Go.Sl.v_move rfl) ?_
  refine Go.Sl.ow_val rfl rfl (Go.Sl.v_assign rfl) ?_
  refine Go.Sl.ow_nil ?_
  refine Go.Sl.xw_then ?_
  refine Go.Sl.cw_seq ?_
  refine Go.Sl.cw_region ?_
  refine Go.Sl.ow_val rfl rfl (Go.Sl.v_move rfl) ?_
  refine Go.Sl.ow_val rfl rfl (Go.Sl.v_len rfl Try.underlying57 rfl) ?_
  refine Go.Sl.ow_val rfl rfl (Go.Sl.v_convert Try.underlying3 Try.underlying23 rfl (Go.Sl.nw_u64 (by omega) (by omega))) ?_
  refine Go.Sl.ow_val rfl rfl (Go.Sl.v_assign rfl) ?_
  refine Go.Sl.ow_val rfl rfl (Go.Sl.v_assign rfl) ?_
  refine Go.Sl.ow_nil ?_
  refine Go.Sl.xw_then ?_
  rotate_left
  refine Go.Sl.cw_exit ?_
  refine Go.Sl.xw_then_exit ?_
  refine Go.Sl.xw_round_exit ?_
  refine Go.Sl.xw_block_exit ?_
  refine Go.Sl.xw_then ?_
  rotate_left
  · refine Go.Sl.cw_cut2 (ι := (Int)) [(0, _), (1, _), (2, _), (7, _), (8, _), (9, _), (10, _), (12, _), (15, _), (26, _), (29, _)] ⟨rfl, rfl, rfl, rfl, rfl, rfl, rfl, rfl, rfl, rfl, rfl, trivial⟩ ((fun k => [(11, .int .i64 k)])) ((fun k => 0 ≤ k ∧ k < 30 ∧ (50 ≤ i → k = 7))) ((fun _ => c :: F)) ?_ ?_
    · refine Go.Sl.cw_seq ?_
      refine Go.Sl.cw_region ?_
      refine Go.Sl.ow_val rfl rfl (Go.Sl.v_move rfl) ?_
      refine Go.Sl.ow_val rfl rfl (Go.Sl.v_move rfl) ?_
      refine Go.Sl.ow_val rfl rfl (Go.Sl.v_len rfl Try.underlying57 rfl) ?_
      refine Go.Sl.ow_val rfl rfl (Go.Sl.v_lss rfl rfl) ?_
      refine Go.Sl.ow_val rfl rfl (Go.Sl.v_move rfl) ?_
      refine Go.Sl.ow_dec 36 rfl (fun hc36 => ?_) (fun hc36 => ?_)
      refine Go.Sl.ow_val rfl rfl (Go.Sl.v_move rfl) ?_
      refine Go.Sl.ow_val rfl rfl (Go.Sl.v_lss rfl rfl) ?_
      refine Go.Sl.ow_val rfl rfl (Go.Sl.v_pick_true rfl rfl) ?_
      refine Go.Sl.ow_nil ?_
      refine Go.Sl.xw_then ?_
      refine Go.Sl.cw_dec rfl (fun hc39 => ?_) (fun hc39 => ?_)
      refine Go.Sl.cw_region ?_
      refine Go.Sl.ow_val rfl rfl (Go.Sl.v_move rfl) ?_
      refine Go.Sl.ow_val rfl rfl (Go.Sl.v_move rfl) ?_
      rotate_left
      refine Go.Sl.cw_skip ?_
      rotate_left
      refine Go.Sl.ow_skip rfl rfl ?_
      refine Go.Sl.ow_skip rfl rfl ?_
      refine Go.Sl.ow_val rfl rfl (Go.Sl.v_pick_false rfl rfl) ?_
      refine Go.Sl.ow_nil ?_
      refine Go.Sl.xw_then ?_
      refine Go.Sl.cw_false rfl ?_
      refine Go.Sl.cw_skip ?_
      rotate_left
      · have hi2 : i < ms.length := by omega
        have hb := (ms[i]).toNat_lt
        have hm := tmodB (k := ((ms[i]).toNat : Int)) (n := 30) (by omega) (by decide)
        refine Go.Sl.ow_val rfl rfl (Go.Sl.v_indexAddr_vw Try.underlying57 (u8Ty) rfl rfl (hM []) rfl (by omega)) ?_
        refine Go.Sl.ow_val rfl rfl (Go.Sl.v_load rfl (Go.Sl.Vw.var (u8Ty) (hM _) (by omega))) ?_
        refine Go.Sl.ow_val rfl rfl (Go.Sl.v_rem rfl rfl (by decide)) ?_
        refine Go.Sl.ow_val rfl rfl (Go.Sl.v_convert Try.underlying5 Try.underlying3 rfl (Go.Sl.nw_i64 (by omega) (by omega))) ?_
        refine Go.Sl.ow_val rfl rfl (Go.Sl.v_assign rfl) ?_
        refine Go.Sl.ow_nil ?_
        exact xw_joint _ ⟨hm.1, hm.2, fun h => by omega⟩ (by first | exact Go.Sl.Cov.refl _ | (intro p; simp only [List.flatten_cons, List.flatten_nil, List.flatten_append, List.append_nil, List.nil_append, Go.Sl.cnt_append, Go.Sl.cnt_cons, Go.Sl.cnt_nil, List.set_cons_zero, List.set_cons_succ, List.length_nil, List.length_cons, Nat.zero_add, List.append]; omega)) (by repeat (first | exact True.intro | refine And.intro rfl ?_))
      · exact xw_joint 7 ⟨by omega, by omega, fun _ => rfl⟩ (by first | exact Go.Sl.Cov.refl _ | (intro p; simp only [List.flatten_cons, List.flatten_nil, List.flatten_append, List.append_nil, List.nil_append, Go.Sl.cnt_append, Go.Sl.cnt_cons, Go.Sl.cnt_nil, List.set_cons_zero, List.set_cons_succ, List.length_nil, List.length_cons, Nat.zero_add, List.append]; omega)) (by repeat (first | exact True.intro | refine And.intro rfl ?_))
      · exact xw_joint 7 ⟨by omega, by omega, fun _ => rfl⟩ (by first | exact Go.Sl.Cov.refl _ | (intro p; simp only [List.flatten_cons, List.flatten_nil, List.flatten_append, List.append_nil, List.nil_append, Go.Sl.cnt_append, Go.Sl.cnt_cons, Go.Sl.cnt_nil, List.set_cons_zero, List.set_cons_succ, List.length_nil, List.length_cons, Nat.zero_add, List.append]; omega)) (by repeat (first | exact True.intro | refine And.intro rfl ?_))
    rintro k ⟨hk1, hk2, hk3⟩
    refine Go.Sl.cw_cut2 (ι := (Int)) [(0, _), (1, _), (2, _), (7, _), (8, _), (9, _), (10, _), (11, _), (15, _), (26, _), (29, _)] ⟨rfl, rfl, rfl, rfl, rfl, rfl, rfl, rfl, rfl, rfl, rfl, trivial⟩ ((fun lim => [(12, .int .u64 lim)])) ((fun lim => 0 ≤ lim ∧ lim ≤ 300 ∧ (50 ≤ i → lim = t.length))) ((fun _ => c :: F)) ?_ ?_
    · refine Go.Sl.cw_seq ?_
      refine Go.Sl.cw_region ?_
      refine Go.Sl.ow_val rfl rfl (Go.Sl.v_move rfl) ?_
      refine Go.Sl.ow_val rfl rfl (Go.Sl.v_move rfl) ?_
      refine Go.Sl.ow_val rfl rfl (Go.Sl.v_len rfl Try.underlying57 rfl) ?_
      refine Go.Sl.ow_val rfl rfl (Go.Sl.v_lss rfl rfl) ?_
      refine Go.Sl.ow_val rfl rfl (Go.Sl.v_move rfl) ?_
      refine Go.Sl.ow_dec 50 rfl (fun hc50 => ?_) (fun hc50 => ?_)
      refine Go.Sl.ow_val rfl rfl (Go.Sl.v_move rfl) ?_
      refine Go.Sl.ow_val rfl rfl (Go.Sl.v_lss rfl rfl) ?_
      refine Go.Sl.ow_val rfl rfl (Go.Sl.v_pick_true rfl rfl) ?_
      refine Go.Sl.ow_nil ?_
      refine Go.Sl.xw_then ?_
      refine Go.Sl.cw_dec rfl (fun hc53 => ?_) (fun hc53 => ?_)
      refine Go.Sl.cw_region ?_
      refine Go.Sl.ow_val rfl rfl (Go.Sl.v_move rfl) ?_
      refine Go.Sl.ow_val rfl rfl (Go.Sl.v_move rfl) ?_
      rotate_left
      refine Go.Sl.cw_skip ?_
      rotate_left
      refine Go.Sl.ow_skip rfl rfl ?_
      refine Go.Sl.ow_skip rfl rfl ?_
      refine Go.Sl.ow_val rfl rfl (Go.Sl.v_pick_false rfl rfl) ?_
      refine Go.Sl.ow_nil ?_
      refine Go.Sl.xw_then ?_
      refine Go.Sl.cw_false rfl ?_
      refine Go.Sl.cw_skip ?_
      rotate_left
      · have hi2 : i < ls.length := by omega
        have hb := (ls[i]).toNat_lt
        refine Go.Sl.ow_val rfl rfl (Go.Sl.v_indexAddr_vw Try.underlying57 (u8Ty) rfl rfl (hL []) rfl (by omega)) ?_
        refine Go.Sl.ow_val rfl rfl (Go.Sl.v_load rfl (Go.Sl.Vw.var (u8Ty) (hL _) (by omega))) ?_
        refine Go.Sl.ow_val rfl rfl (Go.Sl.v_convert Try.underlying5 Try.underlying23 rfl (Go.Sl.nw_u64 (by omega) (by omega))) ?_
        refine Go.Sl.ow_val rfl rfl (Go.Sl.v_assign rfl) ?_
        refine Go.Sl.ow_nil ?_
        exact xw_joint ((ls[i].toNat : Nat) : Int) ⟨by omega, by omega, fun h => by omega⟩ (by first | exact Go.Sl.Cov.refl _ | (intro p; simp only [List.flatten_cons, List.flatten_nil, List.flatten_append, List.append_nil, List.nil_append, Go.Sl.cnt_append, Go.Sl.cnt_cons, Go.Sl.cnt_nil, List.set_cons_zero, List.set_cons_succ, List.length_nil, List.length_cons, Nat.zero_add, List.append]; omega)) (by repeat (first | exact True.intro | refine And.intro rfl ?_))
      · exact xw_joint (t.length : Int) ⟨by omega, by omega, fun _ => rfl⟩ (by first | exact Go.Sl.Cov.refl _ | (intro p; simp only [List.flatten_cons, List.flatten_nil, List.flatten_append, List.append_nil, List.nil_append, Go.Sl.cnt_append, Go.Sl.cnt_cons, Go.Sl.cnt_nil, List.set_cons_zero, List.set_cons_succ, List.length_nil, List.length_cons, Nat.zero_add, List.append]; omega)) (by repeat (first | exact True.intro | refine And.intro rfl ?_))
      · exact xw_joint (t.length : Int) ⟨by omega, by omega, fun _ => rfl⟩ (by first | exact Go.Sl.Cov.refl _ | (intro p; simp only [List.flatten_cons, List.flatten_nil, List.flatten_append, List.append_nil, List.nil_append, Go.Sl.cnt_append, Go.Sl.cnt_cons, Go.Sl.cnt_nil, List.set_cons_zero, List.set_cons_succ, List.length_nil, List.length_cons, Nat.zero_add, List.append]; omega)) (by repeat (first | exact True.intro | refine And.intro rfl ?_))
    rintro lim ⟨hl1, hl2, hl3⟩
    rcases mO_next (k := k) hat he1 he2 hl1 with ⟨hN, hcase⟩ | ⟨n, hN, hef, hn1, hn2, hn3, hn4⟩
    · have hnx : ∀ {G : List Hp}, Go.Sl.Sub c G → Go.Sl.Fn Try.prog 39 #[.pointer (some ⟨x20.1, 0, none⟩), .int .i64 k, .int .u64 lim] B w0 G fun u G' => ∃ x : Option Addr × Nat × Hp, u = .tuple #[enP.val ⟨0, x.1, 0, x.2.1, false⟩, .bool false] ∧ Ls enB 5 (.slice x.1 0 x.2.1) x.2.2 [] ∧ G' = [x.2.2] ++ G := fun hs => by
        have h := outNext_c (B := B) (w0 := w0) hO hs hw (most := k) (limit := lim) (by omega) (by omega)
        rw [hN] at h
        exact h
      refine Go.Sl.cw_seq ?_
      refine Go.Sl.cw_region ?_
      refine Go.Sl.ow_val rfl rfl (Go.Sl.v_move rfl) ?_
      refine Go.Sl.ow_val rfl rfl (Go.Sl.v_move rfl) ?_
      refine Go.Sl.ow_val rfl rfl (Go.Sl.v_move rfl) ?_
      (refine Go.Sl.ow_call rfl rfl rfl rfl (hnx (by repeat (first | exact Go.Sl.Sub.here | assumption | refine Go.Sl.Sub.there ?_))) ?_; rintro _ _ ⟨x63, rfl, hq63, rfl⟩)
      refine Go.Sl.ow_val rfl rfl (Go.Sl.v_move rfl) ?_
      refine Go.Sl.ow_val rfl rfl (Go.Sl.v_extract rfl rfl) ?_
      refine Go.Sl.ow_val rfl rfl (Go.Sl.v_extract rfl rfl) ?_
      (refine Go.Sl.ow_alloc rfl rfl Ty.ze64 ?_; intro b13)
      refine Go.Sl.ow_storeE rfl (pTy) rfl rfl .here (by first | rfl | assumption) (okP _) ?_
      refine Go.Sl.ow_val rfl rfl (Go.Sl.v_assign rfl) ?_
      refine Go.Sl.ow_nil ?_
      refine Go.Sl.xw_then ?_
      refine Go.Sl.cw_seq ?_
      refine Go.Sl.cw_seq ?_
      refine Go.Sl.cw_region ?_
      refine Go.Sl.ow_val rfl rfl (Go.Sl.v_move rfl) ?_
      refine Go.Sl.ow_val rfl rfl (Go.Sl.v_not_false rfl) ?_
      refine Go.Sl.ow_nil ?_
      refine Go.Sl.xw_then ?_
      refine Go.Sl.cw_true rfl ?_
      refine Go.Sl.cw_seq ?_
      refine Go.Sl.cw_seq ?_
      refine Go.Sl.cw_region ?_
      refine Go.Sl.ow_val rfl rfl (Go.Sl.v_move rfl) ?_
      refine Go.Sl.ow_val rfl rfl (Go.Sl.v_geq rfl rfl) ?_
      refine Go.Sl.ow_nil ?_
      refine Go.Sl.xw_then ?_
      refine Go.Sl.cw_dec rfl (fun hc69 => ?_) (fun hc69 => ?_)
      refine Go.Sl.cw_exit ?_
      refine Go.Sl.xw_then_exit ?_
      refine Go.Sl.xw_then_exit ?_
      refine Go.Sl.xw_block_other rfl ?_
      refine Go.Sl.xw_then_exit ?_
      refine Go.Sl.xw_round_exit ?_
      refine Go.Sl.xw_block_exit ?_
      refine Go.Sl.xw_then ?_
      rotate_left
      refine Go.Sl.cw_skip ?_
      refine Go.Sl.xw_then ?_
      refine Go.Sl.cw_exit ?_
      refine Go.Sl.xw_then_exit ?_
      refine Go.Sl.xw_block_exit ?_
      refine Go.Sl.xw_then ?_
      refine Go.Sl.cw_region ?_
      refine Go.Sl.ow_val rfl rfl (Go.Sl.v_add rfl rfl (Go.Sl.nw_i64 (by omega) (by omega))) ?_
      refine Go.Sl.ow_val rfl rfl (Go.Sl.v_move rfl) ?_
      refine Go.Sl.ow_nil ?_
      rotate_left
      · have hend : e = true ∧ at_ = t.length := by
          rcases hcase with h | h | h
          · have := hk3 (by omega); omega
          · exact ⟨h, he1 h⟩
          · have := hl3 (by omega); omega
        obtain ⟨rfl, hat2⟩ := hend
        refine Go.Sl.cw_seq ?_
        refine Go.Sl.cw_region ?_
        refine Go.Sl.ow_val rfl rfl (Go.Sl.v_move rfl) ?_
        refine Go.Sl.ow_val rfl rfl (Go.Sl.v_move rfl) ?_
        refine Go.Sl.ow_val rfl rfl (Go.Sl.v_len rfl Try.underlying57 rfl) ?_
        refine Go.Sl.ow_val rfl rfl (Go.Sl.v_eql rfl rfl) ?_
        refine Go.Sl.ow_val rfl rfl (Go.Sl.v_move rfl) ?_
        refine Go.Sl.ow_dec 142 rfl (fun hc142 => ?_) (fun hc142 => ?_)
        rotate_left; (exfalso; omega); rotate_right
        refine Go.Sl.ow_val rfl rfl (Go.Sl.v_move rfl) ?_
        refine Go.Sl.ow_val rfl rfl (Go.Sl.v_pick_true rfl rfl) ?_
        refine Go.Sl.ow_val rfl rfl (Go.Sl.v_move rfl) ?_
        refine Go.Sl.ow_val rfl rfl (Go.Sl.v_move rfl) ?_
        refine Go.Sl.ow_val rfl rfl (Go.Sl.v_call rfl rfl (outWaits_c hO (by repeat (first | exact Go.Sl.Sub.here | assumption | refine Go.Sl.Sub.there ?_)) hw)) ?_
        refine Go.Sl.ow_val rfl rfl (Go.Sl.v_not rfl) ?_
        refine Go.Sl.ow_val rfl rfl (Go.Sl.v_pick_true rfl rfl) ?_
        refine Go.Sl.ow_val rfl rfl (Go.Sl.v_move rfl) ?_
        refine Go.Sl.ow_dec 150 rfl (fun hc150 => ?_) (fun hc150 => ?_)
        refine Go.Sl.ow_val rfl rfl (Go.Sl.v_move rfl) ?_
        refine Go.Sl.ow_val rfl rfl (Go.Sl.v_call rfl rfl (outDone_c hO (by repeat (first | exact Go.Sl.Sub.here | assumption | refine Go.Sl.Sub.there ?_)) hw)) ?_
        refine Go.Sl.ow_val rfl rfl (Go.Sl.v_not_false rfl) ?_
        refine Go.Sl.ow_val rfl rfl (Go.Sl.v_pick_true rfl rfl) ?_
        refine Go.Sl.ow_val rfl rfl (Go.Sl.v_assign rfl) ?_
        refine Go.Sl.ow_nil ?_
        refine Go.Sl.xw_then ?_
        refine Go.Sl.cw_ret ?_
        refine Go.Sl.ret1 rfl (Go.Sl.res_tmp rfl) ?_
        rotate_left
        refine Go.Sl.ow_skip rfl rfl ?_
        refine Go.Sl.ow_skip rfl rfl ?_
        refine Go.Sl.ow_skip rfl rfl ?_
        refine Go.Sl.ow_val rfl rfl (Go.Sl.v_pick_false rfl rfl) ?_
        refine Go.Sl.ow_val rfl rfl (Go.Sl.v_assign rfl) ?_
        refine Go.Sl.ow_nil ?_
        refine Go.Sl.xw_then ?_
        refine Go.Sl.cw_ret ?_
        refine Go.Sl.ret1 rfl (Go.Sl.res_tmp rfl) ?_
        rotate_left
        · exact done0 rfl (by first | exact Go.Sl.Cov.refl _ | (intro p; simp only [List.flatten_cons, List.flatten_nil, List.flatten_append, List.append_nil, List.nil_append, Go.Sl.cnt_append, Go.Sl.cnt_cons, Go.Sl.cnt_nil, List.set_cons_zero, List.set_cons_succ, List.length_nil, List.length_cons, Nat.zero_add, List.append]; omega))
        · (exfalso; rw [hpl, if_neg (by omega)] at hc150; exact hc150 (by decide))
      · exact xw_round (⟨i + 1, at_, e, c⟩ : Ix) ⟨by dsimp only; omega, hat, he1, he2, by dsimp only; omega, hO⟩ (by dsimp only; omega) (by first | exact Go.Sl.Cov.refl _ | (intro p; simp only [List.flatten_cons, List.flatten_nil, List.flatten_append, List.append_nil, List.nil_append, Go.Sl.cnt_append, Go.Sl.cnt_cons, Go.Sl.cnt_nil, List.set_cons_zero, List.set_cons_succ, List.length_nil, List.length_cons, Nat.zero_add, List.append]; omega)) (by repeat (first | exact True.intro | refine And.intro rfl ?_))
    · subst hef
      have hdl : ((t.take (at_ + n)).drop at_).length = n := by rw [List.length_drop, List.length_take]; omega
      have hnx : ∀ {G : List Hp}, Go.Sl.Sub c G → Go.Sl.Fn Try.prog 39 #[.pointer (some ⟨x20.1, 0, none⟩), .int .i64 k, .int .u64 lim] B w0 G fun u G' => ∃ x : PartV × Hp, u = .tuple #[enP.val x.1, .bool true] ∧ (x.1.at_ = at_ ∧ x.1.n = n ∧ x.1.fin = decide (at_ + n = t.length) ∧ Ls enB 5 (.slice x.1.ao x.1.n x.1.cap) x.2 ((t.take (at_ + n)).drop at_)) ∧ G' = [x.2] ++ G := fun hs => by
        have h := outNext_c (B := B) (w0 := w0) hO hs hw (most := k) (limit := lim) (by omega) (by omega)
        rw [hN] at h
        dsimp only at h
        rw [hdl] at h
        refine h.mono ?_
        rintro u G' ⟨x, rfl, hx, rfl⟩
        exact ⟨(⟨at_, x.1, n, x.2.1, decide (at_ + n = t.length)⟩, x.2.2), rfl, ⟨rfl, rfl, rfl, hx⟩, rfl⟩
      have hsn : ∀ {G : List Hp} {R : Hp → List Hp} {p : PartV}, Sel G c R → p.at_ = at_ → p.n = n → p.fin = decide (at_ + n = t.length) → Go.Sl.Fn Try.prog 40 #[.pointer (some ⟨x20.1, 0, none⟩), enP.val p] B w0 G fun u G' => ∃ c' : Hp, u = .tuple #[] ∧ OutAt (mO t (at_ + n : Nat) (decide (at_ + n = t.length))) x20.1 c' ∧ G' = R c' := fun {G R p} hs h1 h2 h3 => by
        have h := outSent_c (B := B) (w0 := w0) (p := p) hs hO hw (by omega) (by omega)
        rw [h1, h2, h3, mO_sent hn1 ht] at h
        exact h
      refine Go.Sl.cw_seq ?_
      refine Go.Sl.cw_region ?_
      refine Go.Sl.ow_val rfl rfl (Go.Sl.v_move rfl) ?_
      refine Go.Sl.ow_val rfl rfl (Go.Sl.v_move rfl) ?_
      refine Go.Sl.ow_val rfl rfl (Go.Sl.v_move rfl) ?_
      (refine Go.Sl.ow_call rfl rfl rfl rfl (hnx (by repeat (first | exact Go.Sl.Sub.here | assumption | refine Go.Sl.Sub.there ?_))) ?_; rintro _ _ ⟨x63, rfl, hq63, rfl⟩)
      refine Go.Sl.ow_val rfl rfl (Go.Sl.v_move rfl) ?_
      refine Go.Sl.ow_val rfl rfl (Go.Sl.v_extract rfl rfl) ?_
      refine Go.Sl.ow_val rfl rfl (Go.Sl.v_extract rfl rfl) ?_
      (refine Go.Sl.ow_alloc rfl rfl Ty.ze64 ?_; intro b13)
      refine Go.Sl.ow_storeE rfl (pTy) rfl rfl .here (by first | rfl | assumption) (okP _) ?_
      refine Go.Sl.ow_val rfl rfl (Go.Sl.v_assign rfl) ?_
      refine Go.Sl.ow_nil ?_
      refine Go.Sl.xw_then ?_
      refine Go.Sl.cw_seq ?_
      refine Go.Sl.cw_seq ?_
      refine Go.Sl.cw_region ?_
      refine Go.Sl.ow_val rfl rfl (Go.Sl.v_move rfl) ?_
      refine Go.Sl.ow_val rfl rfl (Go.Sl.v_not_true rfl) ?_
      refine Go.Sl.ow_nil ?_
      refine Go.Sl.xw_then ?_
      refine Go.Sl.cw_false rfl ?_
      refine Go.Sl.cw_skip ?_
      refine Go.Sl.xw_then ?_
      obtain ⟨hp1, hp2, hp3, hp4⟩ := hq63
      obtain ⟨ao9, cap9, he9, hct⟩ := (hT []).view
      injection he9 with _ _ he9
      subst he9
      have hm : ((at_ : Int) + (x63.1.n : Int)).toNat = at_ + n := by omega
      refine Go.Sl.cw_seq ?_
      refine Go.Sl.cw_seq ?_
      refine Go.Sl.cw_quiet Ty.mixed (by decide +kernel) ?_
      refine Go.Sl.kw_val rfl rfl (Go.Sl.v_move rfl) ?_
      refine Go.Sl.kw_val rfl rfl (Go.Sl.v_move rfl) ?_
      refine Go.Sl.kw_val rfl rfl (Go.Sl.v_fieldAddr0 Ty.fd64_0 rfl) ?_
      refine Go.Sl.kw_val rfl rfl (Go.Sl.v_load rfl (Go.Sl.Var.at1 Ty.sc23 .here (Go.Sl.GetN.lit rfl))) ?_
      refine Go.Sl.kw_val rfl rfl (Go.Sl.v_move rfl) ?_
      refine Go.Sl.kw_val rfl rfl (Go.Sl.v_convert Try.underlying3 Try.underlying23 rfl (Go.Sl.nw_u64 (by omega) (by omega))) ?_
      refine Go.Sl.kw_val rfl rfl (Go.Sl.v_neq rfl rfl) ?_
      refine Go.Sl.kw_val rfl rfl (Go.Sl.v_pick_false rfl rfl) ?_
      refine Go.Sl.kw_val rfl rfl (Go.Sl.v_move rfl) ?_
      refine Go.Sl.kw_dec 78 rfl (fun hc78 => ?_) (fun hc78 => ?_)
      (exfalso; omega)
      refine Go.Sl.kw_val rfl rfl (Go.Sl.v_fieldAddr0 Ty.fd64_1 rfl) ?_
      refine Go.Sl.kw_val rfl rfl (Go.Sl.v_load rfl (Go.Sl.Var.at1 Ty.sc57 .here (Go.Sl.GetN.lit rfl))) ?_
      refine Go.Sl.kw_val rfl rfl (Go.Sl.v_len rfl Try.underlying57 rfl) ?_
      refine Go.Sl.kw_val rfl rfl (Go.Sl.v_move rfl) ?_
      refine Go.Sl.kw_val rfl rfl (Go.Sl.v_gtr rfl rfl) ?_
      refine Go.Sl.kw_val rfl rfl (Go.Sl.v_pick_false rfl rfl) ?_
      refine Go.Sl.kw_val rfl rfl (Go.Sl.v_move rfl) ?_
      refine Go.Sl.kw_dec 85 rfl (fun hc85 => ?_) (fun hc85 => ?_)
      (exfalso; omega)
      refine Go.Sl.kw_val rfl rfl (Go.Sl.v_fieldAddr0 Ty.fd64_0 rfl) ?_
      refine Go.Sl.kw_val rfl rfl (Go.Sl.v_load rfl (Go.Sl.Var.at1 Ty.sc23 .here (Go.Sl.GetN.lit rfl))) ?_
      refine Go.Sl.kw_val rfl rfl (Go.Sl.v_fieldAddr0 Ty.fd64_1 rfl) ?_
      refine Go.Sl.kw_val rfl rfl (Go.Sl.v_load rfl (Go.Sl.Var.at1 Ty.sc57 .here (Go.Sl.GetN.lit rfl))) ?_
      refine Go.Sl.kw_val rfl rfl (Go.Sl.v_len rfl Try.underlying57 rfl) ?_
      refine Go.Sl.kw_val rfl rfl (Go.Sl.v_convert Try.underlying3 Try.underlying23 rfl (Go.Sl.nw_u64 (by omega) (by omega))) ?_
      refine Go.Sl.kw_val rfl rfl (Go.Sl.v_add rfl rfl (Go.Sl.nw_u64 (by omega) (by omega))) ?_
      refine Go.Sl.kw_val rfl rfl (Go.Sl.v_move rfl) ?_
      refine Go.Sl.kw_val rfl rfl (Go.Sl.v_move rfl) ?_
      refine Go.Sl.kw_val rfl rfl (Go.Sl.v_convert Try.underlying3 Try.underlying23 rfl (Go.Sl.nw_u64 (by omega) (by omega))) ?_
      refine Go.Sl.kw_val rfl rfl (Go.Sl.v_max rfl rfl) ?_
      refine Go.Sl.kw_val rfl rfl (Go.Sl.v_gtr rfl rfl) ?_
      refine Go.Sl.kw_val rfl rfl (Go.Sl.v_pick_false rfl rfl) ?_
      refine Go.Sl.kw_val rfl rfl (Go.Sl.v_move rfl) ?_
      refine Go.Sl.kw_dec 99 rfl (fun hc99 => ?_) (fun hc99 => ?_)
      (exfalso; omega)
      refine Go.Sl.kw_val rfl rfl (Go.Sl.v_fieldAddr0 Ty.fd64_1 rfl) ?_
      refine Go.Sl.kw_val rfl rfl (Go.Sl.v_load rfl (Go.Sl.Var.at1 Ty.sc57 .here (Go.Sl.GetN.lit rfl))) ?_
      refine Go.Sl.kw_val rfl rfl (Go.Sl.v_str Try.underlying9 Try.underlying57 Try.underlying5 rfl ((Ls.vw hp4 (by repeat (first | exact Go.Sl.Sub.here | assumption | refine Go.Sl.Sub.there ?_))))) ?_
      refine Go.Sl.kw_val rfl rfl (Go.Sl.v_move rfl) ?_
      refine Go.Sl.kw_val rfl rfl (Go.Sl.v_move rfl) ?_
      refine Go.Sl.kw_val rfl rfl (Go.Sl.v_move rfl) ?_
      refine Go.Sl.kw_val rfl rfl (Go.Sl.v_fieldAddr0 Ty.fd64_1 rfl) ?_
      refine Go.Sl.kw_val rfl rfl (Go.Sl.v_load rfl (Go.Sl.Var.at1 Ty.sc57 .here (Go.Sl.GetN.lit rfl))) ?_
      refine Go.Sl.kw_val rfl rfl (Go.Sl.v_len rfl Try.underlying57 rfl) ?_
      refine Go.Sl.kw_val rfl rfl (Go.Sl.v_add rfl rfl (Go.Sl.nw_i64 (by omega) (by omega))) ?_
      refine Go.Sl.kw_val rfl rfl (Go.Sl.v_slice_lh Try.underlying57 Ty.el57 rfl rfl rfl rfl rfl (by omega) (by omega)) ?_
      refine Go.Sl.kw_val rfl rfl (Go.Sl.v_str Try.underlying9 Try.underlying57 Try.underlying5 rfl (Vw.sub2 u8Ty (Vw.sub1 u8Ty (hT _) (m := ((at_ : Int) + (x63.1.n : Int)).toNat) (by omega)) (m := at_) (by rw [List.length_take]; omega))) ?_
      refine Go.Sl.kw_val rfl rfl (Go.Sl.v_neqS rfl rfl) ?_
      refine Go.Sl.kw_val rfl rfl (Go.Sl.v_pick_false rfl rfl) ?_
      refine Go.Sl.kw_val rfl rfl (Go.Sl.v_move rfl) ?_
      refine Go.Sl.kw_dec 114 rfl (fun hc114 => ?_) (fun hc114 => ?_)
      refine Go.Sl.kw_skip rfl rfl ?_
      refine Go.Sl.kw_skip rfl rfl ?_
      refine Go.Sl.kw_skip rfl rfl ?_
      refine Go.Sl.kw_skip rfl rfl ?_
      refine Go.Sl.kw_skip rfl rfl ?_
      refine Go.Sl.kw_skip rfl rfl ?_
      refine Go.Sl.kw_skip rfl rfl ?_
      refine Go.Sl.kw_skip rfl rfl ?_
      refine Go.Sl.kw_skip rfl rfl ?_
      refine Go.Sl.kw_skip rfl rfl ?_
      refine Go.Sl.kw_skip rfl rfl ?_
      refine Go.Sl.kw_val rfl rfl (Go.Sl.v_pick_true rfl rfl) ?_
      refine Go.Sl.kw_nil ?_
      refine Go.Sl.xw_then ?_
      refine Go.Sl.cw_true rfl ?_
      refine Go.Sl.cw_seq ?_
      refine Go.Sl.cw_region ?_
      refine Go.Sl.ow_val rfl rfl (Go.Sl.v_assign rfl) ?_
      refine Go.Sl.ow_nil ?_
      refine Go.Sl.xw_then ?_
      refine Go.Sl.cw_ret ?_
      refine Go.Sl.xw_then_ret ?_
      refine Go.Sl.xw_block_ret ?_
      refine Go.Sl.xw_then_ret ?_
      refine Go.Sl.xw_round_ret ?_
      refine Go.Sl.xw_block_ret ?_
      refine Go.Sl.xw_then_ret ?_
      refine Go.Sl.ret1 rfl (Go.Sl.res_tmp rfl) ?_
      rotate_left
      refine Go.Sl.kw_val rfl rfl (Go.Sl.v_fieldAddr0 Ty.fd64_2 rfl) ?_
      refine Go.Sl.kw_val rfl rfl (Go.Sl.v_load rfl (Go.Sl.Var.at1 Ty.sc4 .here (Go.Sl.GetN.lit rfl))) ?_
      refine Go.Sl.kw_val rfl rfl (Go.Sl.v_move rfl) ?_
      refine Go.Sl.kw_val rfl rfl (Go.Sl.v_fieldAddr0 Ty.fd64_1 rfl) ?_
      refine Go.Sl.kw_val rfl rfl (Go.Sl.v_load rfl (Go.Sl.Var.at1 Ty.sc57 .here (Go.Sl.GetN.lit rfl))) ?_
      refine Go.Sl.kw_val rfl rfl (Go.Sl.v_len rfl Try.underlying57 rfl) ?_
      refine Go.Sl.kw_val rfl rfl (Go.Sl.v_add rfl rfl (Go.Sl.nw_i64 (by omega) (by omega))) ?_
      refine Go.Sl.kw_val rfl rfl (Go.Sl.v_move rfl) ?_
      refine Go.Sl.kw_val rfl rfl (Go.Sl.v_len rfl Try.underlying57 rfl) ?_
      refine Go.Sl.kw_val rfl rfl (Go.Sl.v_eql rfl rfl) ?_
      refine Go.Sl.kw_val rfl rfl (Go.Sl.v_neqB Try.underlying4 rfl rfl) ?_
      refine Go.Sl.kw_val rfl rfl (Go.Sl.v_pick_false rfl rfl) ?_
      refine Go.Sl.kw_nil ?_
      refine Go.Sl.xw_then ?_
      refine Go.Sl.cw_dec rfl (fun hc126 => ?_) (fun hc126 => ?_)
      refine Go.Sl.cw_seq ?_
      refine Go.Sl.cw_region ?_
      refine Go.Sl.ow_val rfl rfl (Go.Sl.v_assign rfl) ?_
      refine Go.Sl.ow_nil ?_
      refine Go.Sl.xw_then ?_
      refine Go.Sl.cw_ret ?_
      refine Go.Sl.xw_then_ret ?_
      refine Go.Sl.xw_block_ret ?_
      refine Go.Sl.xw_then_ret ?_
      refine Go.Sl.xw_round_ret ?_
      refine Go.Sl.xw_block_ret ?_
      refine Go.Sl.xw_then_ret ?_
      refine Go.Sl.ret1 rfl (Go.Sl.res_tmp rfl) ?_
      rotate_left
      refine Go.Sl.cw_skip ?_
      refine Go.Sl.xw_then ?_
      rotate_left
      · exact absurd (by rw [hm]) hc114
      · exact absurd (hp3.trans (decide_eq_decide.2 (by omega))) hc126
      · refine Go.Sl.cw_seq ?_
        refine Go.Sl.cw_region ?_
        refine Go.Sl.ow_val rfl rfl (Go.Sl.v_move rfl) ?_
        refine Go.Sl.ow_val rfl rfl (Go.Sl.v_load rfl (Go.Sl.Var.atN Ty.ag64 .here Go.Sl.GetN.all (by first | rfl | assumption))) ?_
        (refine Go.Sl.ow_call rfl rfl rfl rfl (hsn (by repeat (first | exact Go.Sl.Sel.here | apply Go.Sl.Sel.there)) hp1 hp2 hp3) ?_; rintro _ _ ⟨x129, rfl, hq129, rfl⟩)
        refine Go.Sl.ow_nil ?_
        refine Go.Sl.xw_then ?_
        refine Go.Sl.cw_seq ?_
        refine Go.Sl.cw_region ?_
        refine Go.Sl.ow_val rfl rfl (Go.Sl.v_move rfl) ?_
        refine Go.Sl.ow_val rfl rfl (Go.Sl.v_fieldAddr0 Ty.fd64_1 rfl) ?_
        refine Go.Sl.ow_val rfl rfl (Go.Sl.v_load rfl (Go.Sl.Var.at1 Ty.sc57 .here (Go.Sl.GetN.lit rfl))) ?_
        refine Go.Sl.ow_val rfl rfl (Go.Sl.v_len rfl Try.underlying57 rfl) ?_
        refine Go.Sl.ow_val rfl rfl (Go.Sl.v_add rfl rfl (Go.Sl.nw_i64 (by omega) (by omega))) ?_
        refine Go.Sl.ow_val rfl rfl (Go.Sl.v_assign rfl) ?_
        refine Go.Sl.ow_nil ?_
        refine Go.Sl.xw_then ?_
        refine Go.Sl.cw_region ?_
        refine Go.Sl.ow_val rfl rfl (Go.Sl.v_fieldAddr0 Ty.fd64_2 rfl) ?_
        refine Go.Sl.ow_val rfl rfl (Go.Sl.v_load rfl (Go.Sl.Var.at1 Ty.sc4 .here (Go.Sl.GetN.lit rfl))) ?_
        refine Go.Sl.ow_val rfl rfl (Go.Sl.v_assign rfl) ?_
        refine Go.Sl.ow_nil ?_
        refine Go.Sl.xw_block ?_
        refine Go.Sl.xw_then ?_
        refine Go.Sl.cw_region ?_
        refine Go.Sl.ow_val rfl rfl (Go.Sl.v_add rfl rfl (Go.Sl.nw_i64 (by omega) (by omega))) ?_
        refine Go.Sl.ow_val rfl rfl (Go.Sl.v_move rfl) ?_
        refine Go.Sl.ow_nil ?_
        refine xw_round (⟨i + 1, at_ + n, decide (at_ + n = t.length), x129⟩ : Ix) ⟨by dsimp only; omega, hn1, fun h => of_decide_eq_true h, fun h => ?_, ?_, hq129⟩ (by dsimp only; omega) (by first | exact Go.Sl.Cov.refl _ | (intro p; simp only [List.flatten_cons, List.flatten_nil, List.flatten_append, List.append_nil, List.nil_append, Go.Sl.cnt_append, Go.Sl.cnt_cons, Go.Sl.cnt_nil, List.set_cons_zero, List.set_cons_succ, List.length_nil, List.length_cons, Nat.zero_add, List.append]; omega)) ⟨congrArg (fun z => some (Value.int .i64 z)) (show ((at_ : Int) + (x63.1.n : Int)) = ((at_ + n : Nat) : Int) by omega), congrArg (fun z => some (Value.bool z)) hp3, (by repeat (first | exact True.intro | refine And.intro rfl ?_))⟩
        · have := of_decide_eq_false h
          dsimp only
          omega
        · dsimp only
          rcases hfar with h | h | h
          · by_cases h0 : n = 0
            · have := hn4 h0
              exact .inr (.inl (decide_eq_true (by omega)))
            · omega
          · cases h
          · by_cases h0 : n = 0
            · have := hn4 h0
              exact .inr (.inl (decide_eq_true (by omega)))
            · omega
  · have hend : e = true ∧ at_ = t.length := by
      rcases hfar with h | h | h
      · omega
      · exact ⟨h, he1 h⟩
      · omega
    obtain ⟨rfl, hat2⟩ := hend
    refine Go.Sl.cw_seq ?_
    refine Go.Sl.cw_region ?_
    refine Go.Sl.ow_val rfl rfl (Go.Sl.v_move rfl) ?_
    refine Go.Sl.ow_val rfl rfl (Go.Sl.v_move rfl) ?_
    refine Go.Sl.ow_val rfl rfl (Go.Sl.v_len rfl Try.underlying57 rfl) ?_
    refine Go.Sl.ow_val rfl rfl (Go.Sl.v_eql rfl rfl) ?_
    refine Go.Sl.ow_val rfl rfl (Go.Sl.v_move rfl) ?_
    refine Go.Sl.ow_dec 142 rfl (fun hc142 => ?_) (fun hc142 => ?_)
    rotate_left; (exfalso; omega); rotate_right
    refine Go.Sl.ow_val rfl rfl (Go.Sl.v_move rfl) ?_
    refine Go.Sl.ow_val rfl rfl (Go.Sl.v_pick_true rfl rfl) ?_
    refine Go.Sl.ow_val rfl rfl (Go.Sl.v_move rfl) ?_
    refine Go.Sl.ow_val rfl rfl (Go.Sl.v_move rfl) ?_
    refine Go.Sl.ow_val rfl rfl (Go.Sl.v_call rfl rfl (outWaits_c hO (by repeat (first | exact Go.Sl.Sub.here | assumption | refine Go.Sl.Sub.there ?_)) hw)) ?_
    refine Go.Sl.ow_val rfl rfl (Go.Sl.v_not rfl) ?_
    refine Go.Sl.ow_val rfl rfl (Go.Sl.v_pick_true rfl rfl) ?_
    refine Go.Sl.ow_val rfl rfl (Go.Sl.v_move rfl) ?_
    refine Go.Sl.ow_dec 150 rfl (fun hc150 => ?_) (fun hc150 => ?_)
    refine Go.Sl.ow_val rfl rfl (Go.Sl.v_move rfl) ?_
    refine Go.Sl.ow_val rfl rfl (Go.Sl.v_call rfl rfl (outDone_c hO (by repeat (first | exact Go.Sl.Sub.here | assumption | refine Go.Sl.Sub.there ?_)) hw)) ?_
    refine Go.Sl.ow_val rfl rfl (Go.Sl.v_not_false rfl) ?_
    refine Go.Sl.ow_val rfl rfl (Go.Sl.v_pick_true rfl rfl) ?_
    refine Go.Sl.ow_val rfl rfl (Go.Sl.v_assign rfl) ?_
    refine Go.Sl.ow_nil ?_
    refine Go.Sl.xw_then ?_
    refine Go.Sl.cw_ret ?_
    refine Go.Sl.ret1 rfl (Go.Sl.res_tmp rfl) ?_
    rotate_left
    refine Go.Sl.ow_skip rfl rfl ?_
    refine Go.Sl.ow_skip rfl rfl ?_
    refine Go.Sl.ow_skip rfl rfl ?_
    refine Go.Sl.ow_val rfl rfl (Go.Sl.v_pick_false rfl rfl) ?_
    refine Go.Sl.ow_val rfl rfl (Go.Sl.v_assign rfl) ?_
    refine Go.Sl.ow_nil ?_
    refine Go.Sl.xw_then ?_
    refine Go.Sl.cw_ret ?_
    refine Go.Sl.ret1 rfl (Go.Sl.res_tmp rfl) ?_
    rotate_left
    · exact done0 rfl (by first | exact Go.Sl.Cov.refl _ | (intro p; simp only [List.flatten_cons, List.flatten_nil, List.flatten_append, List.append_nil, List.nil_append, Go.Sl.cnt_append, Go.Sl.cnt_cons, Go.Sl.cnt_nil, List.set_cons_zero, List.set_cons_succ, List.length_nil, List.length_cons, Nat.zero_add, List.append]; omega))
    · (exfalso; rw [hpl, if_neg (by omega)] at hc150; exact hc150 (by decide))

theorem walk {H : Type} {enc : TypeId × Value → H} (W : World) (base : Nat) (args : Array Value) (ds : List (DataW H)) (p : List MemPlace)
    (hval : ∀ (j : Nat) t v, Try.f7.params[j]? = some t → args[j]? = some v → Value.okWide Try.prog W .any base t v)
    (hA : DataW.TrodAll enc Try.prog W 0 (fun _ => true) true Try.f7.params.toList args.toList ds p) :
    Calls Try.prog 7 args W fun e w' => e = .returned (.bool true) ∧ Below W.heap.size W w' := by
  rw [Try.params7] at hA hval
  obtain ⟨v0, vs0, d0, ds0, p0, q0, hargs, rfl, rfl, h0, r0⟩ := trodAll_cons hA
  obtain ⟨v1, vs1, d1, ds1, p1, q1, rfl, rfl, rfl, h1, r1⟩ := trodAll_cons r0
  obtain ⟨v2, vs2, d2, ds2, p2, q2, rfl, rfl, rfl, h2, r2⟩ := trodAll_cons r1
  obtain ⟨rfl, rfl, rfl⟩ := trodAll_nil r2
  obtain rfl : args = #[v0, v1, v2] := by cases args; simp_all
  obtain ⟨t, aoT, capT, rfl, hl, _, hT⟩ := open_bytes (hval 0 57 v0 rfl rfl) h0
  obtain ⟨ms, aoM, capM, rfl, hml, _, hM⟩ := open_bytes (hval 1 57 v1 rfl rfl) h1
  obtain ⟨ls, aoL, capL, rfl, hll, _, hL⟩ := open_bytes (hval 2 57 v2 rfl rfl) h2
  exact (law hl hml hll hT hM hL []).call

theorem own : ownKnob Try.prog.godebug = none := by kernel_rfl
theorem laidOut : laidOutB Try.prog = true := by kernel_rfl
theorem reads : ∀ t ∈ Try.f7.params.toList, Try.prog.readableRec t = true ∧ t < Try.prog.types.size := by
  rw [Try.params7]
  intro t ht
  simp only [List.mem_cons, List.not_mem_nil, or_false] at ht
  rcases ht with rfl | rfl | rfl
  · exact ⟨by kernel_rfl, of_decide_eq_true (by kernel_rfl)⟩
  · exact ⟨by kernel_rfl, of_decide_eq_true (by kernel_rfl)⟩
  · exact ⟨by kernel_rfl, of_decide_eq_true (by kernel_rfl)⟩

set_option maxRecDepth 100000 in
theorem lifted (os : Os) (started : os.Started) (H : Type) (enc : TypeId × Value → H) :
    ReturnsInHanded {} Try.checked os 7 .any (Rows.outbufOrderSpec.pre6 enc Try.prog Try.f7 Rows.outbufOrderRow.domain false) (Rows.outbufOrderSpec.post enc Try.prog Try.f7 false true false false) := by
  refine returnsInHanded_of_change (C := Try.checked) own started (by kernel_rfl) Try.func7
    (ChangeSpec.witness6 (enc := enc) (C := Try.checked) false ⟨#[], #[.slice none 0 0, .slice none 0 0, .slice none 0 0], []⟩ 8 (by kernel_rfl) (by kernel_rfl) (by kernel_rfl) (by kernel_rfl)) ?_
  intro W base args ds gs before hval hW _ _
  have hW' := hW
  obtain ⟨p, q, hA0, hV, rfl, _, _⟩ := hW
  obtain ⟨rfl, rfl⟩ := trodVars_none hV
  have hA : DataW.TrodAll enc Try.prog W 0 (fun _ => true) true Try.f7.params.toList args.toList ds p := hA0
  have hlen := trodAll_len hA
  refine (walk W base args ds p hval hA).mono fun e W' ⟨he, bel⟩ => ?_
  subst he
  rw [Try.params7] at hlen
  match ds, hlen.2, hA, hW' with
  | [d0, d1, d2], _, hA, hW' => exact ⟨_, rfl, _, _, _, [], _, [], hW', trodAll_mk1 (shut_bool Try.underlying4 _), trodAll_stays laidOut bel reads hA, rfl, bel.frame _, fun h => by cases h⟩

theorem over : Rows.outbufOrderRow.holds Try.pinned (OpenSpec.ofChange Rows.outbufOrderSpec) :=
  OpenClaim.holds_of_wide 7 Try.f7 rfl rfl rfl rfl rfl rfl rfl ⟨rfl, rfl, rfl, rfl, rfl⟩ rfl rfl rfl rfl rfl (by kernel_rfl) Try.func7 (by kernel_rfl)
    (of_decide_eq_true (by kernel_rfl)) (by unfold Func.isWrapper; first | (rw [if_pos (by decide +kernel)]; kernel_rfl) | (rw [if_neg (by decide +kernel)]; exact ⟨rfl, rfl⟩))
    (fun os started H enc _ => lifted os started H enc)

theorem proved : Rows.OutbufOrderSaid := over

end Go.Proofs.Ytbpnnkkbaakdjaa.lawOutbufOrder
