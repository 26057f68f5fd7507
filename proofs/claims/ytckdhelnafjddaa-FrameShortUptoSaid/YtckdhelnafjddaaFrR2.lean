/- What takes a frame's ranges, its id, its fields, each as a contract. Conditions: numbers fit their types; not more than a hundred million bytes. -/
import Derived.Test.YtckdhelnafjddaaFrR
namespace Go.Proofs.Ytckdhelnafjddaa
open Go Go.Sl Go.Proofs Go.RowKit Go.ChangeShapes Go.WideShapes Go.ChangeAt
set_option maxRecDepth 20000
set_option linter.unusedVariables false
set_option linter.unusedSimpArgs false

theorem short_one {s : Rs} {top less : Int} {acc : List Rg} (h : Short s) : Short (pOne top less acc s).2 := by
  have h1 := short_if (p := top < less) (k := 10) h
  unfold pOne Pr.bind
  dsimp only
  split
  · exact h1
  · exact h1
theorem one_len {s : Rs} {top less : Int} {acc : List Rg} : (pOne top less acc s).1.2.length ≤ acc.length + 1 := by
  unfold pOne Pr.bind
  dsimp only
  split
  · simp
  · simp
theorem one_true {s : Rs} {top less : Int} {acc : List Rg} (h : (pOne top less acc s).1.1 = true) : less ≤ top := by
  rcases Int.lt_or_le top less with h2 | h2
  · exfalso
    unfold pOne Pr.bind pIf at h
    dsimp only at h
    rw [if_pos h2, if_pos ?_] at h
    · cases h
    · unfold failM
      dsimp only
      by_cases h3 : s.2 ≠ 0
      · rw [if_pos (.inr h3)]; exact h3
      · rw [if_neg (fun h4 => h4.elim (by decide) h3)]; decide
  · exact h2
theorem ow_split4 {P : Program} {ops : Array Oper} {Q : Exit → Act → World → Prop} {B : Nat} {w0 : World} {N : Nat} {E : Env} {a b d e : Hp} {F : List Hp} {rest : List Oper} (h : OW P ops Q B w0 N (a :: b :: d :: e :: F) E rest) : OW P ops Q B w0 N ((a ++ (b ++ (d ++ e))) :: F) E rest := ow_flat (a :: b :: d :: e :: F) (.of_eq (by simp)) h
def ackM (k dl : Int) (rg : List Rg) : FrM := { FrM.zero k with dl := dl, rg := rg }
theorem takeRangeA_c {B : Nat} {w0 : World} {G : List Hp} {R : Hp → List Hp} {k dl : Int} {acc : List Rg} {s : Rs} {bf br : Nat} {c : Hp} {top less : Int} (hsel : Sel G c R) (hO : FRAt (ackM k dl acc) s bf br c) (ht : 0 ≤ top ∧ top < 4611686018427387904) (hl : 0 ≤ less ∧ less < 4611686018427387904) (hn : acc.length ≤ 1000) :
    Go.Sl.Fn Try.prog 123 #[.pointer (some ⟨bf, 0, none⟩), .pointer (some ⟨br, 0, none⟩), .int .u64 top, .int .u64 less] B w0 G fun u G' => ∃ c' : Hp, u = .bool (pOne top less acc s).1.1 ∧ FRAt (ackM k dl (pOne top less acc s).1.2) (pOne top less acc s).2 bf br c' ∧ G' = R c' := takeRange_c (f := ackM k dl acc) hsel hO ht hl hn
set_option maxHeartbeats 4000000 in
theorem takeRanges_c {B : Nat} {w0 : World} {G : List Hp} {R : Hp → List Hp} {k : Int} {s : Rs} {bf br : Nat} {c : Hp} (hsel : Sel G c R) (hO : FRAt (FrM.zero k) s bf br c) (hb : Short s) :
    Go.Sl.Fn Try.prog 97 #[.pointer (some ⟨bf, 0, none⟩), .pointer (some ⟨br, 0, none⟩)] B w0 G fun u G' => ∃ c' : Hp, u = .tuple #[] ∧ FRAt (pAck k s).1 (pAck k s).2 bf br c' ∧ G' = R c' := by
  refine Fn.sel0 hsel fun F hR hF => ?_
  obtain ⟨p, cg, cd, cr, rfl, hF, hr⟩ := hO
  have hb1 := short_int hb
  have hb2 := short_int hb1
  have hb3 := short_count (k := 31) (by decide) hb2
  have hb4 := short_int hb3
  have i1 := int_in s
  have i4 := int_in (pCount 31 (pInt (pInt s).2).2).2
  have cm := countM_le (l := (pInt (pInt s).2).2.1) (e := (pInt (pInt s).2).2.2) (k := 31) (by decide)
  have cm2 : 0 ≤ (pCount 31 (pInt (pInt s).2).2).1 ∧ (pCount 31 (pInt (pInt s).2).2).1 ≤ 31 := ⟨cm.2.1, by have := cm.2.2; show (countM _ _ 31).1 ≤ 31; omega⟩
  refine fn_enter Try.func97 rfl (by kernel_rfl) Try.ntmps97 (by simp) ?_
  refine cw_split4 ?_
  refine Go.Sl.cw_seq ?_
  refine Go.Sl.cw_region ?_
  refine Go.Sl.ow_val rfl rfl (Go.Sl.v_move rfl) ?_
  (refine Go.Sl.ow_call rfl rfl rfl rfl (rInt_c (s := s) (by repeat (first | exact Go.Sl.Sel.here | apply Go.Sl.Sel.there)) hr hb) ?_; rintro _ _ ⟨x10, rfl, hq10, rfl⟩)
  refine Go.Sl.ow_val rfl rfl (Go.Sl.v_assign rfl) ?_
  refine Go.Sl.ow_nil ?_
  refine Go.Sl.xw_then ?_
  refine Go.Sl.cw_seq ?_
  refine Go.Sl.cw_region ?_
  refine Go.Sl.ow_val rfl rfl (Go.Sl.v_move rfl) ?_
  refine Go.Sl.ow_val rfl rfl (Go.Sl.v_move rfl) ?_
  (refine Go.Sl.ow_call rfl rfl rfl rfl (rInt_c (s := (pInt s).2) (by repeat (first | exact Go.Sl.Sel.here | apply Go.Sl.Sel.there)) hq10 hb1) ?_; rintro _ _ ⟨x13, rfl, hq13, rfl⟩)
  refine Go.Sl.ow_val rfl rfl (Go.Sl.v_nilCheck rfl) ?_
  refine Go.Sl.ow_val rfl rfl (Go.Sl.v_fieldAddr0 Ty.fd30_8 rfl) ?_
  refine Go.Sl.ow_store1 rfl rfl rfl rfl Ty.sc22 .here (Go.Sl.SetN.one (by first | decide | exact Nat.le_of_ble_eq_true rfl)) ?_
  refine Go.Sl.ow_nil ?_
  refine Go.Sl.xw_then ?_
  refine Go.Sl.cw_seq ?_
  refine Go.Sl.cw_region ?_
  refine Go.Sl.ow_val rfl rfl (Go.Sl.v_move rfl) ?_
  (refine Go.Sl.ow_call rfl rfl rfl rfl (rCount_c (s := (pInt (pInt s).2).2) (by repeat (first | exact Go.Sl.Sel.here | apply Go.Sl.Sel.there)) hq13 hb2 (by decide)) ?_; rintro _ _ ⟨x17, rfl, hq17, rfl⟩)
  refine Go.Sl.ow_val rfl rfl (Go.Sl.v_assign rfl) ?_
  refine Go.Sl.ow_nil ?_
  refine Go.Sl.xw_then ?_
  refine Go.Sl.cw_seq ?_
  refine Go.Sl.cw_region ?_
  refine Go.Sl.ow_val rfl rfl (Go.Sl.v_move rfl) ?_
  (refine Go.Sl.ow_call rfl rfl rfl rfl (rInt_c (s := (pCount 31 (pInt (pInt s).2).2).2) (by repeat (first | exact Go.Sl.Sel.here | apply Go.Sl.Sel.there)) hq17 hb3) ?_; rintro _ _ ⟨x19, rfl, hq19, rfl⟩)
  refine Go.Sl.ow_val rfl rfl (Go.Sl.v_assign rfl) ?_
  refine Go.Sl.ow_nil ?_
  refine Go.Sl.xw_then ?_
  refine Go.Sl.cw_seq ?_
  refine Go.Sl.cw_seq ?_
  refine Go.Sl.cw_region ?_
  refine Go.Sl.ow_val rfl rfl (Go.Sl.v_move rfl) ?_
  refine Go.Sl.ow_val rfl rfl (Go.Sl.v_move rfl) ?_
  refine Go.Sl.ow_nil ?_
  refine Go.Sl.xw_then ?_
  refine Go.Sl.cw_block ?_
  have hA : pAck k s = (ackM k (pInt (pInt s).2).1 (pMore (pCount 31 (pInt (pInt s).2).2).1.toNat (pInt s).1 (pInt (pCount 31 (pInt (pInt s).2).2).2).1 [] (pInt (pCount 31 (pInt (pInt s).2).2).2).2).1, (pMore (pCount 31 (pInt (pInt s).2).2).1.toNat (pInt s).1 (pInt (pCount 31 (pInt (pInt s).2).2).2).1 [] (pInt (pCount 31 (pInt (pInt s).2).2).2).2).2) := rfl
  rw [hA]
  have hO : FRAt (ackM k (pInt (pInt s).2).1 []) (pInt (pCount 31 (pInt (pInt s).2).2).2).2 bf br ([(bf, .cells (((FrM.zero k).cells p).set 8 (.int .u64 (pInt (pInt s).2).1)).toArray 30 (0, 0))] ++ (cg ++ (cd ++ x19))) := ⟨p, cg, cd, x19, rfl, ⟨hF.r, hF.d, hF.i⟩, hq19⟩
  refine cw_flat (([(bf, .cells (((FrM.zero k).cells p).set 8 (.int .u64 (pInt (pInt s).2).1)).toArray 30 (0, 0))] ++ (cg ++ (cd ++ x19))) :: F) (.of_eq (by simp)) ?_
  clear hq10 hq13 hq17 hq19 hA cm hF hr hsel
  generalize [(bf, Obj.cells (((FrM.zero k).cells p).set 8 (.int .u64 (pInt (pInt s).2).1)).toArray 30 (0, 0))] ++ (cg ++ (cd ++ x19)) = c0 at *
  generalize pInt (pCount 31 (pInt (pInt s).2).2).2 = q4 at *
  generalize pCount 31 (pInt (pInt s).2).2 = q3 at *
  generalize pInt (pInt s).2 = q2 at *
  generalize pInt s = q1 at *
  refine Go.Sl.cw_loop2 (ι := ((Nat × Int × Int × List Rg × Rs × Hp))) [(0, _), (1, _), (20, _)] ⟨rfl, rfl, rfl, trivial⟩ ((fun x => [(21, .int .i64 x.1), (4, .int .u64 x.2.1), (6, .int .u64 x.2.2.1)])) ((fun x => (x.1 : Int) ≤ q3.1 ∧ (0 ≤ x.2.1 ∧ x.2.1 < 4611686018427387904) ∧ (0 ≤ x.2.2.1 ∧ x.2.2.1 < 4611686018427387904) ∧ x.2.2.2.1.length ≤ x.1 ∧ Short x.2.2.2.2.1 ∧ pMore q3.1.toNat q1.1 q4.1 [] q4.2 = pMore (q3.1.toNat - x.1) x.2.1 x.2.2.1 x.2.2.2.1 x.2.2.2.2.1 ∧ FRAt (ackM k q2.1 x.2.2.2.1) x.2.2.2.2.1 bf br x.2.2.2.2.2)) ((fun x => q3.1.toNat - x.1)) ((fun x => x.2.2.2.2.2 :: F)) (((0, q1.1, q4.1, [], q4.2, c0) : Nat × Int × Int × List Rg × Rs × Hp)) (by repeat (first | exact True.intro | refine And.intro rfl ?_)) (by first | exact Go.Sl.Cov.refl _ | (intro p; simp only [List.flatten_cons, List.flatten_nil, List.flatten_append, List.append_nil, List.nil_append, Go.Sl.cnt_append, Go.Sl.cnt_cons, Go.Sl.cnt_nil, List.set_cons_zero, List.set_cons_succ, List.length_nil, List.length_cons, Nat.zero_add, List.append]; omega)) ?_ ?_
  · exact ⟨by dsimp only; omega, i1, i4, Nat.le_refl _, hb4, rfl, hO⟩
  rintro ⟨j, top, less, acc, s1, c1⟩ ⟨hj, ht, hl, hal, hs1, hE, hO1⟩
  dsimp only at hj ht hl hal hs1 hE hO1 ⊢
  refine Go.Sl.cw_seq ?_
  refine Go.Sl.cw_region ?_
  refine Go.Sl.ow_val rfl rfl (Go.Sl.v_lss rfl rfl) ?_
  refine Go.Sl.ow_nil ?_
  refine Go.Sl.xw_then ?_
  refine Go.Sl.cw_seq ?_
  refine Go.Sl.cw_dec rfl (fun hc22 => ?_) (fun hc22 => ?_)
  refine Go.Sl.cw_skip ?_
  refine Go.Sl.xw_then ?_
  rotate_left
  refine Go.Sl.cw_exit ?_
  refine Go.Sl.xw_then_exit ?_
  refine Go.Sl.xw_round_exit ?_
  refine Go.Sl.xw_block_exit ?_
  refine Go.Sl.xw_then ?_
  refine Go.Sl.cw_seq ?_
  refine Go.Sl.cw_region ?_
  refine Go.Sl.ow_val rfl rfl (Go.Sl.v_move rfl) ?_
  refine Go.Sl.ow_val rfl rfl (Go.Sl.v_move rfl) ?_
  refine Go.Sl.ow_val rfl rfl (Go.Sl.v_move rfl) ?_
  refine Go.Sl.ow_val rfl rfl (Go.Sl.v_move rfl) ?_
  rotate_left
  · have hrec : pMore (q3.1.toNat - j) top less acc s1 = if (pOne top less acc s1).1.1 = false then ((pOne top less acc s1).1.2, (pOne top less acc s1).2) else if top - less < (pInt (pOne top less acc s1).2).1 + 2 then ((pOne top less acc s1).1.2, failM 10 (pInt (pInt (pOne top less acc s1).2).2).2) else pMore (q3.1.toNat - (j + 1)) (top - less - (pInt (pOne top less acc s1).2).1 - 2) (pInt (pInt (pOne top less acc s1).2).2).1 (pOne top less acc s1).1.2 (pInt (pInt (pOne top less acc s1).2).2).2 := by
      obtain ⟨q, hq⟩ : ∃ q, q3.1.toNat - j = q + 1 := ⟨q3.1.toNat - j - 1, by omega⟩
      rw [hq, show q3.1.toNat - (j + 1) = q from by omega]
      rw [pMore]
      show (if (pOne top less acc s1).1.1 = false then Pr.ret (pOne top less acc s1).1.2 else _ : Pr (List Rg)) (pOne top less acc s1).2 = _
      by_cases h1 : (pOne top less acc s1).1.1 = false
      · rw [if_pos h1, if_pos h1]; rfl
      · rw [if_neg h1, if_neg h1]
        show (if top - less < (pInt (pOne top less acc s1).2).1 + 2 then _ else _ : Pr (List Rg)) (pInt (pInt (pOne top less acc s1).2).2).2 = _
        by_cases h2 : top - less < (pInt (pOne top less acc s1).2).1 + 2
        · rw [if_pos h2, if_pos h2]; rfl
        · rw [if_neg h2, if_neg h2]
    rw [hrec] at hE
    have hol := one_len (s := s1) (top := top) (less := less) (acc := acc)
    have hot := one_true (s := s1) (top := top) (less := less) (acc := acc)
    have hos := short_one (top := top) (less := less) (acc := acc) hs1
    refine Go.Sl.cw_seq ?_
    refine Go.Sl.cw_block ?_
    refine Go.Sl.cw_seq ?_
    refine Go.Sl.cw_seq ?_
    refine Go.Sl.cw_region ?_
    refine Go.Sl.ow_val rfl rfl (Go.Sl.v_move rfl) ?_
    refine Go.Sl.ow_val rfl rfl (Go.Sl.v_move rfl) ?_
    refine Go.Sl.ow_val rfl rfl (Go.Sl.v_move rfl) ?_
    refine Go.Sl.ow_val rfl rfl (Go.Sl.v_move rfl) ?_
    (refine Go.Sl.ow_call rfl rfl rfl rfl (takeRangeA_c (top := top) (less := less) (by repeat (first | exact Go.Sl.Sel.here | apply Go.Sl.Sel.there)) hO1 ht hl (by omega)) ?_; rintro _ _ ⟨x27, rfl, hq27, rfl⟩)
    refine Go.Sl.ow_val rfl rfl (Go.Sl.v_not_bool rfl) ?_
    refine Go.Sl.ow_nil ?_
    refine Go.Sl.xw_then ?_
    refine Go.Sl.cw_bool rfl (fun hc28 => ?_) (fun hc28 => ?_)
    refine Go.Sl.cw_ret ?_
    refine Go.Sl.xw_then_ret ?_
    refine Go.Sl.xw_block_ret ?_
    refine Go.Sl.xw_then_ret ?_
    refine Go.Sl.xw_round_ret ?_
    refine Go.Sl.xw_block_ret ?_
    refine Go.Sl.xw_then_ret ?_
    refine Go.Sl.ret0 rfl ?_
    rotate_left
    refine Go.Sl.cw_skip ?_
    refine Go.Sl.xw_then ?_
    rotate_left
    · have h1 : (pOne top less acc s1).1.1 = false := by simpa using hc28
      rw [if_pos h1] at hE
      rw [hE]
      exact ⟨x27, rfl, hq27, (by first | exact Go.Sl.Cov.refl _ | (intro p; simp only [List.flatten_cons, List.flatten_nil, List.flatten_append, List.append_nil, List.nil_append, Go.Sl.cnt_append, Go.Sl.cnt_cons, Go.Sl.cnt_nil, List.set_cons_zero, List.set_cons_succ, List.length_nil, List.length_cons, Nat.zero_add, List.append]; omega))⟩
    have h1 : (pOne top less acc s1).1.1 = true := by simpa using hc28
    rw [if_neg (by rw [h1]; simp)] at hE
    have hlt := hot h1
    generalize hq : pOne top less acc s1 = o at *
    obtain ⟨⟨ob, oacc⟩, os⟩ := o
    dsimp only at hol hos h1 hE hq27 ⊢
    obtain ⟨p2, cg2, cd2, cr2, rfl, hF2, hr2⟩ := hq27
    refine cw_split4 ?_
    have ho1 := short_int hos
    have ho2 := short_int ho1
    have g1 := int_in os
    have g2 := int_in (pInt os).2
    refine Go.Sl.cw_seq ?_
    refine Go.Sl.cw_region ?_
    refine Go.Sl.ow_val rfl rfl (Go.Sl.v_move rfl) ?_
    refine Go.Sl.ow_val rfl rfl (Go.Sl.v_move rfl) ?_
    refine Go.Sl.ow_val rfl rfl (Go.Sl.v_sub rfl rfl (Go.Sl.nw_u64 (by omega) (by omega))) ?_
    refine Go.Sl.ow_val rfl rfl (Go.Sl.v_assign rfl) ?_
    refine Go.Sl.ow_nil ?_
    refine Go.Sl.xw_then ?_
    refine Go.Sl.cw_seq ?_
    refine Go.Sl.cw_region ?_
    refine Go.Sl.ow_val rfl rfl (Go.Sl.v_move rfl) ?_
    (refine Go.Sl.ow_call rfl rfl rfl rfl (rInt_c (s := os) (by repeat (first | exact Go.Sl.Sel.here | apply Go.Sl.Sel.there)) hr2 hos) ?_; rintro _ _ ⟨x33, rfl, hq33, rfl⟩)
    refine Go.Sl.ow_val rfl rfl (Go.Sl.v_assign rfl) ?_
    refine Go.Sl.ow_nil ?_
    refine Go.Sl.xw_then ?_
    refine Go.Sl.cw_seq ?_
    refine Go.Sl.cw_region ?_
    refine Go.Sl.ow_val rfl rfl (Go.Sl.v_move rfl) ?_
    (refine Go.Sl.ow_call rfl rfl rfl rfl (rInt_c (s := (pInt os).2) (by repeat (first | exact Go.Sl.Sel.here | apply Go.Sl.Sel.there)) hq33 ho1) ?_; rintro _ _ ⟨x35, rfl, hq35, rfl⟩)
    refine Go.Sl.ow_val rfl rfl (Go.Sl.v_assign rfl) ?_
    refine Go.Sl.ow_nil ?_
    refine Go.Sl.xw_then ?_
    refine Go.Sl.cw_seq ?_
    refine Go.Sl.cw_seq ?_
    refine Go.Sl.cw_region ?_
    refine Go.Sl.ow_val rfl rfl (Go.Sl.v_move rfl) ?_
    refine Go.Sl.ow_val rfl rfl (Go.Sl.v_add rfl rfl (Go.Sl.nw_u64 (by omega) (by omega))) ?_
    refine Go.Sl.ow_val rfl rfl (Go.Sl.v_move rfl) ?_
    refine Go.Sl.ow_val rfl rfl (Go.Sl.v_gtr rfl rfl) ?_
    refine Go.Sl.ow_nil ?_
    refine Go.Sl.xw_then ?_
    refine Go.Sl.cw_dec rfl (fun hc39 => ?_) (fun hc39 => ?_)
    refine Go.Sl.cw_seq ?_
    refine Go.Sl.cw_region ?_
    refine Go.Sl.ow_val rfl rfl (Go.Sl.v_move rfl) ?_
    (refine Go.Sl.ow_call rfl rfl rfl rfl (rFail_c (s := (pInt (pInt os).2).2) (k := 10) (by repeat (first | exact Go.Sl.Sel.here | apply Go.Sl.Sel.there)) hq35) ?_; rintro _ _ ⟨x41, rfl, hq41, rfl⟩)
    refine Go.Sl.ow_nil ?_
    refine Go.Sl.xw_then ?_
    refine Go.Sl.cw_ret ?_
    refine Go.Sl.xw_then_ret ?_
    refine Go.Sl.xw_block_ret ?_
    refine Go.Sl.xw_then_ret ?_
    refine Go.Sl.xw_round_ret ?_
    refine Go.Sl.xw_block_ret ?_
    refine Go.Sl.xw_then_ret ?_
    refine Go.Sl.ret0 rfl ?_
    rotate_left
    refine Go.Sl.cw_skip ?_
    refine Go.Sl.xw_then ?_
    refine Go.Sl.cw_region ?_
    refine Go.Sl.ow_val rfl rfl (Go.Sl.v_move rfl) ?_
    refine Go.Sl.ow_val rfl rfl (Go.Sl.v_move rfl) ?_
    refine Go.Sl.ow_val rfl rfl (Go.Sl.v_sub rfl rfl (Go.Sl.nw_u64 (by omega) (by omega))) ?_
    refine Go.Sl.ow_val rfl rfl (Go.Sl.v_sub rfl rfl (Go.Sl.nw_u64 (by omega) (by omega))) ?_
    refine Go.Sl.ow_val rfl rfl (Go.Sl.v_assign rfl) ?_
    refine Go.Sl.ow_nil ?_
    refine Go.Sl.xw_block ?_
    refine Go.Sl.xw_then ?_
    refine Go.Sl.cw_region ?_
    refine Go.Sl.ow_val rfl rfl (Go.Sl.v_add rfl rfl (Go.Sl.nw_i64 (by omega) (by omega))) ?_
    refine Go.Sl.ow_val rfl rfl (Go.Sl.v_move rfl) ?_
    refine Go.Sl.ow_nil ?_
    rotate_left
    · rw [if_pos hc39] at hE
      rw [hE]
      exact ⟨[(bf, .cells ((ackM k q2.1 oacc).cells p2).toArray 30 (0, 0))] ++ (cg2 ++ (cd2 ++ x41)), rfl, ⟨p2, cg2, cd2, x41, rfl, hF2, hq41⟩, (by first | exact Go.Sl.Cov.refl _ | (intro p; simp only [List.flatten_cons, List.flatten_nil, List.flatten_append, List.append_nil, List.nil_append, Go.Sl.cnt_append, Go.Sl.cnt_cons, Go.Sl.cnt_nil, List.set_cons_zero, List.set_cons_succ, List.length_nil, List.length_cons, Nat.zero_add, List.append]; omega))⟩
    · rw [if_neg hc39] at hE
      have hO3 : FRAt (ackM k q2.1 oacc) (pInt (pInt os).2).2 bf br ([(bf, .cells ((ackM k q2.1 oacc).cells p2).toArray 30 (0, 0))] ++ (cg2 ++ (cd2 ++ x35))) := ⟨p2, cg2, cd2, x35, rfl, hF2, hq35⟩
      exact xw_round ((j + 1, top - less - (pInt os).1 - 2, (pInt (pInt os).2).1, oacc, (pInt (pInt os).2).2, _) : Nat × Int × Int × List Rg × Rs × Hp) ⟨by dsimp only; omega, ⟨by dsimp only; omega, by dsimp only; omega⟩, g2, by dsimp only; omega, ho2, hE, hO3⟩ (by dsimp only; omega) (by first | exact Go.Sl.Cov.refl _ | (intro p; simp only [List.flatten_cons, List.flatten_nil, List.flatten_append, List.append_nil, List.nil_append, Go.Sl.cnt_append, Go.Sl.cnt_cons, Go.Sl.cnt_nil, List.set_cons_zero, List.set_cons_succ, List.length_nil, List.length_cons, Nat.zero_add, List.append]; omega)) (by repeat (first | exact True.intro | refine And.intro rfl ?_))
  have hj3 : q3.1.toNat - j = 0 := by omega
  rw [hj3] at hE
  have hE2 : pMore q3.1.toNat q1.1 q4.1 [] q4.2 = ((pOne top less acc s1).1.2.reverse, (pOne top less acc s1).2) := hE
  rw [hE2]
  (refine Go.Sl.ow_call rfl rfl rfl rfl (takeRangeA_c (top := top) (less := less) (by repeat (first | exact Go.Sl.Sel.here | apply Go.Sl.Sel.there)) hO1 ht hl (by omega)) ?_; rintro _ _ ⟨x51, rfl, hq51, rfl⟩)
  refine Go.Sl.ow_nil ?_
  refine Go.Sl.xw_then ?_
  refine Go.Sl.cw_region ?_
  refine Go.Sl.ow_val rfl rfl (Go.Sl.v_move rfl) ?_
  refine Go.Sl.ow_val rfl rfl (Go.Sl.v_nilCheck rfl) ?_
  refine Go.Sl.ow_val rfl rfl (Go.Sl.v_fieldAddr0 Ty.fd30_7 rfl) ?_
  have hol := one_len (s := s1) (top := top) (less := less) (acc := acc)
  obtain ⟨p2, cg2, cd2, cr2, rfl, hF2, hr2⟩ := hq51
  refine ow_split4 ?_
  have hFr := hF2.r
  refine Go.Sl.ow_val rfl rfl (Go.Sl.v_load rfl (Go.Sl.Var.at1 Ty.sc27 .here (Go.Sl.GetN.lit rfl))) ?_
  (refine Go.Sl.ow_call rfl rfl rfl rfl (reverse_c (by repeat (first | exact Go.Sl.Sel.here | apply Go.Sl.Sel.there)) hFr (by show (pOne top less acc s1).1.2.length ≤ 1000; omega)) ?_; rintro _ _ ⟨x56, rfl, hq56, rfl⟩)
  refine Go.Sl.ow_nil ?_
  refine Go.Sl.ret0n rfl ?_
  have hlr : (pOne top less acc s1).1.2.reverse.length = (pOne top less acc s1).1.2.length := List.length_reverse
  have hq : Ls enR 102 (.slice p2.ra (pOne top less acc s1).1.2.reverse.length p2.rc) x56 (pOne top less acc s1).1.2.reverse := by rw [hlr]; exact hq56
  refine ⟨[(bf, .cells ((ackM k q2.1 (pOne top less acc s1).1.2).cells p2).toArray 30 (0, 0))] ++ (x56 ++ (cd2 ++ cr2)), rfl, ⟨p2, x56, cd2, cr2, ?_, ⟨hq, hF2.d, hF2.i⟩, hr2⟩, (by first | exact Go.Sl.Cov.refl _ | (intro p; simp only [List.flatten_cons, List.flatten_nil, List.flatten_append, List.append_nil, List.nil_append, Go.Sl.cnt_append, Go.Sl.cnt_cons, Go.Sl.cnt_nil, List.set_cons_zero, List.set_cons_succ, List.length_nil, List.length_cons, Nat.zero_add, List.append]; omega))⟩
  have hcl : (ackM k q2.1 (pOne top less acc s1).1.2.reverse).cells p2 = (ackM k q2.1 (pOne top less acc s1).1.2).cells p2 := by
    show FrM.cells (ackM k q2.1 (pOne top less acc s1).1.2.reverse) p2 = _
    simp only [FrM.cells, ackM, FrM.zero, List.length_reverse]
    rfl
  show _ = [(bf, Obj.cells ((ackM k q2.1 (pOne top less acc s1).1.2.reverse).cells p2).toArray 30 (0, 0))] ++ _
  rw [hcl]
end Go.Proofs.Ytckdhelnafjddaa
