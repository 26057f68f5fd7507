/- What takes a frame's fields, whole frames, many. Conditions: numbers fit their types; not more than a hundred million bytes. -/
import Derived.Test.YtckdhelnafjddaaFrR3
namespace Go.Proofs.Ytckdhelnafjddaa
open Go Go.Sl Go.Proofs Go.RowKit Go.ChangeShapes Go.WideShapes Go.ChangeAt
set_option maxRecDepth 20000
set_option linter.unusedVariables false
set_option linter.unusedSimpArgs false

theorem cov4 {a b d e : Hp} {F : List Hp} : Cov ((a ++ (b ++ (d ++ e))) :: F) (a :: b :: d :: e :: F) := (by first | exact Go.Sl.Cov.refl _ | (intro p; simp only [List.flatten_cons, List.flatten_nil, List.flatten_append, List.append_nil, List.nil_append, Go.Sl.cnt_append, Go.Sl.cnt_cons, Go.Sl.cnt_nil, List.set_cons_zero, List.set_cons_succ, List.length_nil, List.length_cons, Nat.zero_add, List.append]; omega))
theorem cov5 {a b d e n : Hp} {F : List Hp} : Cov ((a ++ (b ++ ((d ++ n) ++ e))) :: F) (n :: a :: b :: d :: e :: F) := (by first | exact Go.Sl.Cov.refl _ | (intro p; simp only [List.flatten_cons, List.flatten_nil, List.flatten_append, List.append_nil, List.nil_append, Go.Sl.cnt_append, Go.Sl.cnt_cons, Go.Sl.cnt_nil, List.set_cons_zero, List.set_cons_succ, List.length_nil, List.length_cons, Nat.zero_add, List.append]; omega))
theorem b_ecn {a b c : Int} : Build Try.prog 28 #[(0, .int .u64 a), (1, .int .u64 b), (2, .int .u64 c)] (.agg [Value.int .u64 a, .int .u64 b, .int .u64 c].toArray) := fun w => by kernel_rfl
theorem ecn_set {f : FrM} {p : FrP} {T : TypeId} {a b c : Int} : SetN (.cells (f.cells p).toArray T (0, 0)) 9 [.int .u64 a, .int .u64 b, .int .u64 c] (.cells (({ f with e0 := a, e1 := b, e2 := c } : FrM).cells p).toArray T (0, 0)) :=
  SetN.part (a := (f.head p).take 9) (us := [.int .u64 f.e0, .int .u64 f.e1, .int .u64 f.e2]) (vs := [.int .u64 a, .int .u64 b, .int .u64 c]) (c := [.int .u64 f.sq, .int .u64 f.pr, .slice p.ia f.id.length p.ic] ++ f.tail) rfl rfl
theorem short_more : ∀ {n : Nat} {top less : Int} {acc : List Rg} {s : Rs}, Short s → Short (pMore n top less acc s).2
  | 0, _, _, _, _, h => short_one h
  | n + 1, top, less, acc, s, h => by
    have h1 := short_one (top := top) (less := less) (acc := acc) h
    show Short ((if (pOne top less acc s).1.1 = false then Pr.ret (pOne top less acc s).1.2 else _ : Pr (List Rg)) (pOne top less acc s).2).2
    by_cases h2 : (pOne top less acc s).1.1 = false
    · rw [if_pos h2]; exact h1
    · rw [if_neg h2]
      show Short ((if top - less < (pInt (pOne top less acc s).2).1 + 2 then (pFail 10).bind fun _ => .ret (pOne top less acc s).1.2 else pMore n (top - less - (pInt (pOne top less acc s).2).1 - 2) (pInt (pInt (pOne top less acc s).2).2).1 (pOne top less acc s).1.2 : Pr (List Rg)) (pInt (pInt (pOne top less acc s).2).2).2).2
      by_cases h3 : top - less < (pInt (pOne top less acc s).2).1 + 2
      · rw [if_pos h3]; exact short_fail (short_int (short_int h1))
      · rw [if_neg h3]; exact short_more (short_int (short_int h1))
theorem short_ack {k : Int} {s : Rs} (h : Short s) : Short (pAck k s).2 := short_more (short_int (short_count (by decide) (short_int (short_int h))))
theorem one3 (a b c : Int) : ∀ u ∈ [Value.int .u64 a, .int .u64 b, .int .u64 c], u.oneCell' = true := fun u hu => by
  simp only [List.mem_cons, List.not_mem_nil, or_false] at hu
  rcases hu with rfl | rfl | rfl <;> rfl
theorem ack_k {k : Int} {s : Rs} : (pAck k s).1.k = k := rfl
set_option maxHeartbeats 8000000 in
theorem takeFields_c {B : Nat} {w0 : World} {G : List Hp} {R : Hp → List Hp} {s : Rs} {bf br : Nat} {c : Hp} {k : Int} (hsel : Sel G c R) (hO : FRAt (FrM.zero k) s bf br c) (hb : Short s) (hk : 0 ≤ k ∧ k < 8 ∨ 16 ≤ k ∧ k ≤ 30) :
    Go.Sl.Fn Try.prog 69 #[.pointer (some ⟨bf, 0, none⟩), .pointer (some ⟨br, 0, none⟩)] B w0 G fun u G' => ∃ c' : Hp, u = .tuple #[] ∧ FRAt (pFields k.toNat s).1 (pFields k.toNat s).2 bf br c' ∧ G' = R c' := by
  refine Fn.sel0 hsel fun F hR hF => ?_
  have hO0 := hO
  obtain ⟨p, cg, cd, cr, rfl, hF, hr⟩ := hO
  have hb1 := short_int hb
  have hb2 := short_int hb1
  have hb3 := short_count (k := 64) (by decide) hb
  have i0 := int_in s
  have hkz : (FrM.zero k).k = k := rfl
  have hlz : (FrM.zero k).lim = 0 := rfl
  refine fn_enter Try.func69 rfl (by kernel_rfl) Try.ntmps69 (by simp) ?_
  refine cw_split4 ?_
  refine Go.Sl.cw_seq ?_
  refine Go.Sl.cw_region ?_
  refine Go.Sl.ow_val rfl rfl (Go.Sl.v_move rfl) ?_
  refine Go.Sl.ow_val rfl rfl (Go.Sl.v_nilCheck rfl) ?_
  refine Go.Sl.ow_val rfl rfl (Go.Sl.v_fieldAddr0 Ty.fd30_0 rfl) ?_
  refine Go.Sl.ow_val rfl rfl (Go.Sl.v_load rfl (Go.Sl.Var.at1 Ty.sc26 .here (Go.Sl.GetN.lit rfl))) ?_
  refine Go.Sl.ow_nil ?_
  refine Go.Sl.xw_then ?_
  refine Go.Sl.cw_block ?_
  refine Go.Sl.cw_seq ?_
  refine Go.Sl.cw_seq ?_
  refine Go.Sl.cw_region ?_
  refine Go.Sl.ow_val rfl rfl (Go.Sl.v_eql rfl rfl) ?_
  refine Go.Sl.ow_val rfl rfl (Go.Sl.v_assign rfl) ?_
  refine Go.Sl.ow_nil ?_
  refine Go.Sl.xw_then ?_
  refine Go.Sl.cw_dec rfl (fun hc9 => ?_) (fun hc9 => ?_)
  refine Go.Sl.cw_skip ?_
  refine Go.Sl.xw_then ?_
  refine Go.Sl.cw_dec rfl (fun hc9 => ?_) (fun hc9 => ?_)
  rotate_left; (exfalso; omega); rotate_right
  refine Go.Sl.cw_seq ?_
  refine Go.Sl.cw_region ?_
  refine Go.Sl.ow_val rfl rfl (Go.Sl.v_move rfl) ?_
  refine Go.Sl.ow_val rfl rfl (Go.Sl.v_move rfl) ?_
  rotate_left
  refine Go.Sl.cw_region ?_
  refine Go.Sl.ow_val rfl rfl (Go.Sl.v_eql rfl rfl) ?_
  refine Go.Sl.ow_val rfl rfl (Go.Sl.v_assign rfl) ?_
  refine Go.Sl.ow_nil ?_
  refine Go.Sl.xw_then ?_
  refine Go.Sl.cw_dec rfl (fun hc9 => ?_) (fun hc9 => ?_)
  refine Go.Sl.cw_seq ?_
  refine Go.Sl.cw_region ?_
  refine Go.Sl.ow_val rfl rfl (Go.Sl.v_move rfl) ?_
  refine Go.Sl.ow_val rfl rfl (Go.Sl.v_move rfl) ?_
  rotate_left
  refine Go.Sl.cw_seq ?_
  refine Go.Sl.cw_region ?_
  refine Go.Sl.ow_val rfl rfl (Go.Sl.v_eql rfl rfl) ?_
  refine Go.Sl.ow_val rfl rfl (Go.Sl.v_assign rfl) ?_
  refine Go.Sl.ow_nil ?_
  refine Go.Sl.xw_then ?_
  refine Go.Sl.cw_dec rfl (fun hc30 => ?_) (fun hc30 => ?_)
  refine Go.Sl.cw_region ?_
  refine Go.Sl.ow_val rfl rfl (Go.Sl.v_move rfl) ?_
  refine Go.Sl.ow_val rfl rfl (Go.Sl.v_move rfl) ?_
  refine Go.Sl.ow_val rfl rfl (Go.Sl.v_move rfl) ?_
  refine Go.Sl.ow_val rfl rfl (Go.Sl.v_move rfl) ?_
  (refine Go.Sl.ow_call rfl rfl rfl rfl (rInt_c (s := s) (by repeat (first | exact Go.Sl.Sel.here | apply Go.Sl.Sel.there)) hr hb) ?_; rintro _ _ ⟨x36, rfl, hq36, rfl⟩)
  refine Go.Sl.ow_val rfl rfl (Go.Sl.v_move rfl) ?_
  (refine Go.Sl.ow_call rfl rfl rfl rfl (rInt_c (s := (pInt s).2) (by repeat (first | exact Go.Sl.Sel.here | apply Go.Sl.Sel.there)) hq36 hb1) ?_; rintro _ _ ⟨x38, rfl, hq38, rfl⟩)
  refine Go.Sl.ow_val rfl rfl (Go.Sl.v_move rfl) ?_
  (refine Go.Sl.ow_call rfl rfl rfl rfl (rInt_c (s := (pInt (pInt s).2).2) (by repeat (first | exact Go.Sl.Sel.here | apply Go.Sl.Sel.there)) hq38 hb2) ?_; rintro _ _ ⟨x40, rfl, hq40, rfl⟩)
  refine Go.Sl.ow_val rfl rfl (Go.Sl.v_nilCheck rfl) ?_
  refine Go.Sl.ow_val rfl rfl (Go.Sl.v_fieldAddr0 Ty.fd30_1 rfl) ?_
  refine Go.Sl.ow_store1 rfl rfl rfl rfl Ty.sc22 .here (Go.Sl.SetN.one (by first | decide | exact Nat.le_of_ble_eq_true rfl)) ?_
  refine Go.Sl.ow_val rfl rfl (Go.Sl.v_nilCheck rfl) ?_
  refine Go.Sl.ow_val rfl rfl (Go.Sl.v_fieldAddr0 Ty.fd30_4 rfl) ?_
  refine Go.Sl.ow_store1 rfl rfl rfl rfl Ty.sc22 .here (Go.Sl.SetN.one (by first | decide | exact Nat.le_of_ble_eq_true rfl)) ?_
  refine Go.Sl.ow_val rfl rfl (Go.Sl.v_nilCheck rfl) ?_
  refine Go.Sl.ow_val rfl rfl (Go.Sl.v_fieldAddr0 Ty.fd30_3 rfl) ?_
  refine Go.Sl.ow_store1 rfl rfl rfl rfl Ty.sc22 .here (Go.Sl.SetN.one (by first | decide | exact Nat.le_of_ble_eq_true rfl)) ?_
  refine Go.Sl.ow_nil ?_
  refine Go.Sl.xw_block ?_
  refine Go.Sl.ret0n rfl ?_
  rotate_left
  refine Go.Sl.cw_seq ?_
  refine Go.Sl.cw_region ?_
  refine Go.Sl.ow_val rfl rfl (Go.Sl.v_eql rfl rfl) ?_
  refine Go.Sl.ow_val rfl rfl (Go.Sl.v_assign rfl) ?_
  refine Go.Sl.ow_nil ?_
  refine Go.Sl.xw_then ?_
  refine Go.Sl.cw_dec rfl (fun hc47 => ?_) (fun hc47 => ?_)
  refine Go.Sl.cw_region ?_
  refine Go.Sl.ow_val rfl rfl (Go.Sl.v_move rfl) ?_
  refine Go.Sl.ow_val rfl rfl (Go.Sl.v_move rfl) ?_
  refine Go.Sl.ow_val rfl rfl (Go.Sl.v_move rfl) ?_
  (refine Go.Sl.ow_call rfl rfl rfl rfl (rInt_c (s := s) (by repeat (first | exact Go.Sl.Sel.here | apply Go.Sl.Sel.there)) hr hb) ?_; rintro _ _ ⟨x52, rfl, hq52, rfl⟩)
  refine Go.Sl.ow_val rfl rfl (Go.Sl.v_move rfl) ?_
  (refine Go.Sl.ow_call rfl rfl rfl rfl (rInt_c (s := (pInt s).2) (by repeat (first | exact Go.Sl.Sel.here | apply Go.Sl.Sel.there)) hq52 hb1) ?_; rintro _ _ ⟨x54, rfl, hq54, rfl⟩)
  refine Go.Sl.ow_val rfl rfl (Go.Sl.v_nilCheck rfl) ?_
  refine Go.Sl.ow_val rfl rfl (Go.Sl.v_fieldAddr0 Ty.fd30_1 rfl) ?_
  refine Go.Sl.ow_store1 rfl rfl rfl rfl Ty.sc22 .here (Go.Sl.SetN.one (by first | decide | exact Nat.le_of_ble_eq_true rfl)) ?_
  refine Go.Sl.ow_val rfl rfl (Go.Sl.v_nilCheck rfl) ?_
  refine Go.Sl.ow_val rfl rfl (Go.Sl.v_fieldAddr0 Ty.fd30_4 rfl) ?_
  refine Go.Sl.ow_store1 rfl rfl rfl rfl Ty.sc22 .here (Go.Sl.SetN.one (by first | decide | exact Nat.le_of_ble_eq_true rfl)) ?_
  refine Go.Sl.ow_nil ?_
  refine Go.Sl.xw_block ?_
  refine Go.Sl.ret0n rfl ?_
  rotate_left
  refine Go.Sl.cw_seq ?_
  refine Go.Sl.cw_region ?_
  refine Go.Sl.ow_val rfl rfl (Go.Sl.v_eql rfl rfl) ?_
  refine Go.Sl.ow_val rfl rfl (Go.Sl.v_assign rfl) ?_
  refine Go.Sl.ow_nil ?_
  refine Go.Sl.xw_then ?_
  refine Go.Sl.cw_dec rfl (fun hc59 => ?_) (fun hc59 => ?_)
  refine Go.Sl.cw_seq ?_
  refine Go.Sl.cw_region ?_
  refine Go.Sl.ow_val rfl rfl (Go.Sl.v_move rfl) ?_
  refine Go.Sl.ow_val rfl rfl (Go.Sl.v_move rfl) ?_
  (refine Go.Sl.ow_call rfl rfl rfl rfl (rInt_c (s := s) (by repeat (first | exact Go.Sl.Sel.here | apply Go.Sl.Sel.there)) hr hb) ?_; rintro _ _ ⟨x63, rfl, hq63, rfl⟩)
  refine Go.Sl.ow_val rfl rfl (Go.Sl.v_nilCheck rfl) ?_
  refine Go.Sl.ow_val rfl rfl (Go.Sl.v_fieldAddr0 Ty.fd30_2 rfl) ?_
  refine Go.Sl.ow_store1 rfl rfl rfl rfl Ty.sc22 .here (Go.Sl.SetN.one (by first | decide | exact Nat.le_of_ble_eq_true rfl)) ?_
  refine Go.Sl.ow_nil ?_
  refine Go.Sl.xw_then ?_
  refine Go.Sl.cw_seq ?_
  refine Go.Sl.cw_region ?_
  refine Go.Sl.ow_val rfl rfl (Go.Sl.v_move rfl) ?_
  refine Go.Sl.ow_val rfl rfl (Go.Sl.v_move rfl) ?_
  (refine Go.Sl.ow_call rfl rfl rfl rfl (rLong_c (s := (pInt s).2) (by repeat (first | exact Go.Sl.Sel.here | apply Go.Sl.Sel.there)) hq63 hb1 (by decide)) ?_; rintro _ _ ⟨x68, rfl, hq68, rfl⟩)
  refine Go.Sl.ow_val rfl rfl (Go.Sl.v_nilCheck rfl) ?_
  refine Go.Sl.ow_val rfl rfl (Go.Sl.v_fieldAddr0 Ty.fd30_5 rfl) ?_
  refine Go.Sl.ow_store1 rfl rfl rfl rfl Ty.sc23 (.there .here) (Go.Sl.SetN.one (by first | decide | exact Nat.le_of_ble_eq_true rfl)) ?_
  refine Go.Sl.ow_nil ?_
  refine Go.Sl.xw_then ?_
  refine Go.Sl.cw_region ?_
  refine Go.Sl.ow_val rfl rfl (Go.Sl.v_move rfl) ?_
  refine Go.Sl.ow_val rfl rfl (Go.Sl.v_move rfl) ?_
  rotate_left
  refine Go.Sl.cw_seq ?_
  refine Go.Sl.cw_region ?_
  refine Go.Sl.ow_val rfl rfl (Go.Sl.v_eql rfl rfl) ?_
  refine Go.Sl.ow_val rfl rfl (Go.Sl.v_assign rfl) ?_
  refine Go.Sl.ow_nil ?_
  refine Go.Sl.xw_then ?_
  refine Go.Sl.cw_dec rfl (fun hc74 => ?_) (fun hc74 => ?_)
  refine Go.Sl.cw_seq ?_
  refine Go.Sl.cw_region ?_
  refine Go.Sl.ow_val rfl rfl (Go.Sl.v_move rfl) ?_
  (refine Go.Sl.ow_call rfl rfl rfl rfl (rCount_c (s := s) (by repeat (first | exact Go.Sl.Sel.here | apply Go.Sl.Sel.there)) hr hb (by decide)) ?_; rintro _ _ ⟨x77, rfl, hq77, rfl⟩)
  refine Go.Sl.ow_val rfl rfl (Go.Sl.v_assign rfl) ?_
  refine Go.Sl.ow_nil ?_
  refine Go.Sl.xw_then ?_
  refine Go.Sl.cw_seq ?_
  refine Go.Sl.cw_seq ?_
  refine Go.Sl.cw_region ?_
  refine Go.Sl.ow_val rfl rfl (Go.Sl.v_move rfl) ?_
  refine Go.Sl.ow_val rfl rfl (Go.Sl.v_eql rfl rfl) ?_
  refine Go.Sl.ow_nil ?_
  refine Go.Sl.xw_then ?_
  refine Go.Sl.cw_dec rfl (fun hc79 => ?_) (fun hc79 => ?_)
  refine Go.Sl.cw_region ?_
  refine Go.Sl.ow_val rfl rfl (Go.Sl.v_move rfl) ?_
  (refine Go.Sl.ow_call rfl rfl rfl rfl (rFail_c (s := (pCount 64 s).2) (k := 6) (by repeat (first | exact Go.Sl.Sel.here | apply Go.Sl.Sel.there)) hq77) ?_; rintro _ _ ⟨x81, rfl, hq81, rfl⟩)
  refine Go.Sl.ow_nil ?_
  refine Go.Sl.xw_then ?_
  refine Go.Sl.cw_region ?_
  refine Go.Sl.ow_val rfl rfl (Go.Sl.v_move rfl) ?_
  refine Go.Sl.ow_val rfl rfl (Go.Sl.v_move rfl) ?_
  refine Go.Sl.ow_val rfl rfl (Go.Sl.v_move rfl) ?_
  (refine Go.Sl.ow_call rfl rfl rfl rfl (rBytes_c (s := failM 6 (pCount 64 s).2) (by repeat (first | exact Go.Sl.Sel.here | apply Go.Sl.Sel.there)) hq81 (short_fail hb3)) ?_; rintro _ _ ⟨x85, rfl, hq85, rfl⟩)
  refine Go.Sl.ow_val rfl rfl (Go.Sl.v_nilCheck rfl) ?_
  refine Go.Sl.ow_val rfl rfl (Go.Sl.v_fieldAddr0 Ty.fd30_5 rfl) ?_
  refine Go.Sl.ow_store1 rfl rfl rfl rfl Ty.sc23 (.there .here) (Go.Sl.SetN.one (by first | decide | exact Nat.le_of_ble_eq_true rfl)) ?_
  refine Go.Sl.ow_nil ?_
  refine Go.Sl.xw_block ?_
  refine Go.Sl.ret0n rfl ?_
  rotate_left
  refine Go.Sl.cw_skip ?_
  refine Go.Sl.xw_then ?_
  refine Go.Sl.cw_region ?_
  refine Go.Sl.ow_val rfl rfl (Go.Sl.v_move rfl) ?_
  refine Go.Sl.ow_val rfl rfl (Go.Sl.v_move rfl) ?_
  refine Go.Sl.ow_val rfl rfl (Go.Sl.v_move rfl) ?_
  (refine Go.Sl.ow_call rfl rfl rfl rfl (rBytes_c (s := (pCount 64 s).2) (by repeat (first | exact Go.Sl.Sel.here | apply Go.Sl.Sel.there)) hq77 hb3) ?_; rintro _ _ ⟨x85, rfl, hq85, rfl⟩)
  refine Go.Sl.ow_val rfl rfl (Go.Sl.v_nilCheck rfl) ?_
  refine Go.Sl.ow_val rfl rfl (Go.Sl.v_fieldAddr0 Ty.fd30_5 rfl) ?_
  refine Go.Sl.ow_store1 rfl rfl rfl rfl Ty.sc23 (.there .here) (Go.Sl.SetN.one (by first | decide | exact Nat.le_of_ble_eq_true rfl)) ?_
  refine Go.Sl.ow_nil ?_
  refine Go.Sl.xw_block ?_
  refine Go.Sl.ret0n rfl ?_
  rotate_left
  refine Go.Sl.cw_seq ?_
  refine Go.Sl.cw_seq ?_
  refine Go.Sl.cw_region ?_
  refine Go.Sl.ow_val rfl rfl (Go.Sl.v_eql rfl rfl) ?_
  refine Go.Sl.ow_val rfl rfl (Go.Sl.v_assign rfl) ?_
  refine Go.Sl.ow_nil ?_
  refine Go.Sl.xw_then ?_
  refine Go.Sl.cw_dec rfl (fun hc88 => ?_) (fun hc88 => ?_)
  refine Go.Sl.cw_skip ?_
  refine Go.Sl.xw_then ?_
  refine Go.Sl.cw_dec rfl (fun hc88 => ?_) (fun hc88 => ?_)
  rotate_left; (exfalso; omega); rotate_right
  refine Go.Sl.cw_region ?_
  refine Go.Sl.ow_val rfl rfl (Go.Sl.v_move rfl) ?_
  refine Go.Sl.ow_val rfl rfl (Go.Sl.v_move rfl) ?_
  (refine Go.Sl.ow_call rfl rfl rfl rfl (rInt_c (s := s) (by repeat (first | exact Go.Sl.Sel.here | apply Go.Sl.Sel.there)) hr hb) ?_; rintro _ _ ⟨x93, rfl, hq93, rfl⟩)
  refine Go.Sl.ow_val rfl rfl (Go.Sl.v_nilCheck rfl) ?_
  refine Go.Sl.ow_val rfl rfl (Go.Sl.v_fieldAddr0 Ty.fd30_3 rfl) ?_
  refine Go.Sl.ow_store1 rfl rfl rfl rfl Ty.sc22 .here (Go.Sl.SetN.one (by first | decide | exact Nat.le_of_ble_eq_true rfl)) ?_
  refine Go.Sl.ow_nil ?_
  refine Go.Sl.xw_block ?_
  refine Go.Sl.ret0n rfl ?_
  rotate_left
  refine Go.Sl.cw_region ?_
  refine Go.Sl.ow_val rfl rfl (Go.Sl.v_eql rfl rfl) ?_
  refine Go.Sl.ow_val rfl rfl (Go.Sl.v_assign rfl) ?_
  refine Go.Sl.ow_nil ?_
  refine Go.Sl.xw_then ?_
  refine Go.Sl.cw_dec rfl (fun hc88 => ?_) (fun hc88 => ?_)
  refine Go.Sl.cw_region ?_
  refine Go.Sl.ow_val rfl rfl (Go.Sl.v_move rfl) ?_
  refine Go.Sl.ow_val rfl rfl (Go.Sl.v_move rfl) ?_
  (refine Go.Sl.ow_call rfl rfl rfl rfl (rInt_c (s := s) (by repeat (first | exact Go.Sl.Sel.here | apply Go.Sl.Sel.there)) hr hb) ?_; rintro _ _ ⟨x93, rfl, hq93, rfl⟩)
  refine Go.Sl.ow_val rfl rfl (Go.Sl.v_nilCheck rfl) ?_
  refine Go.Sl.ow_val rfl rfl (Go.Sl.v_fieldAddr0 Ty.fd30_3 rfl) ?_
  refine Go.Sl.ow_store1 rfl rfl rfl rfl Ty.sc22 .here (Go.Sl.SetN.one (by first | decide | exact Nat.le_of_ble_eq_true rfl)) ?_
  refine Go.Sl.ow_nil ?_
  refine Go.Sl.xw_block ?_
  refine Go.Sl.ret0n rfl ?_
  rotate_left
  refine Go.Sl.cw_seq ?_
  refine Go.Sl.cw_seq ?_
  refine Go.Sl.cw_region ?_
  refine Go.Sl.ow_val rfl rfl (Go.Sl.v_eql rfl rfl) ?_
  refine Go.Sl.ow_val rfl rfl (Go.Sl.v_assign rfl) ?_
  refine Go.Sl.ow_nil ?_
  refine Go.Sl.xw_then ?_
  refine Go.Sl.cw_dec rfl (fun hc96 => ?_) (fun hc96 => ?_)
  refine Go.Sl.cw_skip ?_
  refine Go.Sl.xw_then ?_
  refine Go.Sl.cw_dec rfl (fun hc96 => ?_) (fun hc96 => ?_)
  rotate_left; (exfalso; omega); rotate_right
  refine Go.Sl.cw_seq ?_
  refine Go.Sl.cw_region ?_
  refine Go.Sl.ow_val rfl rfl (Go.Sl.v_move rfl) ?_
  refine Go.Sl.ow_val rfl rfl (Go.Sl.v_move rfl) ?_
  (refine Go.Sl.ow_call rfl rfl rfl rfl (rInt_c (s := s) (by repeat (first | exact Go.Sl.Sel.here | apply Go.Sl.Sel.there)) hr hb) ?_; rintro _ _ ⟨x103, rfl, hq103, rfl⟩)
  refine Go.Sl.ow_val rfl rfl (Go.Sl.v_nilCheck rfl) ?_
  refine Go.Sl.ow_val rfl rfl (Go.Sl.v_fieldAddr0 Ty.fd30_3 rfl) ?_
  refine Go.Sl.ow_store1 rfl rfl rfl rfl Ty.sc22 .here (Go.Sl.SetN.one (by first | decide | exact Nat.le_of_ble_eq_true rfl)) ?_
  refine Go.Sl.ow_nil ?_
  refine Go.Sl.xw_then ?_
  refine Go.Sl.cw_seq ?_
  refine Go.Sl.cw_region ?_
  refine Go.Sl.ow_val rfl rfl (Go.Sl.v_move rfl) ?_
  refine Go.Sl.ow_val rfl rfl (Go.Sl.v_nilCheck rfl) ?_
  refine Go.Sl.ow_val rfl rfl (Go.Sl.v_fieldAddr0 Ty.fd30_3 rfl) ?_
  refine Go.Sl.ow_val rfl rfl (Go.Sl.v_load rfl (Go.Sl.Var.at1 Ty.sc22 .here (Go.Sl.GetN.lit rfl))) ?_
  refine Go.Sl.ow_val rfl rfl (Go.Sl.v_gtr rfl rfl) ?_
  refine Go.Sl.ow_nil ?_
  refine Go.Sl.xw_then ?_
  refine Go.Sl.cw_dec rfl (fun hc110 => ?_) (fun hc110 => ?_)
  refine Go.Sl.cw_region ?_
  refine Go.Sl.ow_val rfl rfl (Go.Sl.v_move rfl) ?_
  (refine Go.Sl.ow_call rfl rfl rfl rfl (rFail_c (s := (pInt s).2) (k := 15) (by repeat (first | exact Go.Sl.Sel.here | apply Go.Sl.Sel.there)) hq103) ?_; rintro _ _ ⟨x112, rfl, hq112, rfl⟩)
  refine Go.Sl.ow_nil ?_
  refine Go.Sl.xw_block ?_
  refine Go.Sl.ret0n rfl ?_
  rotate_left
  refine Go.Sl.cw_skip ?_
  refine Go.Sl.xw_block ?_
  refine Go.Sl.ret0n rfl ?_
  rotate_left
  refine Go.Sl.cw_seq ?_
  refine Go.Sl.cw_region ?_
  refine Go.Sl.ow_val rfl rfl (Go.Sl.v_eql rfl rfl) ?_
  refine Go.Sl.ow_val rfl rfl (Go.Sl.v_assign rfl) ?_
  refine Go.Sl.ow_nil ?_
  refine Go.Sl.xw_then ?_
  refine Go.Sl.cw_dec rfl (fun hc96 => ?_) (fun hc96 => ?_)
  refine Go.Sl.cw_skip ?_
  refine Go.Sl.xw_then ?_
  refine Go.Sl.cw_dec rfl (fun hc96 => ?_) (fun hc96 => ?_)
  rotate_left; (exfalso; omega); rotate_right
  refine Go.Sl.cw_seq ?_
  refine Go.Sl.cw_region ?_
  refine Go.Sl.ow_val rfl rfl (Go.Sl.v_move rfl) ?_
  refine Go.Sl.ow_val rfl rfl (Go.Sl.v_move rfl) ?_
  (refine Go.Sl.ow_call rfl rfl rfl rfl (rInt_c (s := s) (by repeat (first | exact Go.Sl.Sel.here | apply Go.Sl.Sel.there)) hr hb) ?_; rintro _ _ ⟨x103, rfl, hq103, rfl⟩)
  refine Go.Sl.ow_val rfl rfl (Go.Sl.v_nilCheck rfl) ?_
  refine Go.Sl.ow_val rfl rfl (Go.Sl.v_fieldAddr0 Ty.fd30_3 rfl) ?_
  refine Go.Sl.ow_store1 rfl rfl rfl rfl Ty.sc22 .here (Go.Sl.SetN.one (by first | decide | exact Nat.le_of_ble_eq_true rfl)) ?_
  refine Go.Sl.ow_nil ?_
  refine Go.Sl.xw_then ?_
  refine Go.Sl.cw_seq ?_
  refine Go.Sl.cw_region ?_
  refine Go.Sl.ow_val rfl rfl (Go.Sl.v_move rfl) ?_
  refine Go.Sl.ow_val rfl rfl (Go.Sl.v_nilCheck rfl) ?_
  refine Go.Sl.ow_val rfl rfl (Go.Sl.v_fieldAddr0 Ty.fd30_3 rfl) ?_
  refine Go.Sl.ow_val rfl rfl (Go.Sl.v_load rfl (Go.Sl.Var.at1 Ty.sc22 .here (Go.Sl.GetN.lit rfl))) ?_
  refine Go.Sl.ow_val rfl rfl (Go.Sl.v_gtr rfl rfl) ?_
  refine Go.Sl.ow_nil ?_
  refine Go.Sl.xw_then ?_
  refine Go.Sl.cw_dec rfl (fun hc110 => ?_) (fun hc110 => ?_)
  refine Go.Sl.cw_region ?_
  refine Go.Sl.ow_val rfl rfl (Go.Sl.v_move rfl) ?_
  (refine Go.Sl.ow_call rfl rfl rfl rfl (rFail_c (s := (pInt s).2) (k := 15) (by repeat (first | exact Go.Sl.Sel.here | apply Go.Sl.Sel.there)) hq103) ?_; rintro _ _ ⟨x112, rfl, hq112, rfl⟩)
  refine Go.Sl.ow_nil ?_
  refine Go.Sl.xw_block ?_
  refine Go.Sl.ret0n rfl ?_
  rotate_left
  refine Go.Sl.cw_skip ?_
  refine Go.Sl.xw_block ?_
  refine Go.Sl.ret0n rfl ?_
  rotate_left
  refine Go.Sl.cw_seq ?_
  refine Go.Sl.cw_region ?_
  refine Go.Sl.ow_val rfl rfl (Go.Sl.v_eql rfl rfl) ?_
  refine Go.Sl.ow_val rfl rfl (Go.Sl.v_assign rfl) ?_
  refine Go.Sl.ow_nil ?_
  refine Go.Sl.xw_then ?_
  refine Go.Sl.cw_dec rfl (fun hc96 => ?_) (fun hc96 => ?_)
  refine Go.Sl.cw_skip ?_
  refine Go.Sl.xw_then ?_
  refine Go.Sl.cw_dec rfl (fun hc96 => ?_) (fun hc96 => ?_)
  rotate_left; (exfalso; omega); rotate_right
  refine Go.Sl.cw_seq ?_
  refine Go.Sl.cw_region ?_
  refine Go.Sl.ow_val rfl rfl (Go.Sl.v_move rfl) ?_
  refine Go.Sl.ow_val rfl rfl (Go.Sl.v_move rfl) ?_
  (refine Go.Sl.ow_call rfl rfl rfl rfl (rInt_c (s := s) (by repeat (first | exact Go.Sl.Sel.here | apply Go.Sl.Sel.there)) hr hb) ?_; rintro _ _ ⟨x103, rfl, hq103, rfl⟩)
  refine Go.Sl.ow_val rfl rfl (Go.Sl.v_nilCheck rfl) ?_
  refine Go.Sl.ow_val rfl rfl (Go.Sl.v_fieldAddr0 Ty.fd30_3 rfl) ?_
  refine Go.Sl.ow_store1 rfl rfl rfl rfl Ty.sc22 .here (Go.Sl.SetN.one (by first | decide | exact Nat.le_of_ble_eq_true rfl)) ?_
  refine Go.Sl.ow_nil ?_
  refine Go.Sl.xw_then ?_
  refine Go.Sl.cw_seq ?_
  refine Go.Sl.cw_region ?_
  refine Go.Sl.ow_val rfl rfl (Go.Sl.v_move rfl) ?_
  refine Go.Sl.ow_val rfl rfl (Go.Sl.v_nilCheck rfl) ?_
  refine Go.Sl.ow_val rfl rfl (Go.Sl.v_fieldAddr0 Ty.fd30_3 rfl) ?_
  refine Go.Sl.ow_val rfl rfl (Go.Sl.v_load rfl (Go.Sl.Var.at1 Ty.sc22 .here (Go.Sl.GetN.lit rfl))) ?_
  refine Go.Sl.ow_val rfl rfl (Go.Sl.v_gtr rfl rfl) ?_
  refine Go.Sl.ow_nil ?_
  refine Go.Sl.xw_then ?_
  refine Go.Sl.cw_dec rfl (fun hc110 => ?_) (fun hc110 => ?_)
  refine Go.Sl.cw_region ?_
  refine Go.Sl.ow_val rfl rfl (Go.Sl.v_move rfl) ?_
  (refine Go.Sl.ow_call rfl rfl rfl rfl (rFail_c (s := (pInt s).2) (k := 15) (by repeat (first | exact Go.Sl.Sel.here | apply Go.Sl.Sel.there)) hq103) ?_; rintro _ _ ⟨x112, rfl, hq112, rfl⟩)
  refine Go.Sl.ow_nil ?_
  refine Go.Sl.xw_block ?_
  refine Go.Sl.ret0n rfl ?_
  rotate_left
  refine Go.Sl.cw_skip ?_
  refine Go.Sl.xw_block ?_
  refine Go.Sl.ret0n rfl ?_
  rotate_left
  refine Go.Sl.cw_region ?_
  refine Go.Sl.ow_val rfl rfl (Go.Sl.v_eql rfl rfl) ?_
  refine Go.Sl.ow_val rfl rfl (Go.Sl.v_assign rfl) ?_
  refine Go.Sl.ow_nil ?_
  refine Go.Sl.xw_then ?_
  refine Go.Sl.cw_dec rfl (fun hc96 => ?_) (fun hc96 => ?_)
  refine Go.Sl.cw_seq ?_
  refine Go.Sl.cw_region ?_
  refine Go.Sl.ow_val rfl rfl (Go.Sl.v_move rfl) ?_
  refine Go.Sl.ow_val rfl rfl (Go.Sl.v_move rfl) ?_
  (refine Go.Sl.ow_call rfl rfl rfl rfl (rInt_c (s := s) (by repeat (first | exact Go.Sl.Sel.here | apply Go.Sl.Sel.there)) hr hb) ?_; rintro _ _ ⟨x103, rfl, hq103, rfl⟩)
  refine Go.Sl.ow_val rfl rfl (Go.Sl.v_nilCheck rfl) ?_
  refine Go.Sl.ow_val rfl rfl (Go.Sl.v_fieldAddr0 Ty.fd30_3 rfl) ?_
  refine Go.Sl.ow_store1 rfl rfl rfl rfl Ty.sc22 .here (Go.Sl.SetN.one (by first | decide | exact Nat.le_of_ble_eq_true rfl)) ?_
  refine Go.Sl.ow_nil ?_
  refine Go.Sl.xw_then ?_
  refine Go.Sl.cw_seq ?_
  refine Go.Sl.cw_region ?_
  refine Go.Sl.ow_val rfl rfl (Go.Sl.v_move rfl) ?_
  refine Go.Sl.ow_val rfl rfl (Go.Sl.v_nilCheck rfl) ?_
  refine Go.Sl.ow_val rfl rfl (Go.Sl.v_fieldAddr0 Ty.fd30_3 rfl) ?_
  refine Go.Sl.ow_val rfl rfl (Go.Sl.v_load rfl (Go.Sl.Var.at1 Ty.sc22 .here (Go.Sl.GetN.lit rfl))) ?_
  refine Go.Sl.ow_val rfl rfl (Go.Sl.v_gtr rfl rfl) ?_
  refine Go.Sl.ow_nil ?_
  refine Go.Sl.xw_then ?_
  refine Go.Sl.cw_dec rfl (fun hc110 => ?_) (fun hc110 => ?_)
  refine Go.Sl.cw_region ?_
  refine Go.Sl.ow_val rfl rfl (Go.Sl.v_move rfl) ?_
  (refine Go.Sl.ow_call rfl rfl rfl rfl (rFail_c (s := (pInt s).2) (k := 15) (by repeat (first | exact Go.Sl.Sel.here | apply Go.Sl.Sel.there)) hq103) ?_; rintro _ _ ⟨x112, rfl, hq112, rfl⟩)
  refine Go.Sl.ow_nil ?_
  refine Go.Sl.xw_block ?_
  refine Go.Sl.ret0n rfl ?_
  rotate_left
  refine Go.Sl.cw_skip ?_
  refine Go.Sl.xw_block ?_
  refine Go.Sl.ret0n rfl ?_
  rotate_left
  refine Go.Sl.cw_seq ?_
  refine Go.Sl.cw_seq ?_
  refine Go.Sl.cw_region ?_
  refine Go.Sl.ow_val rfl rfl (Go.Sl.v_eql rfl rfl) ?_
  refine Go.Sl.ow_val rfl rfl (Go.Sl.v_assign rfl) ?_
  refine Go.Sl.ow_nil ?_
  refine Go.Sl.xw_then ?_
  refine Go.Sl.cw_dec rfl (fun hc113 => ?_) (fun hc113 => ?_)
  refine Go.Sl.cw_skip ?_
  refine Go.Sl.xw_then ?_
  refine Go.Sl.cw_dec rfl (fun hc113 => ?_) (fun hc113 => ?_)
  rotate_left; (exfalso; omega); rotate_right
  refine Go.Sl.cw_region ?_
  refine Go.Sl.ow_val rfl rfl (Go.Sl.v_move rfl) ?_
  refine Go.Sl.ow_val rfl rfl (Go.Sl.v_move rfl) ?_
  refine Go.Sl.ow_val rfl rfl (Go.Sl.v_move rfl) ?_
  (refine Go.Sl.ow_call rfl rfl rfl rfl (rInt_c (s := s) (by repeat (first | exact Go.Sl.Sel.here | apply Go.Sl.Sel.there)) hr hb) ?_; rintro _ _ ⟨x119, rfl, hq119, rfl⟩)
  refine Go.Sl.ow_val rfl rfl (Go.Sl.v_move rfl) ?_
  (refine Go.Sl.ow_call rfl rfl rfl rfl (rInt_c (s := (pInt s).2) (by repeat (first | exact Go.Sl.Sel.here | apply Go.Sl.Sel.there)) hq119 hb1) ?_; rintro _ _ ⟨x121, rfl, hq121, rfl⟩)
  refine Go.Sl.ow_val rfl rfl (Go.Sl.v_nilCheck rfl) ?_
  refine Go.Sl.ow_val rfl rfl (Go.Sl.v_fieldAddr0 Ty.fd30_1 rfl) ?_
  refine Go.Sl.ow_store1 rfl rfl rfl rfl Ty.sc22 .here (Go.Sl.SetN.one (by first | decide | exact Nat.le_of_ble_eq_true rfl)) ?_
  refine Go.Sl.ow_val rfl rfl (Go.Sl.v_nilCheck rfl) ?_
  refine Go.Sl.ow_val rfl rfl (Go.Sl.v_fieldAddr0 Ty.fd30_3 rfl) ?_
  refine Go.Sl.ow_store1 rfl rfl rfl rfl Ty.sc22 .here (Go.Sl.SetN.one (by first | decide | exact Nat.le_of_ble_eq_true rfl)) ?_
  refine Go.Sl.ow_nil ?_
  refine Go.Sl.xw_block ?_
  refine Go.Sl.ret0n rfl ?_
  rotate_left
  refine Go.Sl.cw_region ?_
  refine Go.Sl.ow_val rfl rfl (Go.Sl.v_eql rfl rfl) ?_
  refine Go.Sl.ow_val rfl rfl (Go.Sl.v_assign rfl) ?_
  refine Go.Sl.ow_nil ?_
  refine Go.Sl.xw_then ?_
  refine Go.Sl.cw_dec rfl (fun hc113 => ?_) (fun hc113 => ?_)
  refine Go.Sl.cw_region ?_
  refine Go.Sl.ow_val rfl rfl (Go.Sl.v_move rfl) ?_
  refine Go.Sl.ow_val rfl rfl (Go.Sl.v_move rfl) ?_
  refine Go.Sl.ow_val rfl rfl (Go.Sl.v_move rfl) ?_
  (refine Go.Sl.ow_call rfl rfl rfl rfl (rInt_c (s := s) (by repeat (first | exact Go.Sl.Sel.here | apply Go.Sl.Sel.there)) hr hb) ?_; rintro _ _ ⟨x119, rfl, hq119, rfl⟩)
  refine Go.Sl.ow_val rfl rfl (Go.Sl.v_move rfl) ?_
  (refine Go.Sl.ow_call rfl rfl rfl rfl (rInt_c (s := (pInt s).2) (by repeat (first | exact Go.Sl.Sel.here | apply Go.Sl.Sel.there)) hq119 hb1) ?_; rintro _ _ ⟨x121, rfl, hq121, rfl⟩)
  refine Go.Sl.ow_val rfl rfl (Go.Sl.v_nilCheck rfl) ?_
  refine Go.Sl.ow_val rfl rfl (Go.Sl.v_fieldAddr0 Ty.fd30_1 rfl) ?_
  refine Go.Sl.ow_store1 rfl rfl rfl rfl Ty.sc22 .here (Go.Sl.SetN.one (by first | decide | exact Nat.le_of_ble_eq_true rfl)) ?_
  refine Go.Sl.ow_val rfl rfl (Go.Sl.v_nilCheck rfl) ?_
  refine Go.Sl.ow_val rfl rfl (Go.Sl.v_fieldAddr0 Ty.fd30_3 rfl) ?_
  refine Go.Sl.ow_store1 rfl rfl rfl rfl Ty.sc22 .here (Go.Sl.SetN.one (by first | decide | exact Nat.le_of_ble_eq_true rfl)) ?_
  refine Go.Sl.ow_nil ?_
  refine Go.Sl.xw_block ?_
  refine Go.Sl.ret0n rfl ?_
  rotate_left
  refine Go.Sl.cw_seq ?_
  refine Go.Sl.cw_region ?_
  refine Go.Sl.ow_val rfl rfl (Go.Sl.v_eql rfl rfl) ?_
  refine Go.Sl.ow_val rfl rfl (Go.Sl.v_assign rfl) ?_
  refine Go.Sl.ow_nil ?_
  refine Go.Sl.xw_then ?_
  refine Go.Sl.cw_dec rfl (fun hc126 => ?_) (fun hc126 => ?_)
  refine Go.Sl.cw_region ?_
  refine Go.Sl.ow_val rfl rfl (Go.Sl.v_move rfl) ?_
  refine Go.Sl.ow_val rfl rfl (Go.Sl.v_move rfl) ?_
  rotate_left
  refine Go.Sl.cw_seq ?_
  refine Go.Sl.cw_region ?_
  refine Go.Sl.ow_val rfl rfl (Go.Sl.v_eql rfl rfl) ?_
  refine Go.Sl.ow_val rfl rfl (Go.Sl.v_assign rfl) ?_
  refine Go.Sl.ow_nil ?_
  refine Go.Sl.xw_then ?_
  refine Go.Sl.cw_dec rfl (fun hc131 => ?_) (fun hc131 => ?_)
  refine Go.Sl.cw_region ?_
  refine Go.Sl.ow_val rfl rfl (Go.Sl.v_move rfl) ?_
  refine Go.Sl.ow_val rfl rfl (Go.Sl.v_move rfl) ?_
  (refine Go.Sl.ow_call rfl rfl rfl rfl (rInt_c (s := s) (by repeat (first | exact Go.Sl.Sel.here | apply Go.Sl.Sel.there)) hr hb) ?_; rintro _ _ ⟨x135, rfl, hq135, rfl⟩)
  refine Go.Sl.ow_val rfl rfl (Go.Sl.v_nilCheck rfl) ?_
  refine Go.Sl.ow_val rfl rfl (Go.Sl.v_fieldAddr0 Ty.fd30_10 rfl) ?_
  refine Go.Sl.ow_store1 rfl rfl rfl rfl Ty.sc22 .here (Go.Sl.SetN.one (by first | decide | exact Nat.le_of_ble_eq_true rfl)) ?_
  refine Go.Sl.ow_nil ?_
  refine Go.Sl.xw_block ?_
  refine Go.Sl.ret0n rfl ?_
  rotate_left
  refine Go.Sl.cw_seq ?_
  refine Go.Sl.cw_seq ?_
  refine Go.Sl.cw_region ?_
  refine Go.Sl.ow_val rfl rfl (Go.Sl.v_eql rfl rfl) ?_
  refine Go.Sl.ow_val rfl rfl (Go.Sl.v_assign rfl) ?_
  refine Go.Sl.ow_nil ?_
  refine Go.Sl.xw_then ?_
  refine Go.Sl.cw_dec rfl (fun hc138 => ?_) (fun hc138 => ?_)
  refine Go.Sl.cw_skip ?_
  refine Go.Sl.xw_then ?_
  refine Go.Sl.cw_dec rfl (fun hc138 => ?_) (fun hc138 => ?_)
  rotate_left; (exfalso; omega); rotate_right
  refine Go.Sl.cw_mix [] [5, 6] [0, 1, 2, 3, 4] Ty.mixed rfl rfl rfl rfl (by decide +kernel) ?_
  refine Go.Sl.hw_pure rfl rfl (Go.Sl.v_move rfl) rfl ?_
  refine Go.Sl.hw_pure rfl rfl (Go.Sl.v_nilCheck rfl) rfl ?_
  refine Go.Sl.hw_pure rfl rfl (Go.Sl.v_fieldAddr0 Ty.fd30_14 rfl) rfl ?_
  refine Go.Sl.hw_pure rfl rfl (Go.Sl.v_sliceA_nn Try.underlying24 Ty.el24 rfl) rfl ?_
  refine Go.Sl.hw_pure rfl rfl (Go.Sl.v_move rfl) rfl ?_
  refine Go.Sl.hw_nil ?_
  refine Go.Sl.sw_nil ?_
  (refine Go.Sl.ow_call rfl rfl rfl rfl (rBytes_c (s := s) (by repeat (first | exact Go.Sl.Sel.here | apply Go.Sl.Sel.there)) hr hb) ?_; rintro _ _ ⟨x146, rfl, hq146, rfl⟩)
  rotate_left
  refine Go.Sl.cw_region ?_
  refine Go.Sl.ow_val rfl rfl (Go.Sl.v_eql rfl rfl) ?_
  refine Go.Sl.ow_val rfl rfl (Go.Sl.v_assign rfl) ?_
  refine Go.Sl.ow_nil ?_
  refine Go.Sl.xw_then ?_
  refine Go.Sl.cw_dec rfl (fun hc138 => ?_) (fun hc138 => ?_)
  refine Go.Sl.cw_mix [] [5, 6] [0, 1, 2, 3, 4] Ty.mixed rfl rfl rfl rfl (by decide +kernel) ?_
  refine Go.Sl.hw_pure rfl rfl (Go.Sl.v_move rfl) rfl ?_
  refine Go.Sl.hw_pure rfl rfl (Go.Sl.v_nilCheck rfl) rfl ?_
  refine Go.Sl.hw_pure rfl rfl (Go.Sl.v_fieldAddr0 Ty.fd30_14 rfl) rfl ?_
  refine Go.Sl.hw_pure rfl rfl (Go.Sl.v_sliceA_nn Try.underlying24 Ty.el24 rfl) rfl ?_
  refine Go.Sl.hw_pure rfl rfl (Go.Sl.v_move rfl) rfl ?_
  refine Go.Sl.hw_nil ?_
  refine Go.Sl.sw_nil ?_
  (refine Go.Sl.ow_call rfl rfl rfl rfl (rBytes_c (s := s) (by repeat (first | exact Go.Sl.Sel.here | apply Go.Sl.Sel.there)) hr hb) ?_; rintro _ _ ⟨x146, rfl, hq146, rfl⟩)
  rotate_left
  refine Go.Sl.cw_seq ?_
  refine Go.Sl.cw_region ?_
  refine Go.Sl.ow_val rfl rfl (Go.Sl.v_eql rfl rfl) ?_
  refine Go.Sl.ow_val rfl rfl (Go.Sl.v_assign rfl) ?_
  refine Go.Sl.ow_nil ?_
  refine Go.Sl.xw_then ?_
  refine Go.Sl.cw_dec rfl (fun hc148 => ?_) (fun hc148 => ?_)
  refine Go.Sl.cw_seq ?_
  refine Go.Sl.cw_region ?_
  refine Go.Sl.ow_val rfl rfl (Go.Sl.v_move rfl) ?_
  refine Go.Sl.ow_val rfl rfl (Go.Sl.v_move rfl) ?_
  refine Go.Sl.ow_val rfl rfl (Go.Sl.v_move rfl) ?_
  (refine Go.Sl.ow_call rfl rfl rfl rfl (rInt_c (s := s) (by repeat (first | exact Go.Sl.Sel.here | apply Go.Sl.Sel.there)) hr hb) ?_; rintro _ _ ⟨x153, rfl, hq153, rfl⟩)
  refine Go.Sl.ow_val rfl rfl (Go.Sl.v_move rfl) ?_
  (refine Go.Sl.ow_call rfl rfl rfl rfl (rInt_c (s := (pInt s).2) (by repeat (first | exact Go.Sl.Sel.here | apply Go.Sl.Sel.there)) hq153 hb1) ?_; rintro _ _ ⟨x155, rfl, hq155, rfl⟩)
  refine Go.Sl.ow_val rfl rfl (Go.Sl.v_nilCheck rfl) ?_
  refine Go.Sl.ow_val rfl rfl (Go.Sl.v_fieldAddr0 Ty.fd30_4 rfl) ?_
  refine Go.Sl.ow_store1 rfl rfl rfl rfl Ty.sc22 .here (Go.Sl.SetN.one (by first | decide | exact Nat.le_of_ble_eq_true rfl)) ?_
  refine Go.Sl.ow_val rfl rfl (Go.Sl.v_nilCheck rfl) ?_
  refine Go.Sl.ow_val rfl rfl (Go.Sl.v_fieldAddr0 Ty.fd30_3 rfl) ?_
  refine Go.Sl.ow_store1 rfl rfl rfl rfl Ty.sc22 .here (Go.Sl.SetN.one (by first | decide | exact Nat.le_of_ble_eq_true rfl)) ?_
  refine Go.Sl.ow_nil ?_
  refine Go.Sl.xw_then ?_
  refine Go.Sl.cw_region ?_
  refine Go.Sl.ow_val rfl rfl (Go.Sl.v_move rfl) ?_
  refine Go.Sl.ow_val rfl rfl (Go.Sl.v_move rfl) ?_
  (refine Go.Sl.ow_call rfl rfl rfl rfl (rLong_c (s := (pInt (pInt s).2).2) (by repeat (first | exact Go.Sl.Sel.here | apply Go.Sl.Sel.there)) hq155 hb2 (by decide)) ?_; rintro _ _ ⟨x162, rfl, hq162, rfl⟩)
  refine Go.Sl.ow_val rfl rfl (Go.Sl.v_nilCheck rfl) ?_
  refine Go.Sl.ow_val rfl rfl (Go.Sl.v_fieldAddr0 Ty.fd30_5 rfl) ?_
  refine Go.Sl.ow_store1 rfl rfl rfl rfl Ty.sc23 (.there .here) (Go.Sl.SetN.one (by first | decide | exact Nat.le_of_ble_eq_true rfl)) ?_
  refine Go.Sl.ow_nil ?_
  refine Go.Sl.xw_block ?_
  refine Go.Sl.ret0n rfl ?_
  rotate_left
  refine Go.Sl.cw_seq ?_
  refine Go.Sl.cw_region ?_
  refine Go.Sl.ow_val rfl rfl (Go.Sl.v_eql rfl rfl) ?_
  refine Go.Sl.ow_val rfl rfl (Go.Sl.v_assign rfl) ?_
  refine Go.Sl.ow_nil ?_
  refine Go.Sl.xw_then ?_
  refine Go.Sl.cw_dec rfl (fun hc165 => ?_) (fun hc165 => ?_)
  refine Go.Sl.cw_seq ?_
  refine Go.Sl.cw_region ?_
  refine Go.Sl.ow_val rfl rfl (Go.Sl.v_move rfl) ?_
  refine Go.Sl.ow_val rfl rfl (Go.Sl.v_move rfl) ?_
  (refine Go.Sl.ow_call rfl rfl rfl rfl (rInt_c (s := s) (by repeat (first | exact Go.Sl.Sel.here | apply Go.Sl.Sel.there)) hr hb) ?_; rintro _ _ ⟨x169, rfl, hq169, rfl⟩)
  refine Go.Sl.ow_val rfl rfl (Go.Sl.v_nilCheck rfl) ?_
  refine Go.Sl.ow_val rfl rfl (Go.Sl.v_fieldAddr0 Ty.fd30_4 rfl) ?_
  refine Go.Sl.ow_store1 rfl rfl rfl rfl Ty.sc22 .here (Go.Sl.SetN.one (by first | decide | exact Nat.le_of_ble_eq_true rfl)) ?_
  refine Go.Sl.ow_nil ?_
  refine Go.Sl.xw_then ?_
  refine Go.Sl.cw_region ?_
  refine Go.Sl.ow_val rfl rfl (Go.Sl.v_move rfl) ?_
  refine Go.Sl.ow_val rfl rfl (Go.Sl.v_move rfl) ?_
  (refine Go.Sl.ow_call rfl rfl rfl rfl (rLong_c (s := (pInt s).2) (by repeat (first | exact Go.Sl.Sel.here | apply Go.Sl.Sel.there)) hq169 hb1 (by decide)) ?_; rintro _ _ ⟨x174, rfl, hq174, rfl⟩)
  refine Go.Sl.ow_val rfl rfl (Go.Sl.v_nilCheck rfl) ?_
  refine Go.Sl.ow_val rfl rfl (Go.Sl.v_fieldAddr0 Ty.fd30_5 rfl) ?_
  refine Go.Sl.ow_store1 rfl rfl rfl rfl Ty.sc23 (.there .here) (Go.Sl.SetN.one (by first | decide | exact Nat.le_of_ble_eq_true rfl)) ?_
  refine Go.Sl.ow_nil ?_
  refine Go.Sl.xw_block ?_
  refine Go.Sl.ret0n rfl ?_
  rotate_left
  refine Go.Sl.cw_skip ?_
  refine Go.Sl.xw_block ?_
  refine Go.Sl.ret0n rfl ?_
  rotate_left
  · have e : k = 2 := hc9
    subst e
    refine ow_flat (([(bf, .cells ((FrM.zero 2).cells p).toArray 30 (0, 0))] ++ (cg ++ (cd ++ cr))) :: F) (.of_eq (by simp)) ?_
    (refine Go.Sl.ow_call rfl rfl rfl rfl (takeRanges_c (k := 2) (by repeat (first | exact Go.Sl.Sel.here | apply Go.Sl.Sel.there)) hO0 hb) ?_; rintro _ _ ⟨x14, rfl, hq14, rfl⟩)
    refine Go.Sl.ow_nil ?_
    refine Go.Sl.xw_then ?_
    have hak := ack_k (k := 2) (s := s)
    have hba := short_ack (k := 2) hb
    have hba1 := short_int hba
    have hba2 := short_int hba1
    obtain ⟨p2, cg2, cd2, cr2, rfl, hF2, hr2⟩ := hq14
    have hone3 := one3 (pInt (pAck 3 s).2).1 (pInt (pInt (pAck 3 s).2).2).1 (pInt (pInt (pInt (pAck 3 s).2).2).2).1
    refine cw_split4 ?_
    refine Go.Sl.cw_seq ?_
    refine Go.Sl.cw_region ?_
    refine Go.Sl.ow_val rfl rfl (Go.Sl.v_move rfl) ?_
    refine Go.Sl.ow_val rfl rfl (Go.Sl.v_nilCheck rfl) ?_
    refine Go.Sl.ow_val rfl rfl (Go.Sl.v_fieldAddr0 Ty.fd30_0 rfl) ?_
    refine Go.Sl.ow_val rfl rfl (Go.Sl.v_load rfl (Go.Sl.Var.at1 Ty.sc26 .here (Go.Sl.GetN.lit rfl))) ?_
    refine Go.Sl.ow_val rfl rfl (Go.Sl.v_eql rfl rfl) ?_
    refine Go.Sl.ow_nil ?_
    refine Go.Sl.xw_then ?_
    refine Go.Sl.cw_false rfl ?_
    refine Go.Sl.cw_skip ?_
    refine Go.Sl.xw_block ?_
    refine Go.Sl.ret0n rfl ?_
    exact ⟨_, rfl, ⟨p2, cg2, cd2, cr2, rfl, hF2, hr2⟩, cov4⟩
  · have e : k = 3 := hc9
    subst e
    refine ow_flat (([(bf, .cells ((FrM.zero 3).cells p).toArray 30 (0, 0))] ++ (cg ++ (cd ++ cr))) :: F) (.of_eq (by simp)) ?_
    (refine Go.Sl.ow_call rfl rfl rfl rfl (takeRanges_c (k := 3) (by repeat (first | exact Go.Sl.Sel.here | apply Go.Sl.Sel.there)) hO0 hb) ?_; rintro _ _ ⟨x14, rfl, hq14, rfl⟩)
    refine Go.Sl.ow_nil ?_
    refine Go.Sl.xw_then ?_
    have hak := ack_k (k := 3) (s := s)
    have hba := short_ack (k := 3) hb
    have hba1 := short_int hba
    have hba2 := short_int hba1
    obtain ⟨p2, cg2, cd2, cr2, rfl, hF2, hr2⟩ := hq14
    have hone3 := one3 (pInt (pAck 3 s).2).1 (pInt (pInt (pAck 3 s).2).2).1 (pInt (pInt (pInt (pAck 3 s).2).2).2).1
    refine cw_split4 ?_
    refine Go.Sl.cw_seq ?_
    refine Go.Sl.cw_region ?_
    refine Go.Sl.ow_val rfl rfl (Go.Sl.v_move rfl) ?_
    refine Go.Sl.ow_val rfl rfl (Go.Sl.v_nilCheck rfl) ?_
    refine Go.Sl.ow_val rfl rfl (Go.Sl.v_fieldAddr0 Ty.fd30_0 rfl) ?_
    refine Go.Sl.ow_val rfl rfl (Go.Sl.v_load rfl (Go.Sl.Var.at1 Ty.sc26 .here (Go.Sl.GetN.lit rfl))) ?_
    refine Go.Sl.ow_val rfl rfl (Go.Sl.v_eql rfl rfl) ?_
    refine Go.Sl.ow_nil ?_
    refine Go.Sl.xw_then ?_
    refine Go.Sl.cw_true rfl ?_
    refine Go.Sl.cw_region ?_
    refine Go.Sl.ow_val rfl rfl (Go.Sl.v_move rfl) ?_
    refine Go.Sl.ow_val rfl rfl (Go.Sl.v_move rfl) ?_
    (refine Go.Sl.ow_call rfl rfl rfl rfl (rInt_c (s := (pAck 3 s).2) (by repeat (first | exact Go.Sl.Sel.here | apply Go.Sl.Sel.there)) hr2 hba) ?_; rintro _ _ ⟨x22, rfl, hq22, rfl⟩)
    refine Go.Sl.ow_val rfl rfl (Go.Sl.v_move rfl) ?_
    (refine Go.Sl.ow_call rfl rfl rfl rfl (rInt_c (s := (pInt (pAck 3 s).2).2) (by repeat (first | exact Go.Sl.Sel.here | apply Go.Sl.Sel.there)) hq22 hba1) ?_; rintro _ _ ⟨x24, rfl, hq24, rfl⟩)
    refine Go.Sl.ow_val rfl rfl (Go.Sl.v_move rfl) ?_
    (refine Go.Sl.ow_call rfl rfl rfl rfl (rInt_c (s := (pInt (pInt (pAck 3 s).2).2).2) (by repeat (first | exact Go.Sl.Sel.here | apply Go.Sl.Sel.there)) hq24 hba2) ?_; rintro _ _ ⟨x26, rfl, hq26, rfl⟩)
    refine Go.Sl.ow_val rfl rfl (Go.Sl.v_build rfl (b_ecn)) ?_
    refine Go.Sl.ow_val rfl rfl (Go.Sl.v_nilCheck rfl) ?_
    refine Go.Sl.ow_val rfl rfl (Go.Sl.v_fieldAddr0 Ty.fd30_9 rfl) ?_
    refine Go.Sl.ow_storeN rfl rfl rfl Ty.ag28 (by first | rfl | assumption) (by first | assumption | simp) .here ((ecn_set (f := (pAck 3 s).1) (p := p2))) ?_
    refine Go.Sl.ow_nil ?_
    refine Go.Sl.xw_block ?_
    refine Go.Sl.ret0n rfl ?_
    exact ⟨_, rfl, ⟨p2, cg2, cd2, x26, rfl, ⟨hF2.r, hF2.d, hF2.i⟩, hq26⟩, cov4⟩
  · have e : k = 4 := hc30
    subst e
    exact ⟨_, rfl, ⟨p, cg, cd, x40, rfl, ⟨hF.r, hF.d, hF.i⟩, hq40⟩, cov4⟩
  · have e : k = 5 := hc47
    subst e
    exact ⟨_, rfl, ⟨p, cg, cd, x54, rfl, ⟨hF.r, hF.d, hF.i⟩, hq54⟩, cov4⟩
  · have e : k = 6 := hc59
    subst e
    refine ow_cov (([(bf, .cells ((((FrM.zero 6).cells p).set 2 (.int .u64 (pInt s).1)).set 5 (.slice x68.1 (pLong 1200 (pInt s).2).1.length x68.2.1)).toArray 30 (0, 0))] ++ (cg ++ ((cd ++ x68.2.2.1) ++ x68.2.2.2))) :: F) (by first | exact Go.Sl.Cov.refl _ | (intro p; simp only [List.flatten_cons, List.flatten_nil, List.flatten_append, List.append_nil, List.nil_append, Go.Sl.cnt_append, Go.Sl.cnt_cons, Go.Sl.cnt_nil, List.set_cons_zero, List.set_cons_succ, List.length_nil, List.length_cons, Nat.zero_add, List.append]; omega)) ?_
    have hO6 : FRAt { FrM.zero 6 with off := (pInt s).1, data := (pLong 1200 (pInt s).2).1 } (pLong 1200 (pInt s).2).2 bf br ([(bf, .cells ((((FrM.zero 6).cells p).set 2 (.int .u64 (pInt s).1)).set 5 (.slice x68.1 (pLong 1200 (pInt s).2).1.length x68.2.1)).toArray 30 (0, 0))] ++ (cg ++ ((cd ++ x68.2.2.1) ++ x68.2.2.2))) := ⟨{ p with da := x68.1, dc := x68.2.1 }, cg, cd ++ x68.2.2.1, x68.2.2.2, rfl, ⟨hF.r, Rd.right (Ls.rd hq68.1), Rd.left hF.i⟩, hq68.2⟩
    have hdl : (pLong 1200 (pInt s).2).1.length ≤ 100000000 := by
      have := long_len (s := (pInt s).2) (k := 1200) (by decide)
      omega
    (refine Go.Sl.ow_call rfl rfl rfl rfl (fits_c (by repeat (first | exact Go.Sl.Sel.here | apply Go.Sl.Sel.there)) hO6 (by show inU (pInt s).1; unfold inU; omega) hdl) ?_; rintro _ _ ⟨x73, rfl, hq73, rfl⟩)
    refine Go.Sl.ow_nil ?_
    refine Go.Sl.xw_block ?_
    refine Go.Sl.ret0n rfl ?_
    exact ⟨x73, rfl, hq73, (by first | exact Go.Sl.Cov.refl _ | (intro p; simp only [List.flatten_cons, List.flatten_nil, List.flatten_append, List.append_nil, List.nil_append, Go.Sl.cnt_append, Go.Sl.cnt_cons, Go.Sl.cnt_nil, List.set_cons_zero, List.set_cons_succ, List.length_nil, List.length_cons, Nat.zero_add, List.append]; omega))⟩
  · have e : k = 7 := hc74
    subst e
    have hA : pFields 7 s = ({ FrM.zero 7 with data := (pBytes (pCount 64 s).1 (if (pCount 64 s).1 = 0 then failM 6 (pCount 64 s).2 else (pCount 64 s).2)).1 }, (pBytes (pCount 64 s).1 (if (pCount 64 s).1 = 0 then failM 6 (pCount 64 s).2 else (pCount 64 s).2)).2) := rfl
    show ∃ x, _ ∧ FRAt (pFields 7 s).1 (pFields 7 s).2 bf br x ∧ _
    rw [hA, if_pos hc79]
    exact ⟨_, rfl, ⟨{ p with da := x85.1, dc := x85.2.1 }, cg, cd ++ x85.2.2.1, x85.2.2.2, rfl, ⟨hF.r, Rd.right (Ls.rd hq85.1), Rd.left hF.i⟩, hq85.2⟩, cov5⟩
  · have e : k = 7 := hc74
    subst e
    have hA : pFields 7 s = ({ FrM.zero 7 with data := (pBytes (pCount 64 s).1 (if (pCount 64 s).1 = 0 then failM 6 (pCount 64 s).2 else (pCount 64 s).2)).1 }, (pBytes (pCount 64 s).1 (if (pCount 64 s).1 = 0 then failM 6 (pCount 64 s).2 else (pCount 64 s).2)).2) := rfl
    show ∃ x, _ ∧ FRAt (pFields 7 s).1 (pFields 7 s).2 bf br x ∧ _
    rw [hA, if_neg hc79]
    exact ⟨_, rfl, ⟨{ p with da := x85.1, dc := x85.2.1 }, cg, cd ++ x85.2.2.1, x85.2.2.2, rfl, ⟨hF.r, Rd.right (Ls.rd hq85.1), Rd.left hF.i⟩, hq85.2⟩, cov5⟩
  · have e : k = 16 := hc88
    subst e
    exact ⟨_, rfl, ⟨p, cg, cd, x93, rfl, ⟨hF.r, hF.d, hF.i⟩, hq93⟩, cov4⟩
  · have e : k = 20 := hc88
    subst e
    exact ⟨_, rfl, ⟨p, cg, cd, x93, rfl, ⟨hF.r, hF.d, hF.i⟩, hq93⟩, cov4⟩
  · have e : k = 18 := hc96
    subst e
    exact ⟨_, rfl, ⟨p, cg, cd, x112, rfl, ⟨hF.r, hF.d, hF.i⟩, (by show RdAt (if _ then _ else _ : Rs).1 (if _ then _ else _ : Rs).2 _ _; rw [if_pos hc110]; exact hq112)⟩, cov4⟩
  · have e : k = 18 := hc96
    subst e
    exact ⟨_, rfl, ⟨p, cg, cd, x103, rfl, ⟨hF.r, hF.d, hF.i⟩, (by show RdAt (if _ then _ else _ : Rs).1 (if _ then _ else _ : Rs).2 _ _; rw [if_neg hc110]; exact hq103)⟩, cov4⟩
  · have e : k = 19 := hc96
    subst e
    exact ⟨_, rfl, ⟨p, cg, cd, x112, rfl, ⟨hF.r, hF.d, hF.i⟩, (by show RdAt (if _ then _ else _ : Rs).1 (if _ then _ else _ : Rs).2 _ _; rw [if_pos hc110]; exact hq112)⟩, cov4⟩
  · have e : k = 19 := hc96
    subst e
    exact ⟨_, rfl, ⟨p, cg, cd, x103, rfl, ⟨hF.r, hF.d, hF.i⟩, (by show RdAt (if _ then _ else _ : Rs).1 (if _ then _ else _ : Rs).2 _ _; rw [if_neg hc110]; exact hq103)⟩, cov4⟩
  · have e : k = 22 := hc96
    subst e
    exact ⟨_, rfl, ⟨p, cg, cd, x112, rfl, ⟨hF.r, hF.d, hF.i⟩, (by show RdAt (if _ then _ else _ : Rs).1 (if _ then _ else _ : Rs).2 _ _; rw [if_pos hc110]; exact hq112)⟩, cov4⟩
  · have e : k = 22 := hc96
    subst e
    exact ⟨_, rfl, ⟨p, cg, cd, x103, rfl, ⟨hF.r, hF.d, hF.i⟩, (by show RdAt (if _ then _ else _ : Rs).1 (if _ then _ else _ : Rs).2 _ _; rw [if_neg hc110]; exact hq103)⟩, cov4⟩
  · have e : k = 23 := hc96
    subst e
    exact ⟨_, rfl, ⟨p, cg, cd, x112, rfl, ⟨hF.r, hF.d, hF.i⟩, (by show RdAt (if _ then _ else _ : Rs).1 (if _ then _ else _ : Rs).2 _ _; rw [if_pos hc110]; exact hq112)⟩, cov4⟩
  · have e : k = 23 := hc96
    subst e
    exact ⟨_, rfl, ⟨p, cg, cd, x103, rfl, ⟨hF.r, hF.d, hF.i⟩, (by show RdAt (if _ then _ else _ : Rs).1 (if _ then _ else _ : Rs).2 _ _; rw [if_neg hc110]; exact hq103)⟩, cov4⟩
  · have e : k = 17 := hc113
    subst e
    exact ⟨_, rfl, ⟨p, cg, cd, x121, rfl, ⟨hF.r, hF.d, hF.i⟩, hq121⟩, cov4⟩
  · have e : k = 21 := hc113
    subst e
    exact ⟨_, rfl, ⟨p, cg, cd, x121, rfl, ⟨hF.r, hF.d, hF.i⟩, hq121⟩, cov4⟩
  · have e : k = 24 := hc126
    subst e
    refine ow_flat (([(bf, .cells ((FrM.zero 24).cells p).toArray 30 (0, 0))] ++ (cg ++ (cd ++ cr))) :: F) (.of_eq (by simp)) ?_
    (refine Go.Sl.ow_call rfl rfl rfl rfl (takeId_c (by repeat (first | exact Go.Sl.Sel.here | apply Go.Sl.Sel.there)) hO0 hb) ?_; rintro _ _ ⟨x130, rfl, hq130, rfl⟩)
    refine Go.Sl.ow_nil ?_
    refine Go.Sl.xw_block ?_
    refine Go.Sl.ret0n rfl ?_
    exact ⟨x130, rfl, hq130, (by first | exact Go.Sl.Cov.refl _ | (intro p; simp only [List.flatten_cons, List.flatten_nil, List.flatten_append, List.append_nil, List.nil_append, Go.Sl.cnt_append, Go.Sl.cnt_cons, Go.Sl.cnt_nil, List.set_cons_zero, List.set_cons_succ, List.length_nil, List.length_cons, Nat.zero_add, List.append]; omega))⟩
  · have e : k = 25 := hc131
    subst e
    exact ⟨_, rfl, ⟨p, cg, cd, x135, rfl, ⟨hF.r, hF.d, hF.i⟩, hq135⟩, cov4⟩
  · have e : k = 26 := hc138
    subst e
    have hbl := bytes_len (s := s) (n := 8)
    have hbl2 : (pBytes 8 s).1.length ≤ 8 := hbl
    have hone : ∀ u ∈ (pBytes 8 s).1.flatMap enB.f, u.oneCell' = true := enc_one vbTy (fun _ _ => trivial)
    refine ow_copy (n := (pBytes 8 s).1.length) rfl rfl rfl Try.underlying23 vbTy.size rfl rfl (Nat.min_eq_left hbl2) (Vw.reads_all vbTy (hq146.1.vw (by repeat (first | exact Go.Sl.Sub.here | assumption | refine Go.Sl.Sub.there ?_)))) hone (by repeat (first | exact Go.Sl.Sel.here | apply Go.Sl.Sel.there)) (wd_set (f := FrM.zero 26) (p := p) rfl rfl hbl2) ?_
    refine Go.Sl.ow_nil ?_
    refine Go.Sl.xw_np ?_
    refine Go.Sl.xw_block ?_
    refine Go.Sl.ret0n rfl ?_
    exact ⟨_, rfl, ⟨p, cg, cd ++ x146.2.2.1, x146.2.2.2, rfl, ⟨hF.r, Rd.left hF.d, Rd.left hF.i⟩, hq146.2⟩, cov5⟩
  · have e : k = 27 := hc138
    subst e
    have hbl := bytes_len (s := s) (n := 8)
    have hbl2 : (pBytes 8 s).1.length ≤ 8 := hbl
    have hone : ∀ u ∈ (pBytes 8 s).1.flatMap enB.f, u.oneCell' = true := enc_one vbTy (fun _ _ => trivial)
    refine ow_copy (n := (pBytes 8 s).1.length) rfl rfl rfl Try.underlying23 vbTy.size rfl rfl (Nat.min_eq_left hbl2) (Vw.reads_all vbTy (hq146.1.vw (by repeat (first | exact Go.Sl.Sub.here | assumption | refine Go.Sl.Sub.there ?_)))) hone (by repeat (first | exact Go.Sl.Sel.here | apply Go.Sl.Sel.there)) (wd_set (f := FrM.zero 27) (p := p) rfl rfl hbl2) ?_
    refine Go.Sl.ow_nil ?_
    refine Go.Sl.xw_np ?_
    refine Go.Sl.xw_block ?_
    refine Go.Sl.ret0n rfl ?_
    exact ⟨_, rfl, ⟨p, cg, cd ++ x146.2.2.1, x146.2.2.2, rfl, ⟨hF.r, Rd.left hF.d, Rd.left hF.i⟩, hq146.2⟩, cov5⟩
  · have e : k = 28 := hc148
    subst e
    exact ⟨_, rfl, ⟨{ p with da := x162.1, dc := x162.2.1 }, cg, cd ++ x162.2.2.1, x162.2.2.2, rfl, ⟨hF.r, Rd.right (Ls.rd (hq162).1), Rd.left hF.i⟩, (hq162).2⟩, cov5⟩
  · have e : k = 29 := hc165
    subst e
    exact ⟨_, rfl, ⟨{ p with da := x174.1, dc := x174.2.1 }, cg, cd ++ x174.2.2.1, x174.2.2.2, rfl, ⟨hF.r, Rd.right (Ls.rd (hq174).1), Rd.left hF.i⟩, (hq174).2⟩, cov5⟩
  · have hn : k = 0 ∨ k = 1 ∨ k = 30 := by omega
    have hA : pFields k.toNat s = (FrM.zero k, s) := by
      rcases hn with rfl | rfl | rfl <;> rfl
    rw [hA]
    exact ⟨_, rfl, ⟨p, cg, cd, cr, rfl, hF, hr⟩, cov4⟩
end Go.Proofs.Ytckdhelnafjddaa
