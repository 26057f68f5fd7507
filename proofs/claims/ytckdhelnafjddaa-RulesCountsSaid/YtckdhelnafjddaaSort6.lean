/- The library's sort at lists of small numbers: the whole. Conditions: lists are short. -/
import Derived.Test.YtckdhelnafjddaaSort2
import Derived.Test.YtckdhelnafjddaaSort3
import Derived.Test.YtckdhelnafjddaaSort4
import Derived.Test.YtckdhelnafjddaaSort5
namespace Go.Proofs.Ytckdhelnafjddaa
open Go Go.Sl Go.Proofs
set_option maxRecDepth 20000
set_option linter.unusedVariables false
set_option linter.unusedSimpArgs false

structure PdG where
  a : Nat
  b : Nat
  l : Int
  wb : Bool
  wp : Bool
  d : Array Int
  c : Hp
set_option maxHeartbeats 16000000 in
theorem pdqK_c : ∀ (M : Nat) {B : Nat} {w0 : World} {G : List Hp} {R : Hp → List Hp} {ao : Option Addr} {n cap a b : Nat} {limit : Int} {xa xb : Int} {c : Hp} {d : Array Int} (hxa : xa = a) (hxb : xb = b) (hsel : Sel G c R) (hL : Ls enKd 59 (.slice ao n cap) c d.toList) (hM : b - a ≤ M) (hab : a ≤ b) (hb : b ≤ d.size) (hn : d.size < 60000) (hB : Sort.Below Sort.ltInt a b d) (hlim : 0 ≤ limit ∧ limit ≤ 1000),
    Go.Sl.Fn Try.prog 83 #[.slice ao n cap, .int .i64 xa, .int .i64 xb, .int .i64 limit] B w0 G fun u G' => ∃ x : Array Int × Hp, u = .tuple #[] ∧ (Sort.PermIn a b d x.1 ∧ Sort.SortedIn Sort.ltInt a b x.1 ∧ Ls enKd 59 (.slice ao n cap) x.2 x.1.toList) ∧ G' = R x.2 := by
  intro M
  induction M using Nat.strongRecOn with
  | _ M ih =>
  intro B w0 G R ao n cap a b limit xa xb c d hxa hxb hsel hL hM hab hb hn hB hlim
  subst hxa hxb
  refine Fn.sel0 hsel fun F hR hF => ?_
  have hl := hL.len
  rw [Array.length_toList] at hl
  subst hl
  refine fn_enter Try.func83 rfl (by kernel_rfl) Try.ntmps83 (by simp) ?_
  refine cw_seq ?_
  refine cw_region ?_
  refine ow_val rfl rfl (v_assign rfl) ?_
  refine ow_nil ?_
  refine xw_then ?_
  refine cw_seq ?_
  refine cw_region ?_
  refine ow_val rfl rfl (v_assign rfl) ?_
  refine ow_nil ?_
  refine xw_then ?_
  refine cw_block ?_
  refine cw_loop2 (ι := (PdG)) [(0, _)] ⟨rfl, trivial⟩ ((fun x => [(1, .int .i64 x.a), (2, .int .i64 x.b), (3, .int .i64 x.l), (8, .bool x.wb), (9, .bool x.wp)])) ((fun x => x.a ≤ x.b ∧ x.b ≤ d.size ∧ x.b - x.a ≤ M ∧ x.d.size = d.size ∧ Sort.Below Sort.ltInt x.a x.b x.d ∧ (0 ≤ x.l ∧ x.l ≤ 1000) ∧ (∀ d', Sort.PermIn x.a x.b x.d d' → Sort.SortedIn Sort.ltInt x.a x.b d' → Sort.PermIn a b d d' ∧ Sort.SortedIn Sort.ltInt a b d') ∧ Ls enKd 59 (.slice ao d.size cap) x.c x.d.toList)) ((fun x => x.b - x.a)) ((fun x => x.c :: F)) ((⟨a, b, limit, true, true, d, c⟩ : PdG)) (by repeat (first | exact True.intro | refine And.intro rfl ?_)) (by first | exact Cov.refl _ | (intro p; simp only [List.flatten_cons, List.flatten_nil, List.flatten_append, List.append_nil, List.nil_append, cnt_append, cnt_cons, cnt_nil, List.set_cons_zero, List.set_cons_succ, List.length_nil, List.length_cons, Nat.zero_add, List.append]; omega)) ?_ ?_
  · exact ⟨hab, hb, hM, rfl, hB, hlim, fun d' h1 h2 => ⟨h1, h2⟩, hL⟩
  rintro ⟨p, q, l, wb, wp, d1, c1⟩ ⟨hpq, hq, hM1, hsz, hB1, hl1, hQ, hL1⟩
  dsimp only at hpq hq hM1 hsz hB1 hl1 hQ hL1 ⊢
  have hlen : ∀ d' : Array Int, d'.size = d.size → d'.toList.length = d.size := fun d' h => by rw [Array.length_toList]; exact h
  refine cw_block ?_
  refine cw_seq ?_
  refine cw_region ?_
  refine ow_val rfl rfl (v_move rfl) ?_
  refine ow_val rfl rfl (v_move rfl) ?_
  refine ow_val rfl rfl (v_sub rfl rfl (nw_i64 (by omega) (by omega))) ?_
  refine ow_val rfl rfl (v_assign rfl) ?_
  refine ow_nil ?_
  refine xw_then ?_
  refine cw_seq ?_
  refine cw_seq ?_
  refine cw_region ?_
  refine ow_val rfl rfl (v_move rfl) ?_
  refine ow_val rfl rfl (v_leq rfl rfl) ?_
  refine ow_nil ?_
  refine xw_then ?_
  refine cw_dec rfl (fun hc23 => ?_) (fun hc23 => ?_)
  rotate_left
  refine cw_skip ?_
  refine xw_then ?_
  refine cw_seq ?_
  refine cw_seq ?_
  refine cw_region ?_
  refine ow_val rfl rfl (v_move rfl) ?_
  refine ow_val rfl rfl (v_eql rfl rfl) ?_
  refine ow_nil ?_
  refine xw_then ?_
  refine cw_dec rfl (fun hc29 => ?_) (fun hc29 => ?_)
  rotate_left
  refine cw_skip ?_
  refine xw_then ?_
  rotate_left
  · refine cw_seq ?_
    refine cw_region ?_
    refine ow_val rfl rfl (v_move rfl) ?_
    refine ow_val rfl rfl (v_move rfl) ?_
    refine ow_val rfl rfl (v_move rfl) ?_
    (refine ow_call rfl rfl rfl rfl (insertionK_c (a := p) (b := q) .here hL1 hpq (by omega) (by omega)) ?_; rintro _ _ ⟨x27, rfl, hq27, rfl⟩)
    refine ow_nil ?_
    refine xw_then ?_
    refine cw_ret ?_
    refine xw_then_ret ?_
    refine xw_block_ret ?_
    refine xw_round_ret ?_
    refine xw_block_ret ?_
    refine ret0 rfl ?_
    have h := Sort.insertionSort_holds Sort.swo_ltInt d1 p q hpq (by omega)
    have h2 := hQ _ h.1 h.2
    exact ⟨(_, x27), rfl, ⟨h2.1, h2.2, hq27⟩, (by first | exact Cov.refl _ | (intro p; simp only [List.flatten_cons, List.flatten_nil, List.flatten_append, List.append_nil, List.nil_append, cnt_append, cnt_cons, cnt_nil, List.set_cons_zero, List.set_cons_succ, List.length_nil, List.length_cons, Nat.zero_add, List.append]; omega))⟩
  · refine cw_seq ?_
    refine cw_region ?_
    refine ow_val rfl rfl (v_move rfl) ?_
    refine ow_val rfl rfl (v_move rfl) ?_
    refine ow_val rfl rfl (v_move rfl) ?_
    (refine ow_call rfl rfl rfl rfl (heapK_c (a := p) (b := q) .here hL1 (by omega) (by omega) (by omega)) ?_; rintro _ _ ⟨x33, rfl, hq33, rfl⟩)
    refine ow_nil ?_
    refine xw_then ?_
    refine cw_ret ?_
    refine xw_then_ret ?_
    refine xw_block_ret ?_
    refine xw_round_ret ?_
    refine xw_block_ret ?_
    refine ret0 rfl ?_
    have h := Sort.heapSort_holds Sort.swo_ltInt d1 p q hpq (by omega)
    have h2 := hQ _ h.1 h.2
    exact ⟨(_, x33), rfl, ⟨h2.1, h2.2, hq33⟩, (by first | exact Cov.refl _ | (intro p; simp only [List.flatten_cons, List.flatten_nil, List.flatten_append, List.append_nil, List.nil_append, cnt_append, cnt_cons, cnt_nil, List.set_cons_zero, List.set_cons_succ, List.length_nil, List.length_cons, Nat.zero_add, List.append]; omega))⟩
  refine cw_cut2 (ι := ((Array Int × Int × Hp))) [(0, _), (1, _), (2, _), (8, _), (9, _), (10, _)] ⟨rfl, rfl, rfl, rfl, rfl, rfl, trivial⟩ ((fun x => [(3, .int .i64 x.2.1)])) ((fun x => Sort.PermIn p q d1 x.1 ∧ (0 ≤ x.2.1 ∧ x.2.1 ≤ 1000) ∧ Ls enKd 59 (.slice ao d.size cap) x.2.2 x.1.toList)) ((fun x => x.2.2 :: F)) ?_ ?_
  · refine cw_seq ?_
    refine cw_region ?_
    refine ow_val rfl rfl (v_move rfl) ?_
    refine ow_val rfl rfl (v_not_bool rfl) ?_
    refine ow_nil ?_
    refine xw_then ?_
    refine cw_bool rfl (fun hc35 => ?_) (fun hc35 => ?_)
    refine cw_seq ?_
    refine cw_region ?_
    refine ow_val rfl rfl (v_move rfl) ?_
    refine ow_val rfl rfl (v_move rfl) ?_
    refine ow_val rfl rfl (v_move rfl) ?_
    (refine ow_call rfl rfl rfl rfl (breakK_c (a := p) (b := q) .here hL1 (by omega) (by omega) (by omega)) ?_; rintro _ _ ⟨x39, rfl, hq39, rfl⟩)
    refine ow_nil ?_
    refine xw_then ?_
    refine cw_region ?_
    refine ow_val rfl rfl (v_move rfl) ?_
    refine ow_val rfl rfl (v_sub rfl rfl (nw_i64 (by omega) (by omega))) ?_
    refine ow_val rfl rfl (v_assign rfl) ?_
    refine ow_nil ?_
    rotate_left
    refine cw_skip ?_
    rotate_left
    · exact xw_joint ((x39.1, l - 1, x39.2) : Array Int × Int × Hp) ⟨hq39.1, by dsimp only; omega, hq39.2⟩ (by first | exact Cov.refl _ | (intro p; simp only [List.flatten_cons, List.flatten_nil, List.flatten_append, List.append_nil, List.nil_append, cnt_append, cnt_cons, cnt_nil, List.set_cons_zero, List.set_cons_succ, List.length_nil, List.length_cons, Nat.zero_add, List.append]; omega)) (by repeat (first | exact True.intro | refine And.intro rfl ?_))
    · exact xw_joint ((d1, l, c1) : Array Int × Int × Hp) ⟨Sort.permIn_refl _ _ _, hl1, hL1⟩ (by first | exact Cov.refl _ | (intro p; simp only [List.flatten_cons, List.flatten_nil, List.flatten_append, List.append_nil, List.nil_append, cnt_append, cnt_cons, cnt_nil, List.set_cons_zero, List.set_cons_succ, List.length_nil, List.length_cons, Nat.zero_add, List.append]; omega)) (by repeat (first | exact True.intro | refine And.intro rfl ?_))
  rintro ⟨d2, l2, c2⟩ ⟨hP2, hl2, hL2⟩
  dsimp only at hP2 hl2 hL2 ⊢
  have hs2 := hP2.1.trans hsz
  have hn2 := hlen d2 hs2
  refine cw_seq ?_
  refine cw_region ?_
  refine ow_val rfl rfl (v_move rfl) ?_
  refine ow_val rfl rfl (v_move rfl) ?_
  refine ow_val rfl rfl (v_move rfl) ?_
  (refine ow_call rfl rfl rfl rfl (pivotK_c (a := p) (b := q) (fun Y => hL2.vw (by repeat (first | exact Sub.here | exact Sub.nil | assumption | refine Sub.there ?_))) (by omega) (by omega) (by omega)) ?_; rintro _ _ ⟨x46, rfl, hq46, rfl⟩)
  refine ow_val rfl rfl (v_move rfl) ?_
  refine ow_val rfl rfl (v_extract rfl rfl) ?_
  refine ow_val rfl rfl (v_extract rfl rfl) ?_
  refine ow_val rfl rfl (v_assign rfl) ?_
  refine ow_val rfl rfl (v_assign rfl) ?_
  refine ow_nil ?_
  refine xw_then ?_
  obtain ⟨pv, hint⟩ := x46
  obtain ⟨hpv, hhint⟩ := hq46
  dsimp only at hpv hhint ⊢
  refine cw_cut2 (ι := ((Nat × Int × Array Int × Hp))) [(0, _), (1, _), (2, _), (3, _), (8, _), (9, _), (10, _)] ⟨rfl, rfl, rfl, rfl, rfl, rfl, rfl, trivial⟩ ((fun x => [(11, .int .i64 x.1), (12, .int .i64 x.2.1)])) ((fun x => Sort.PermIn p q d1 x.2.2.1 ∧ (p ≤ x.1 ∧ x.1 < q) ∧ (x.2.1 = 0 ∨ x.2.1 = 1) ∧ Ls enKd 59 (.slice ao d.size cap) x.2.2.2 x.2.2.1.toList)) ((fun x => x.2.2.2 :: F)) ?_ ?_
  · refine cw_seq ?_
    refine cw_region ?_
    refine ow_val rfl rfl (v_move rfl) ?_
    refine ow_val rfl rfl (v_eql rfl rfl) ?_
    refine ow_nil ?_
    refine xw_then ?_
    refine cw_dec rfl (fun hc50 => ?_) (fun hc50 => ?_)
    refine cw_seq ?_
    refine cw_region ?_
    refine ow_val rfl rfl (v_move rfl) ?_
    refine ow_val rfl rfl (v_move rfl) ?_
    refine ow_val rfl rfl (v_move rfl) ?_
    (refine ow_call rfl rfl rfl rfl (revRK_c (a := p) (b := q) .here hL2 (by omega) (by omega) (by omega)) ?_; rintro _ _ ⟨x54, rfl, hq54, rfl⟩)
    refine ow_nil ?_
    refine xw_then ?_
    refine cw_seq ?_
    refine cw_region ?_
    refine ow_val rfl rfl (v_move rfl) ?_
    refine ow_val rfl rfl (v_sub rfl rfl (nw_i64 (by omega) (by omega))) ?_
    refine ow_val rfl rfl (v_move rfl) ?_
    refine ow_val rfl rfl (v_move rfl) ?_
    refine ow_val rfl rfl (v_sub rfl rfl (nw_i64 (by omega) (by omega))) ?_
    refine ow_val rfl rfl (v_sub rfl rfl (nw_i64 (by omega) (by omega))) ?_
    refine ow_val rfl rfl (v_assign rfl) ?_
    refine ow_nil ?_
    refine xw_then ?_
    refine cw_region ?_
    refine ow_val rfl rfl (v_assign rfl) ?_
    refine ow_nil ?_
    rotate_left
    refine cw_skip ?_
    rotate_left
    · have h := Sort.reverseRange_holds d2 p q hpq (by omega)
      exact xw_joint ((q - 1 - (pv - p), 1, Sort.reverseRange d2 p q, x54) : Nat × Int × Array Int × Hp) ⟨Sort.permIn_trans _ _ _ _ _ hP2 h, by dsimp only; omega, .inr rfl, hq54⟩ (by first | exact Cov.refl _ | (intro p; simp only [List.flatten_cons, List.flatten_nil, List.flatten_append, List.append_nil, List.nil_append, cnt_append, cnt_cons, cnt_nil, List.set_cons_zero, List.set_cons_succ, List.length_nil, List.length_cons, Nat.zero_add, List.append]; omega)) (by repeat (first | exact True.intro | refine And.intro rfl ?_ | refine And.intro (congrArg (fun z : Int => some (Value.int IntKind.i64 z)) (by (try dsimp only); omega)) ?_))
    · exact xw_joint ((pv, hint, d2, c2) : Nat × Int × Array Int × Hp) ⟨hP2, hpv, by dsimp only; omega, hL2⟩ (by first | exact Cov.refl _ | (intro p; simp only [List.flatten_cons, List.flatten_nil, List.flatten_append, List.append_nil, List.nil_append, cnt_append, cnt_cons, cnt_nil, List.set_cons_zero, List.set_cons_succ, List.length_nil, List.length_cons, Nat.zero_add, List.append]; omega)) (by repeat (first | exact True.intro | refine And.intro rfl ?_))
  rintro ⟨pv, hint, d3, c3⟩ ⟨hP3, hpv, hhint, hL3⟩
  dsimp only at hP3 hpv hhint hL3 ⊢
  have hs3 := hP3.1.trans hsz
  have hn3 := hlen d3 hs3
  have hB3 := hB1.perm (by omega) hP3
  skip
  refine cw_cut2 (ι := ((Array Int × Hp))) [(0, _), (1, _), (2, _), (3, _), (8, _), (9, _), (10, _), (11, _)] ⟨rfl, rfl, rfl, rfl, rfl, rfl, rfl, rfl, trivial⟩ ((fun _ => [])) ((fun x => Sort.PermIn p q d1 x.1 ∧ Ls enKd 59 (.slice ao d.size cap) x.2 x.1.toList)) ((fun x => x.2 :: F)) ?_ ?_
  · have h := Sort.partialInsertionSort_holds Sort.swo_ltInt d3 p q (by omega) (by omega) hB3
    have h2 := Sort.permIn_trans _ _ _ _ _ hP3 h.1
    refine cw_seq ?_
    refine cw_region ?_
    refine ow_val rfl rfl (v_move rfl) ?_
    refine ow_val rfl rfl (v_move rfl) ?_
    refine ow_bool 62 rfl (fun hc62 => ?_) (fun hc62 => ?_)
    refine ow_val rfl rfl (v_move rfl) ?_
    refine ow_val rfl rfl (v_pick_true rfl rfl) ?_
    refine ow_val rfl rfl (v_move rfl) ?_
    refine ow_bool 65 rfl (fun hc65 => ?_) (fun hc65 => ?_)
    refine ow_val rfl rfl (v_move rfl) ?_
    refine ow_val rfl rfl (v_eql rfl rfl) ?_
    refine ow_val rfl rfl (v_pick_true rfl rfl) ?_
    refine ow_nil ?_
    refine xw_then ?_
    refine cw_dec rfl (fun hc68 => ?_) (fun hc68 => ?_)
    refine cw_seq ?_
    refine cw_region ?_
    refine ow_val rfl rfl (v_move rfl) ?_
    refine ow_val rfl rfl (v_move rfl) ?_
    refine ow_val rfl rfl (v_move rfl) ?_
    (refine ow_call rfl rfl rfl rfl (pinsK_c (a := p) (b := q) .here hL3 (by omega) (by omega) (by omega)) ?_; rintro _ _ ⟨x72, rfl, hq72, rfl⟩)
    refine ow_nil ?_
    refine xw_then ?_
    refine cw_bool rfl (fun hc72 => ?_) (fun hc72 => ?_)
    refine cw_ret ?_
    refine xw_joint_ret ?_
    refine xw_block_ret ?_
    refine xw_round_ret ?_
    refine xw_block_ret ?_
    refine ret0 rfl ?_
    rotate_left
    refine cw_skip ?_
    rotate_left
    refine cw_skip ?_
    rotate_left
    refine ow_skip rfl rfl ?_
    refine ow_skip rfl rfl ?_
    refine ow_val rfl rfl (v_pick_false rfl rfl) ?_
    refine ow_nil ?_
    refine xw_then ?_
    refine cw_false rfl ?_
    refine cw_skip ?_
    rotate_left
    refine ow_skip rfl rfl ?_
    refine ow_val rfl rfl (v_pick_false rfl rfl) ?_
    refine ow_val rfl rfl (v_move rfl) ?_
    refine ow_skip rfl rfl ?_
    refine ow_skip rfl rfl ?_
    refine ow_val rfl rfl (v_pick_false rfl rfl) ?_
    refine ow_nil ?_
    refine xw_then ?_
    refine cw_false rfl ?_
    refine cw_skip ?_
    rotate_left
    · have h3 := hQ _ h2 (h.2 hc72)
      exact ⟨(_, x72), rfl, ⟨h3.1, h3.2, hq72⟩, (by first | exact Cov.refl _ | (intro p; simp only [List.flatten_cons, List.flatten_nil, List.flatten_append, List.append_nil, List.nil_append, cnt_append, cnt_cons, cnt_nil, List.set_cons_zero, List.set_cons_succ, List.length_nil, List.length_cons, Nat.zero_add, List.append]; omega))⟩
    · exact xw_joint ((_, x72) : Array Int × Hp) ⟨h2, hq72⟩ (by first | exact Cov.refl _ | (intro p; simp only [List.flatten_cons, List.flatten_nil, List.flatten_append, List.append_nil, List.nil_append, cnt_append, cnt_cons, cnt_nil, List.set_cons_zero, List.set_cons_succ, List.length_nil, List.length_cons, Nat.zero_add, List.append]; omega)) (by repeat (first | exact True.intro | refine And.intro rfl ?_))
    · exact xw_joint ((d3, c3) : Array Int × Hp) ⟨hP3, hL3⟩ (by first | exact Cov.refl _ | (intro p; simp only [List.flatten_cons, List.flatten_nil, List.flatten_append, List.append_nil, List.nil_append, cnt_append, cnt_cons, cnt_nil, List.set_cons_zero, List.set_cons_succ, List.length_nil, List.length_cons, Nat.zero_add, List.append]; omega)) (by repeat (first | exact True.intro | refine And.intro rfl ?_))
    · exact xw_joint ((d3, c3) : Array Int × Hp) ⟨hP3, hL3⟩ (by first | exact Cov.refl _ | (intro p; simp only [List.flatten_cons, List.flatten_nil, List.flatten_append, List.append_nil, List.nil_append, cnt_append, cnt_cons, cnt_nil, List.set_cons_zero, List.set_cons_succ, List.length_nil, List.length_cons, Nat.zero_add, List.append]; omega)) (by repeat (first | exact True.intro | refine And.intro rfl ?_))
    · exact xw_joint ((d3, c3) : Array Int × Hp) ⟨hP3, hL3⟩ (by first | exact Cov.refl _ | (intro p; simp only [List.flatten_cons, List.flatten_nil, List.flatten_append, List.append_nil, List.nil_append, cnt_append, cnt_cons, cnt_nil, List.set_cons_zero, List.set_cons_succ, List.length_nil, List.length_cons, Nat.zero_add, List.append]; omega)) (by repeat (first | exact True.intro | refine And.intro rfl ?_))
  clear hP3 hL3 hn3 hB3 hs3 d3 c3 hP2 hL2 hn2 hs2 d2 c2
  rintro ⟨d4, c4⟩ ⟨hP4, hL4⟩
  dsimp only at hP4 hL4 ⊢
  have hs4 := hP4.1.trans hsz
  have hn4 := hlen d4 hs4
  have hB4 := hB1.perm (by omega) hP4
  have hQ4 : ∀ d', Sort.PermIn p q d4 d' → Sort.SortedIn Sort.ltInt p q d' → Sort.PermIn a b d d' ∧ Sort.SortedIn Sort.ltInt a b d' := fun d' h1 h2 => hQ d' (Sort.permIn_trans _ _ _ _ _ hP4 h1) h2
  skip
  refine cw_cut2 (ι := (Unit)) [(0, _), (2, _), (3, _), (8, _), (9, _), (10, _), (11, _)] ⟨rfl, rfl, rfl, rfl, rfl, rfl, rfl, trivial⟩ ((fun _ => [(1, .int .i64 p)])) ((fun _ : Unit => True)) ((fun _ => c4 :: F)) ?_ ?_
  · rcases hpe : Sort.partitionEqual Sort.ltInt d4 p q pv with ⟨mid, d5⟩
    have hE := partEK_c (B := B) (w0 := w0) (a := p) (b := q) (pv := pv) (G := c4 :: F) .here hL4 hpv.1 hpv.2 (by omega) (by omega)
    rw [hpe] at hE
    dsimp only at hE
    refine cw_seq ?_
    refine cw_quiet Ty.mixed (by decide +kernel) ?_
    refine kw_val rfl rfl (v_move rfl) ?_
    refine kw_val rfl rfl (v_gtr rfl rfl) ?_
    refine kw_val rfl rfl (v_move rfl) ?_
    refine kw_dec 75 rfl (fun hc75 => ?_) (fun hc75 => ?_)
    refine kw_val rfl rfl (v_move rfl) ?_
    refine kw_val rfl rfl (v_move rfl) ?_
    refine kw_val rfl rfl (v_sub rfl rfl (nw_i64 (by omega) (by omega))) ?_
    refine kw_val rfl rfl (v_indexAddr_ls Try.underlying99 (kdTy) rfl rfl (by assumption) (Int.toNat_of_nonneg (by omega)).symm (by omega)) ?_
    refine kw_val rfl rfl (v_load rfl (Go.Sl.Vw.var (kdTy) ((hL4.vw (by repeat (first | exact Sub.here | exact Sub.nil | assumption | refine Sub.there ?_)))) (by omega))) ?_
    refine kw_val rfl rfl (v_move rfl) ?_
    refine kw_val rfl rfl (v_move rfl) ?_
    refine kw_val rfl rfl (v_indexAddr_ls Try.underlying99 (kdTy) rfl rfl (by assumption) rfl (by omega)) ?_
    refine kw_val rfl rfl (v_load rfl (Go.Sl.Vw.var (kdTy) ((hL4.vw (by repeat (first | exact Sub.here | exact Sub.nil | assumption | refine Sub.there ?_)))) (by omega))) ?_
    refine kw_val rfl rfl (v_call rfl rfl (lessK_c)) ?_
    refine kw_val rfl rfl (v_not rfl) ?_
    refine kw_val rfl rfl (v_pick_true rfl rfl) ?_
    refine kw_nil ?_
    refine xw_then ?_
    refine cw_dec rfl (fun hc87 => ?_) (fun hc87 => ?_)
    rotate_left
    refine cw_skip ?_
    rotate_left
    refine kw_skip rfl rfl ?_
    refine kw_skip rfl rfl ?_
    refine kw_skip rfl rfl ?_
    refine kw_skip rfl rfl ?_
    refine kw_skip rfl rfl ?_
    refine kw_skip rfl rfl ?_
    refine kw_skip rfl rfl ?_
    refine kw_skip rfl rfl ?_
    refine kw_skip rfl rfl ?_
    refine kw_skip rfl rfl ?_
    refine kw_skip rfl rfl ?_
    refine kw_val rfl rfl (v_pick_false rfl rfl) ?_
    refine kw_nil ?_
    refine xw_then ?_
    refine cw_false rfl ?_
    refine cw_skip ?_
    rotate_left
    · rw [bangD (i := p - 1) _ (by omega), bangD (i := pv) _ rfl] at hc87
      obtain ⟨r1, r2, r3, r4, r5⟩ := Sort.round_eq Sort.swo_ltInt (Sort.partitionEqual_holds Sort.ltInt) (by omega) hpv.1 hpv.2 (by omega) hB4 (by simpa [Sort.ltInt] using hc87) hpe
      refine cw_seq ?_
      refine cw_region ?_
      refine ow_val rfl rfl (v_move rfl) ?_
      refine ow_val rfl rfl (v_move rfl) ?_
      refine ow_val rfl rfl (v_move rfl) ?_
      refine ow_val rfl rfl (v_move rfl) ?_
      (refine ow_call rfl rfl rfl rfl (hE) ?_; rintro _ _ ⟨x92, rfl, hq92, rfl⟩)
      refine ow_val rfl rfl (v_assign rfl) ?_
      refine ow_nil ?_
      refine xw_then ?_
      refine cw_seq ?_
      refine cw_region ?_
      refine ow_val rfl rfl (v_move rfl) ?_
      refine ow_val rfl rfl (v_assign rfl) ?_
      refine ow_nil ?_
      refine xw_then ?_
      refine cw_exit ?_
      refine xw_joint_exit ?_
      refine xw_block_exit ?_
      exact xw_round (⟨mid, q, l2, wb, wp, d5, x92⟩ : PdG) ⟨r2, hq, by dsimp only; omega, r3.trans hs4, r4, hl2, fun d' h1 h2 => by have h3 := r5 d' h1 h2; exact hQ4 d' h3.1 h3.2, hq92⟩ (by dsimp only; omega) (by first | exact Cov.refl _ | (intro p; simp only [List.flatten_cons, List.flatten_nil, List.flatten_append, List.append_nil, List.nil_append, cnt_append, cnt_cons, cnt_nil, List.set_cons_zero, List.set_cons_succ, List.length_nil, List.length_cons, Nat.zero_add, List.append]; omega)) (by repeat (first | exact True.intro | refine And.intro rfl ?_))
    · exact xw_joint () trivial (by first | exact Cov.refl _ | (intro p; simp only [List.flatten_cons, List.flatten_nil, List.flatten_append, List.append_nil, List.nil_append, cnt_append, cnt_cons, cnt_nil, List.set_cons_zero, List.set_cons_succ, List.length_nil, List.length_cons, Nat.zero_add, List.append]; omega)) (by repeat (first | exact True.intro | refine And.intro rfl ?_))
    · exact xw_joint () trivial (by first | exact Cov.refl _ | (intro p; simp only [List.flatten_cons, List.flatten_nil, List.flatten_append, List.append_nil, List.nil_append, cnt_append, cnt_cons, cnt_nil, List.set_cons_zero, List.set_cons_succ, List.length_nil, List.length_cons, Nat.zero_add, List.append]; omega)) (by repeat (first | exact True.intro | refine And.intro rfl ?_))
  rintro ⟨⟩ -
  rcases hpt : Sort.partition Sort.ltInt d4 p q pv with ⟨mid, ap, d5⟩
  have hE := partK_c (B := B) (w0 := w0) (a := p) (b := q) (pv := pv) (G := c4 :: F) .here hL4 hpv.1 hpv.2 (by omega) (by omega)
  rw [hpt] at hE
  dsimp only at hE
  obtain ⟨r1, r2, r3, r4, r5, r6, r7⟩ := Sort.round_part Sort.swo_ltInt (Sort.partition_holds Sort.ltInt) hpv.1 hpv.2 (by omega) hB4 hpt
  have hs5 : d5.size = d.size := r3.trans hs4
  refine cw_seq ?_
  refine cw_region ?_
  refine ow_val rfl rfl (v_move rfl) ?_
  refine ow_val rfl rfl (v_move rfl) ?_
  refine ow_val rfl rfl (v_move rfl) ?_
  refine ow_val rfl rfl (v_move rfl) ?_
  (refine ow_call rfl rfl rfl rfl (hE) ?_; rintro _ _ ⟨x99, rfl, hq99, rfl⟩)
  refine ow_val rfl rfl (v_move rfl) ?_
  refine ow_val rfl rfl (v_extract rfl rfl) ?_
  refine ow_val rfl rfl (v_extract rfl rfl) ?_
  refine ow_val rfl rfl (v_assign rfl) ?_
  refine ow_val rfl rfl (v_assign rfl) ?_
  refine ow_nil ?_
  refine xw_then ?_
  refine cw_seq ?_
  refine cw_region ?_
  refine ow_val rfl rfl (v_move rfl) ?_
  refine ow_val rfl rfl (v_assign rfl) ?_
  refine ow_nil ?_
  refine xw_then ?_
  refine cw_seq ?_
  refine cw_region ?_
  refine ow_val rfl rfl (v_move rfl) ?_
  refine ow_val rfl rfl (v_move rfl) ?_
  refine ow_val rfl rfl (v_sub rfl rfl (nw_i64 (by omega) (by omega))) ?_
  refine ow_val rfl rfl (v_move rfl) ?_
  refine ow_val rfl rfl (v_move rfl) ?_
  refine ow_val rfl rfl (v_sub rfl rfl (nw_i64 (by omega) (by omega))) ?_
  refine ow_val rfl rfl (v_assign rfl) ?_
  refine ow_val rfl rfl (v_assign rfl) ?_
  refine ow_nil ?_
  refine xw_then ?_
  refine cw_seq ?_
  refine cw_region ?_
  refine ow_val rfl rfl (v_move rfl) ?_
  refine ow_val rfl rfl (v_quoP_i64 rfl rfl (by omega) (by omega) (by omega)) ?_
  refine ow_val rfl rfl (v_assign rfl) ?_
  refine ow_nil ?_
  refine xw_then ?_
  refine cw_seq ?_
  refine cw_region ?_
  refine ow_val rfl rfl (v_move rfl) ?_
  refine ow_val rfl rfl (v_move rfl) ?_
  refine ow_val rfl rfl (v_lss rfl rfl) ?_
  refine ow_nil ?_
  refine xw_then ?_
  refine cw_dec rfl (fun hc113 => ?_) (fun hc113 => ?_)
  refine cw_seq ?_
  refine cw_region ?_
  refine ow_val rfl rfl (v_move rfl) ?_
  refine ow_val rfl rfl (v_move rfl) ?_
  refine ow_val rfl rfl (v_geq rfl rfl) ?_
  refine ow_val rfl rfl (v_assign rfl) ?_
  refine ow_nil ?_
  refine xw_then ?_
  refine cw_seq ?_
  refine cw_region ?_
  refine ow_val rfl rfl (v_move rfl) ?_
  refine ow_val rfl rfl (v_move rfl) ?_
  refine ow_val rfl rfl (v_move rfl) ?_
  refine ow_val rfl rfl (v_move rfl) ?_
  rotate_left
  refine cw_seq ?_
  refine cw_region ?_
  refine ow_val rfl rfl (v_move rfl) ?_
  refine ow_val rfl rfl (v_move rfl) ?_
  refine ow_val rfl rfl (v_geq rfl rfl) ?_
  refine ow_val rfl rfl (v_assign rfl) ?_
  refine ow_nil ?_
  refine xw_then ?_
  refine cw_seq ?_
  refine cw_region ?_
  refine ow_val rfl rfl (v_move rfl) ?_
  refine ow_val rfl rfl (v_move rfl) ?_
  refine ow_val rfl rfl (v_add rfl rfl (nw_i64 (by omega) (by omega))) ?_
  refine ow_val rfl rfl (v_move rfl) ?_
  refine ow_val rfl rfl (v_move rfl) ?_
  rotate_left
  · (refine ow_call rfl rfl rfl rfl (ih (mid - p) (by omega) (a := p) (b := mid) rfl rfl .here hq99 (Nat.le_refl _) r1 (by omega) (by omega) r4 hl2) ?_; rintro _ _ ⟨x121, rfl, hq121, rfl⟩)
    refine ow_nil ?_
    refine xw_then ?_
    refine cw_region ?_
    refine ow_val rfl rfl (v_move rfl) ?_
    refine ow_val rfl rfl (v_add rfl rfl (nw_i64 (by omega) (by omega))) ?_
    refine ow_val rfl rfl (v_assign rfl) ?_
    refine ow_nil ?_
    refine xw_block ?_
    obtain ⟨d6, c6⟩ := x121
    obtain ⟨hP6, hS6, hL6⟩ := hq121
    obtain ⟨s1, s2⟩ := r6 d6 hP6 hS6
    exact xw_round (⟨mid + 1, q, l2, decide (((q : Int) - p) / 8 ≤ (mid : Int) - p), ap, d6, c6⟩ : PdG) ⟨by dsimp only; omega, hq, by dsimp only; omega, hP6.1.trans hs5, s1, hl2, fun d' h1 h2 => by have h3 := s2 d' h1 h2; exact hQ4 d' h3.1 h3.2, hL6⟩ (by dsimp only; omega) (by first | exact Cov.refl _ | (intro p; simp only [List.flatten_cons, List.flatten_nil, List.flatten_append, List.append_nil, List.nil_append, cnt_append, cnt_cons, cnt_nil, List.set_cons_zero, List.set_cons_succ, List.length_nil, List.length_cons, Nat.zero_add, List.append]; omega)) (by repeat (first | exact True.intro | refine And.intro rfl ?_))
  · (refine ow_call rfl rfl rfl rfl (ih (q - (mid + 1)) (by omega) (a := mid + 1) (b := q) rfl rfl .here hq99 (Nat.le_refl _) (by omega) (by omega) (by omega) r5 hl2) ?_; rintro _ _ ⟨x132, rfl, hq132, rfl⟩)
    refine ow_nil ?_
    refine xw_then ?_
    refine cw_region ?_
    refine ow_val rfl rfl (v_move rfl) ?_
    refine ow_val rfl rfl (v_assign rfl) ?_
    refine ow_nil ?_
    refine xw_block ?_
    obtain ⟨d6, c6⟩ := x132
    obtain ⟨hP6, hS6, hL6⟩ := hq132
    obtain ⟨s1, s2⟩ := r7 d6 hP6 hS6
    exact xw_round (⟨p, mid, l2, decide (((q : Int) - p) / 8 ≤ (q : Int) - mid), ap, d6, c6⟩ : PdG) ⟨r1, by dsimp only; omega, by dsimp only; omega, hP6.1.trans hs5, s1, hl2, fun d' h1 h2 => by have h3 := s2 d' h1 h2; exact hQ4 d' h3.1 h3.2, hL6⟩ (by dsimp only; omega) (by first | exact Cov.refl _ | (intro p; simp only [List.flatten_cons, List.flatten_nil, List.flatten_append, List.append_nil, List.nil_append, cnt_append, cnt_cons, cnt_nil, List.set_cons_zero, List.set_cons_succ, List.length_nil, List.length_cons, Nat.zero_add, List.append]; omega)) (by repeat (first | exact True.intro | refine And.intro rfl ?_))
/-- what the library's Sort leaves -/
theorem sortK_c {B : Nat} {w0 : World} {G : List Hp} {R : Hp → List Hp} {ao : Option Addr} {n cap : Nat} {c : Hp} {l : List Int} (hsel : Sel G c R) (hL : Ls enKd 59 (.slice ao n cap) c l) (hn : l.length < 60000) :
    Go.Sl.Fn Try.prog 61 #[.slice ao n cap] B w0 G fun u G' => ∃ x : List Int × Hp, u = .tuple #[] ∧ (x.1.Perm l ∧ x.1.Pairwise (· ≤ ·) ∧ Ls enKd 59 (.slice ao n cap) x.2 x.1) ∧ G' = R x.2 := by
  refine Fn.sel0 hsel fun F hR hF => ?_
  have hl := hL.len
  subst hl
  refine fn_enter Try.func61 rfl (by kernel_rfl) Try.ntmps61 (by simp) ?_
  refine cw_seq ?_
  refine cw_region ?_
  refine ow_val rfl rfl (v_move rfl) ?_
  refine ow_val rfl rfl (v_len rfl Try.underlying99 rfl) ?_
  refine ow_val rfl rfl (v_assign rfl) ?_
  refine ow_nil ?_
  refine xw_then ?_
  refine cw_region ?_
  refine ow_val rfl rfl (v_move rfl) ?_
  refine ow_val rfl rfl (v_move rfl) ?_
  refine ow_val rfl rfl (v_move rfl) ?_
  refine ow_val rfl rfl (v_convert Try.underlying3 Try.underlying166 rfl (nw_u64 (by omega) (by omega))) ?_
  (refine ow_call rfl rfl rfl rfl (len_c (n := l.length) rfl (by omega)) ?_; rintro _ _ ⟨x9, rfl, hq9, rfl⟩)
  have h16 := hq9.2.2
  (refine ow_call rfl rfl rfl rfl (pdqK_c l.length (a := 0) (b := l.length) (d := l.toArray) rfl rfl .here (by exact hL) (Nat.le_refl _) (Nat.zero_le _) (by simp) (by simpa using hn) (.inl rfl) (by omega)) ?_; rintro _ _ ⟨x10, rfl, hq10, rfl⟩)
  refine ow_nil ?_
  refine ret0n rfl ?_
  obtain ⟨d2, c2⟩ := x10
  obtain ⟨hP, hS, hL2⟩ := hq10
  exact ⟨(d2.toList, c2), rfl, ⟨perm_all hP, sorted_all hP.1 hS, hL2⟩, (by first | exact Cov.refl _ | (intro p; simp only [List.flatten_cons, List.flatten_nil, List.flatten_append, List.append_nil, List.nil_append, cnt_append, cnt_cons, cnt_nil, List.set_cons_zero, List.set_cons_succ, List.length_nil, List.length_cons, Nat.zero_add, List.append]; omega))⟩

end Go.Proofs.Ytckdhelnafjddaa
