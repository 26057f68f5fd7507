/- AcksForgets: whatever the input it returns true, and the input reads as it did. Conditions: none. -/
import Derived.Test.YtbpnnkkbaakdjaaAcksLaw
import Derived.Test.YtbpnnkkbaakdjaaForm
namespace Go.Proofs.Ytbpnnkkbaakdjaa.lawAcksForgets
open Go Go.Sl Go.Proofs Go.RowKit Go.ChangeShapes Go.WideShapes Go.ChangeAt Go.Proofs.Ytbpnnkkbaakdjaa
set_option maxRecDepth 20000
set_option linter.unusedVariables false
set_option linter.unusedSimpArgs false

theorem u8Ty : EncTy Try.prog 5 enB := enB_ty Ty.sc5
/-- the law's map: which numbers it had -/
def hadF (h : Int → Bool) (k : Int) : Option Value := if h k = true then some (.bool true) else none
theorem hadF_upd (h : Int → Bool) (k : Int) : (fun j => if j = k then some (Value.bool true) else hadF h j) = hadF (fun j => decide (j = k) || h j) := by
  funext j
  unfold hadF
  by_cases hj : j = k <;> simp [hj]
theorem v_had {N : Nat} {B : Nat} {w0 : World} {G : List Hp} {E : Env} {ty : TypeId} {x y : Operand} {b : Nat} {k : Int} {h : Int → Bool} {c : Hp} (hx : Env.ev E x = some (.map (some b))) (hy : Env.ev E y = some (.int .u64 k)) (hs : Sub c G) (hM : MapF .u64 (hadF h) b c) : OpV Try.prog (St B w0 G) N E (.lookup 81 x y false) ty (.bool (h k)) := by
  have h1 := v_lookupM0 (P := Try.prog) (N := N) (B := B) (w0 := w0) (ty := ty) Try.underlying81 Try.underlying23 (z := .bool false) (fun w => by kernel_rfl) hx hy hs hM
  rw [show (hadF h k).getD (Value.bool false) = .bool (h k) from by unfold hadF; by_cases hk : h k = true <;> simp [hk]] at h1
  exact h1
structure Ix where
  i : Nat
  m : CameM
  c : Hp
  h : Int → Bool
  cm : Hp
structure Keeps (m : CameM) (h : Int → Bool) : Prop where
  good : Good m.l
  mem : ∀ k, InR m.l k ↔ h k = true
  low : ∀ k, h k = true → 0 ≤ k ∧ k < 60
  below : m.below = 0
  wanted : m.wanted = false
structure Inv (b b6 : Nat) (x : Ix) : Prop where
  keeps : Keeps x.m x.h
  at_ : CameAt x.m b x.c
  map_ : MapF .u64 (hadF x.h) b6 x.cm
theorem Keeps.len {m : CameM} {h : Int → Bool} (hk : Keeps m h) : m.l.length ≤ 30 := by
  have := good_len2 (u := 0) (v := 60) hk.good (by omega) (in_bounds hk.good fun n hn => hk.low n ((hk.mem n).1 hn))
  omega
theorem Keeps.wf {m : CameM} {h : Int → Bool} (hk : Keeps m h) : m.WF := ⟨hk.good, by have := hk.len; omega, by have := hk.below; omega⟩
theorem had_iff {m : CameM} {h : Int → Bool} (hk : Keeps m h) (n : Int) : hasR m.l n = h n := by
  rw [Bool.eq_iff_iff, hasR_iff, hk.mem]
/-- a number more -/
theorem Keeps.add {m : CameM} {h : Int → Bool} (hk : Keeps m h) {k : Int} (h0 : 0 ≤ k ∧ k < 60) : Keeps (m.add k 1 false).1 (fun j => decide (j = k) || h j) ∧ (m.add k 1 false).2 = if h k = true then 18 else 0 := by
  unfold CameM.add
  rw [if_neg (by omega), had_iff hk, hk.below, decide_eq_false (by omega : ¬ k < 0), Bool.false_or]
  by_cases hh : h k = true
  · rw [if_pos hh, if_pos hh]
    refine ⟨⟨hk.good, fun j => ?_, fun j hj => ?_, hk.below, hk.wanted⟩, rfl⟩
    · rw [hk.mem]
      by_cases hj : j = k
      · subst hj; simp [hh]
      · simp [hj]
    · by_cases h1 : j = k
      · omega
      · simp [h1] at hj; exact hk.low j hj
  · rw [if_neg hh, if_neg hh]
    have hrg : RgIn ⟨k, k + 1⟩ := ⟨by dsimp only; omega, by dsimp only; omega⟩
    obtain ⟨g1, g2, g3⟩ := addE_spec hk.good hrg
    have hl := hk.len
    have hal : addE m.l ⟨k, k + 1⟩ = addL m.l ⟨k, k + 1⟩ := if_pos (by dsimp only; omega)
    have hlast : (⟨32, m.l⟩ : SetM).addLast ⟨k, k + 1⟩ = (⟨32, addE m.l ⟨k, k + 1⟩⟩, 0) := by
      unfold SetM.addLast
      rw [if_neg (by dsimp only; omega)]
      have h1 : max (((addL m.l ⟨k, k + 1⟩).length : Int) - max 32 1) 0 = 0 := by rw [← hal]; omega
      dsimp only
      rw [h1, hal]
      rfl
    have hput : m.put k = { m with l := addE m.l ⟨k, k + 1⟩ } := by
      unfold CameM.put
      rw [hlast, if_neg (by dsimp only; omega)]
    have hmk : ∀ x : CameM, Keeps x (fun j => decide (j = k) || h j) → Keeps (x.mark k 1) (fun j => decide (j = k) || h j) := fun x hx => by
      unfold CameM.mark
      split
      · exact hx
      · exact ⟨hx.good, hx.mem, hx.low, hx.below, hx.wanted⟩
    refine ⟨?_, rfl⟩
    dsimp only
    rw [if_neg (by decide)]
    apply hmk
    rw [hput]
    refine ⟨g1, fun j => ?_, fun j hj => ?_, hk.below, hk.wanted⟩
    · rw [g2, hk.mem]
      by_cases hj : j = k
      · subst hj; simp; omega
      · simp [hj]; omega
    · by_cases h1 : j = k
      · omega
      · simp [h1] at hj; exact hk.low j hj
theorem neAdd (b : Bool) : ¬ decide ((if b = true then (18 : Int) else 0) = 0) = b := by cases b <;> decide
theorem forget_spec {m : CameM} {h : Int → Bool} (hk : Keeps m h) {k : Int} (h0 : 0 ≤ k ∧ k < 64) : Good (m.forget k).l ∧ (m.forget k).l.length ≤ 31 ∧ (∀ j, hasR (m.forget k).l j = (h j && decide (k ≤ j))) ∧ (m.forget k).below = k ∧ (m.forget k).wanted = false := by
  have hl := hk.len
  unfold CameM.forget
  split
  · rename_i h1
    have h2 : k = 0 := by have := hk.below; omega
    subst h2
    refine ⟨hk.good, by omega, fun j => ?_, hk.below, hk.wanted⟩
    rw [had_iff hk]
    cases hj : h j with
    | false => rfl
    | true => have := hk.low j hj; rw [decide_eq_true this.1]; rfl
  · have hrg : RgIn ⟨0, k⟩ := ⟨by dsimp only; omega, by dsimp only; omega⟩
    obtain ⟨g1, g2, g3⟩ := cutE_spec hk.good hrg
    refine ⟨g1, by dsimp only; omega, fun j => ?_, rfl, hk.wanted⟩
    rw [Bool.eq_iff_iff, hasR_iff, g2, hk.mem]
    simp only [Bool.and_eq_true, decide_eq_true_eq]
    constructor
    · rintro ⟨h3, h4⟩; have := hk.low j h3; exact ⟨h3, by omega⟩
    · rintro ⟨h3, h4⟩; exact ⟨h3, by omega⟩
theorem hasR_succ {l : List Rg} {n : Int} {j : Nat} (h : j < l.length) : hasR (l.take (j + 1)) n = (hasR (l.take j) n || (decide (l[j].a ≤ n) && decide (n < l[j].b))) := by
  unfold hasR
  rw [List.take_succ_eq_append_getElem h, List.any_append]
  simp

set_option maxHeartbeats 8000000 in
theorem law {B : Nat} {w0 : World} {ns : List UInt8} {below : Int} {aoN : Option Addr} {capN : Nat} (hb : 0 ≤ below ∧ below ≤ 255) (hl : ns.length ≤ 9223372036854775807) (hN : ∀ G, Vw enB (St B w0 G) (.slice aoN ns.length capN) ns) :
    FnC Try.prog 9 #[.slice aoN ns.length capN, .int .u8 below] B w0 [] (R0 (.bool true)) := fun F => by
  refine fn_enter Try.func9 rfl (by kernel_rfl) Try.ntmps9 (by simp) ?_
  refine Go.Sl.cw_seq ?_
  refine Go.Sl.cw_region ?_
  refine Go.Sl.ow_val rfl rfl (Go.Sl.v_assign rfl) ?_
  refine Go.Sl.ow_nil ?_
  refine Go.Sl.xw_then ?_
  refine Go.Sl.cw_seq ?_
  refine Go.Sl.cw_seq ?_
  refine Go.Sl.cw_region ?_
  refine Go.Sl.ow_val rfl rfl (Go.Sl.v_call rfl rfl (acksAwake_c)) ?_
  refine Go.Sl.ow_val rfl rfl (Go.Sl.v_not_true rfl) ?_
  refine Go.Sl.ow_nil ?_
  refine Go.Sl.xw_then ?_
  refine Go.Sl.cw_false rfl ?_
  refine Go.Sl.cw_skip ?_
  refine Go.Sl.xw_then ?_
  refine Go.Sl.cw_seq ?_
  refine Go.Sl.cw_seq ?_
  refine Go.Sl.cw_region ?_
  refine Go.Sl.ow_val rfl rfl (Go.Sl.v_move rfl) ?_
  refine Go.Sl.ow_val rfl rfl (Go.Sl.v_len rfl Try.underlying57 rfl) ?_
  refine Go.Sl.ow_val rfl rfl (Go.Sl.v_gtr rfl rfl) ?_
  refine Go.Sl.ow_nil ?_
  refine Go.Sl.xw_then ?_
  refine Go.Sl.cw_dec rfl (fun hc21 => ?_) (fun hc21 => ?_)
  refine Go.Sl.cw_seq ?_
  refine Go.Sl.cw_region ?_
  refine Go.Sl.ow_val rfl rfl (Go.Sl.v_assign rfl) ?_
  refine Go.Sl.ow_nil ?_
  refine Go.Sl.xw_then ?_
  refine Go.Sl.cw_ret ?_
  refine Go.Sl.xw_then_ret ?_
  refine Go.Sl.ret1 rfl (Go.Sl.res_tmp rfl) ?_
  rotate_left
  refine Go.Sl.cw_skip ?_
  refine Go.Sl.xw_then ?_
  refine Go.Sl.cw_seq ?_
  refine Go.Sl.cw_region ?_
  (refine Go.Sl.ow_call rfl rfl rfl rfl (newAcks_c) ?_; rintro _ _ ⟨x22, rfl, hq22, rfl⟩)
  refine Go.Sl.ow_val rfl rfl (Go.Sl.v_assign rfl) ?_
  refine Go.Sl.ow_nil ?_
  refine Go.Sl.xw_then ?_
  refine Go.Sl.cw_seq ?_
  refine Go.Sl.cw_region ?_
  rotate_left
  · exact done0 rfl (by first | exact Go.Sl.Cov.refl _ | (intro p; simp only [List.flatten_cons, List.flatten_nil, List.flatten_append, List.append_nil, List.nil_append, Go.Sl.cnt_append, Go.Sl.cnt_cons, Go.Sl.cnt_nil, List.set_cons_zero, List.set_cons_succ, List.length_nil, List.length_cons, Nat.zero_add, List.append]; omega))
  refine Go.Sl.ow_makeMap (kd := .u64) rfl rfl ?_
  intro b6 c6 hM6
  refine Go.Sl.ow_val rfl rfl (Go.Sl.v_assign rfl) ?_
  refine Go.Sl.ow_nil ?_
  refine Go.Sl.xw_then ?_
  have hq0 : CameAt ⟨5, [], 0, false, 0, 0, false, 0⟩ x22.1 x22.2 := hq22
  refine Go.Sl.cw_cut2 (ι := (Ix)) [(1, _), (5, _), (6, _), (17, _)] ⟨rfl, rfl, rfl, rfl, trivial⟩ ((fun _ => [])) ((fun x => Inv x22.1 b6 x)) ((fun x => x.cm :: x.c :: F)) ?_ ?_
  · refine Go.Sl.cw_seq ?_
    refine Go.Sl.cw_region ?_
    refine Go.Sl.ow_val rfl rfl (Go.Sl.v_move rfl) ?_
    refine Go.Sl.ow_val rfl rfl (Go.Sl.v_len rfl Try.underlying57 rfl) ?_
    refine Go.Sl.ow_val rfl rfl (Go.Sl.v_move rfl) ?_
    refine Go.Sl.ow_nil ?_
    refine Go.Sl.xw_then ?_
    refine Go.Sl.cw_block ?_
    refine Go.Sl.cw_loop2 (ι := (Ix)) [(1, _), (5, _), (6, _), (17, _), (24, _), (25, _)] ⟨rfl, rfl, rfl, rfl, rfl, rfl, trivial⟩ ((fun x => [(26, .int .i64 x.i)])) ((fun x => x.i ≤ ns.length ∧ Inv x22.1 b6 x)) ((fun x => ns.length - x.i)) ((fun x => x.cm :: x.c :: F)) ((⟨0, ⟨5, [], 0, false, 0, 0, false, 0⟩, x22.2, fun _ => false, c6⟩ : Ix)) (by repeat (first | exact True.intro | refine And.intro rfl ?_)) (by first | exact Go.Sl.Cov.refl _ | (intro p; simp only [List.flatten_cons, List.flatten_nil, List.flatten_append, List.append_nil, List.nil_append, Go.Sl.cnt_append, Go.Sl.cnt_cons, Go.Sl.cnt_nil, List.set_cons_zero, List.set_cons_succ, List.length_nil, List.length_cons, Nat.zero_add, List.append]; omega)) ?_ ?_
    · exact ⟨Nat.zero_le _, ⟨Good.nil, (fun k => by simp [InR.nil]), (fun k h => by cases h), rfl, rfl⟩, hq0, hM6⟩
    rintro ⟨i, m, c, h, cm⟩ ⟨hi, hK, hO, hM⟩
    dsimp only at hi hK hO hM ⊢
    refine Go.Sl.cw_seq ?_
    refine Go.Sl.cw_region ?_
    refine Go.Sl.ow_val rfl rfl (Go.Sl.v_lss rfl rfl) ?_
    refine Go.Sl.ow_nil ?_
    refine Go.Sl.xw_then ?_
    refine Go.Sl.cw_seq ?_
    refine Go.Sl.cw_dec rfl (fun hc27 => ?_) (fun hc27 => ?_)
    refine Go.Sl.cw_skip ?_
    refine Go.Sl.xw_then ?_
    rotate_left
    refine Go.Sl.cw_exit ?_
    refine Go.Sl.xw_then_exit ?_
    refine Go.Sl.xw_round_exit ?_
    refine Go.Sl.xw_block_exit ?_
    rotate_left
    · have hi2 : i < ns.length := by omega
      have hbt := (ns[i]).toNat_lt
      have htm := tmodB (k := ((ns[i]).toNat : Int)) (n := 60) (by omega) (by decide)
      obtain ⟨hK2, hK3⟩ := hK.add htm
      have hadd : ∀ {G : List Hp} {R : Hp → List Hp}, Sel G c R → Go.Sl.Fn Try.prog 50 #[.pointer (some ⟨x22.1, 0, none⟩), .int .u64 (((ns[i]).toNat : Int).tmod 60), .int .u64 1, .bool false] B w0 G fun u G' => ∃ c' : Hp, u = .int .i64 (if h (((ns[i]).toNat : Int).tmod 60) = true then 18 else 0) ∧ CameAt (m.add (((ns[i]).toNat : Int).tmod 60) 1 false).1 x22.1 c' ∧ G' = R c' := fun hs => by
        have h1 := acksAdd_c (B := B) (w0 := w0) (el := false) hs hO hK.wf (n := ((ns[i]).toNat : Int).tmod 60) (now := 1) (by omega) (by omega)
        rw [hK3] at h1
        exact h1
      refine Go.Sl.cw_seq ?_
      refine Go.Sl.cw_block ?_
      refine Go.Sl.cw_seq ?_
      refine Go.Sl.cw_region ?_
      refine Go.Sl.ow_val rfl rfl (Go.Sl.v_indexAddr_vw Try.underlying57 (u8Ty) rfl rfl (hN []) rfl (by omega)) ?_
      refine Go.Sl.ow_val rfl rfl (Go.Sl.v_load rfl (Go.Sl.Vw.var (u8Ty) (hN _) (by omega))) ?_
      refine Go.Sl.ow_val rfl rfl (Go.Sl.v_assign rfl) ?_
      refine Go.Sl.ow_nil ?_
      refine Go.Sl.xw_then ?_
      refine Go.Sl.cw_seq ?_
      refine Go.Sl.cw_region ?_
      refine Go.Sl.ow_val rfl rfl (Go.Sl.v_move rfl) ?_
      refine Go.Sl.ow_val rfl rfl (Go.Sl.v_rem rfl rfl (by decide)) ?_
      refine Go.Sl.ow_val rfl rfl (Go.Sl.v_convert Try.underlying5 Try.underlying23 rfl (Go.Sl.nw_u64 (by omega) (by omega))) ?_
      refine Go.Sl.ow_val rfl rfl (Go.Sl.v_assign rfl) ?_
      refine Go.Sl.ow_nil ?_
      refine Go.Sl.xw_then ?_
      refine Go.Sl.cw_cut2 (ι := (Hp)) [(1, _), (5, _), (6, _), (9, _), (17, _), (24, _), (25, _), (26, _)] ⟨rfl, rfl, rfl, rfl, rfl, rfl, rfl, rfl, trivial⟩ ((fun _ => [])) ((fun x => CameAt (m.add (((ns[i]).toNat : Int).tmod 60) 1 false).1 x22.1 x)) ((fun x => cm :: x :: F)) ?_ ?_
      · refine Go.Sl.cw_seq ?_
        refine Go.Sl.cw_any Ty.mixed ?_
        refine Go.Sl.aw_pure 0 rfl (by decide +kernel) rfl rfl (Go.Sl.v_move rfl) rfl ?_
        refine Go.Sl.aw_pure 1 rfl (by decide +kernel) rfl rfl (Go.Sl.v_move rfl) rfl ?_
        refine Go.Sl.aw_pure 4 rfl (by decide +kernel) rfl rfl (Go.Sl.v_move rfl) rfl ?_
        refine Go.Sl.aw_pure 5 rfl (by decide +kernel) rfl rfl (Go.Sl.v_move rfl) rfl ?_
        refine Go.Sl.aw_step2 2 6 (by decide +kernel) rfl rfl ?_ ?_
        (refine Go.Sl.ow_call rfl rfl rfl rfl (hadd (by repeat (first | exact Go.Sl.Sel.here | apply Go.Sl.Sel.there))) ?_; rintro _ _ ⟨x35, rfl, hq35, rfl⟩)
        refine Go.Sl.ow_nil ?_
        refine Go.Sl.xw_nx ?_
        refine Go.Sl.aw_pure 3 rfl (by decide +kernel) rfl rfl (Go.Sl.v_eql rfl rfl) rfl ?_
        refine Go.Sl.aw_step1 6 (by decide +kernel) rfl ?_
        refine Go.Sl.ow_val rfl rfl ((v_had rfl rfl (by repeat (first | exact Go.Sl.Sub.here | assumption | refine Go.Sl.Sub.there ?_)) hM)) ?_
        refine Go.Sl.ow_nil ?_
        refine Go.Sl.xw_nx ?_
        refine Go.Sl.aw_pure 7 rfl (by decide +kernel) rfl rfl (Go.Sl.v_eqlB Try.underlying4 rfl rfl) rfl ?_
        refine Go.Sl.aw_end (by decide +kernel) ?_
        refine Go.Sl.xw_np ?_
        refine Go.Sl.xw_then ?_
        refine Go.Sl.cw_dec rfl (fun hc40 => ?_) (fun hc40 => ?_)
        refine Go.Sl.cw_seq ?_
        refine Go.Sl.cw_region ?_
        refine Go.Sl.ow_val rfl rfl (Go.Sl.v_assign rfl) ?_
        refine Go.Sl.ow_nil ?_
        refine Go.Sl.xw_then ?_
        refine Go.Sl.cw_ret ?_
        refine Go.Sl.xw_joint_ret ?_
        refine Go.Sl.xw_block_ret ?_
        refine Go.Sl.xw_then_ret ?_
        refine Go.Sl.xw_round_ret ?_
        refine Go.Sl.xw_block_ret ?_
        refine Go.Sl.xw_joint_ret ?_
        refine Go.Sl.ret1 rfl (Go.Sl.res_tmp rfl) ?_
        rotate_left
        refine Go.Sl.cw_skip ?_
        rotate_left
        refine Go.Sl.ow_val rfl rfl ((v_had rfl rfl (by repeat (first | exact Go.Sl.Sub.here | assumption | refine Go.Sl.Sub.there ?_)) hM)) ?_
        refine Go.Sl.ow_nil ?_
        refine Go.Sl.xw_nx ?_
        refine Go.Sl.aw_step1 2 (by decide +kernel) rfl ?_
        (refine Go.Sl.ow_call rfl rfl rfl rfl (hadd (by repeat (first | exact Go.Sl.Sel.here | apply Go.Sl.Sel.there))) ?_; rintro _ _ ⟨x35, rfl, hq35, rfl⟩)
        refine Go.Sl.ow_nil ?_
        refine Go.Sl.xw_nx ?_
        refine Go.Sl.aw_pure 3 rfl (by decide +kernel) rfl rfl (Go.Sl.v_eql rfl rfl) rfl ?_
        refine Go.Sl.aw_pure 7 rfl (by decide +kernel) rfl rfl (Go.Sl.v_eqlB Try.underlying4 rfl rfl) rfl ?_
        refine Go.Sl.aw_end (by decide +kernel) ?_
        refine Go.Sl.xw_np ?_
        refine Go.Sl.xw_then ?_
        refine Go.Sl.cw_dec rfl (fun hc40 => ?_) (fun hc40 => ?_)
        refine Go.Sl.cw_seq ?_
        refine Go.Sl.cw_region ?_
        refine Go.Sl.ow_val rfl rfl (Go.Sl.v_assign rfl) ?_
        refine Go.Sl.ow_nil ?_
        refine Go.Sl.xw_then ?_
        refine Go.Sl.cw_ret ?_
        refine Go.Sl.xw_joint_ret ?_
        refine Go.Sl.xw_block_ret ?_
        refine Go.Sl.xw_then_ret ?_
        refine Go.Sl.xw_round_ret ?_
        refine Go.Sl.xw_block_ret ?_
        refine Go.Sl.xw_joint_ret ?_
        refine Go.Sl.ret1 rfl (Go.Sl.res_tmp rfl) ?_
        rotate_left
        refine Go.Sl.cw_skip ?_
        rotate_left
        all_goals first
          | exact absurd hc40 (neAdd _)
          | exact xw_joint x35 hq35 (by first | exact Go.Sl.Cov.refl _ | (intro p; simp only [List.flatten_cons, List.flatten_nil, List.flatten_append, List.append_nil, List.nil_append, Go.Sl.cnt_append, Go.Sl.cnt_cons, Go.Sl.cnt_nil, List.set_cons_zero, List.set_cons_succ, List.length_nil, List.length_cons, Nat.zero_add, List.append]; omega)) (by repeat (first | exact True.intro | refine And.intro rfl ?_))
      rintro c2 hO2
      refine Go.Sl.cw_region ?_
      refine Go.Sl.ow_val rfl rfl (Go.Sl.v_move rfl) ?_
      refine Go.Sl.ow_val rfl rfl (Go.Sl.v_move rfl) ?_
      refine Go.Sl.ow_mapUpdate (kd := .u64) rfl Try.underlying81 Try.underlying23 rfl rfl rfl (by repeat (first | exact Go.Sl.Sel.here | apply Go.Sl.Sel.there)) hM ?_
      intro cm2 hM2
      rw [hadF_upd] at hM2
      refine Go.Sl.ow_nil ?_
      refine Go.Sl.xw_block ?_
      refine Go.Sl.xw_then ?_
      refine Go.Sl.cw_region ?_
      refine Go.Sl.ow_val rfl rfl (Go.Sl.v_add rfl rfl (Go.Sl.nw_i64 (by omega) (by omega))) ?_
      refine Go.Sl.ow_val rfl rfl (Go.Sl.v_move rfl) ?_
      refine Go.Sl.ow_nil ?_
      exact xw_round (⟨i + 1, (m.add (((ns[i]).toNat : Int).tmod 60) 1 false).1, c2, fun j => decide (j = (((ns[i]).toNat : Int).tmod 60)) || h j, cm2⟩ : Ix) ⟨by dsimp only; omega, hK2, hO2, hM2⟩ (by dsimp only; omega) (by first | exact Go.Sl.Cov.refl _ | (intro p; simp only [List.flatten_cons, List.flatten_nil, List.flatten_append, List.append_nil, List.nil_append, Go.Sl.cnt_append, Go.Sl.cnt_cons, Go.Sl.cnt_nil, List.set_cons_zero, List.set_cons_succ, List.length_nil, List.length_cons, Nat.zero_add, List.append]; omega)) (by repeat (first | exact True.intro | refine And.intro rfl ?_))
    · exact xw_joint (⟨i, m, c, h, cm⟩ : Ix) ⟨hK, hO, hM⟩ (by first | exact Go.Sl.Cov.refl _ | (intro p; simp only [List.flatten_cons, List.flatten_nil, List.flatten_append, List.append_nil, List.nil_append, Go.Sl.cnt_append, Go.Sl.cnt_cons, Go.Sl.cnt_nil, List.set_cons_zero, List.set_cons_succ, List.length_nil, List.length_cons, Nat.zero_add, List.append]; omega)) (by repeat (first | exact True.intro | refine And.intro rfl ?_))
  rintro ⟨_, m, c, h, cm⟩ ⟨hK, hO, hM⟩
  dsimp only at hK hO hM ⊢
  have htm := tmodB (k := below) (n := 64) hb.1 (by decide)
  obtain ⟨f1, f2, f3, f4, f5⟩ := forget_spec hK htm
  refine Go.Sl.cw_seq ?_
  refine Go.Sl.cw_region ?_
  refine Go.Sl.ow_val rfl rfl (Go.Sl.v_move rfl) ?_
  refine Go.Sl.ow_val rfl rfl (Go.Sl.v_rem rfl rfl (by decide)) ?_
  refine Go.Sl.ow_val rfl rfl (Go.Sl.v_convert Try.underlying5 Try.underlying23 rfl (Go.Sl.nw_u64 (by omega) (by omega))) ?_
  refine Go.Sl.ow_val rfl rfl (Go.Sl.v_assign rfl) ?_
  refine Go.Sl.ow_nil ?_
  refine Go.Sl.xw_then ?_
  refine Go.Sl.cw_seq ?_
  refine Go.Sl.cw_region ?_
  refine Go.Sl.ow_val rfl rfl (Go.Sl.v_move rfl) ?_
  refine Go.Sl.ow_val rfl rfl (Go.Sl.v_move rfl) ?_
  (refine Go.Sl.ow_call rfl rfl rfl rfl (acksForget_c (by repeat (first | exact Go.Sl.Sel.here | apply Go.Sl.Sel.there)) hO hK.wf (n := below.tmod 64) (by omega)) ?_; rintro _ _ ⟨x49, rfl, hq49, rfl⟩)
  refine Go.Sl.ow_nil ?_
  refine Go.Sl.xw_then ?_
  generalize hm2 : m.forget (below.tmod 64) = m2 at *
  have hw2 : m2.WF := ⟨f1, by omega, by omega⟩
  refine Go.Sl.cw_seq ?_
  refine Go.Sl.cw_seq ?_
  refine Go.Sl.cw_region ?_
  refine Go.Sl.ow_val rfl rfl (Go.Sl.v_move rfl) ?_
  refine Go.Sl.ow_nil ?_
  refine Go.Sl.xw_then ?_
  refine Go.Sl.cw_block ?_
  refine Go.Sl.cw_loop2 (ι := (Nat)) [(1, _), (5, _), (6, _), (10, _), (17, _)] ⟨rfl, rfl, rfl, rfl, rfl, trivial⟩ ((fun n => [(50, .int .u64 n)])) ((fun n => n ≤ 64)) ((fun n => 64 - n)) ((fun _ => cm :: x49 :: F)) (0) (by repeat (first | exact True.intro | refine And.intro rfl ?_)) (by first | exact Go.Sl.Cov.refl _ | (intro p; simp only [List.flatten_cons, List.flatten_nil, List.flatten_append, List.append_nil, List.nil_append, Go.Sl.cnt_append, Go.Sl.cnt_cons, Go.Sl.cnt_nil, List.set_cons_zero, List.set_cons_succ, List.length_nil, List.length_cons, Nat.zero_add, List.append]; omega)) ?_ ?_
  · exact Nat.zero_le _
  rintro n hn
  refine Go.Sl.cw_seq ?_
  refine Go.Sl.cw_region ?_
  refine Go.Sl.ow_val rfl rfl (Go.Sl.v_lss rfl rfl) ?_
  refine Go.Sl.ow_nil ?_
  refine Go.Sl.xw_then ?_
  refine Go.Sl.cw_seq ?_
  refine Go.Sl.cw_dec rfl (fun hc51 => ?_) (fun hc51 => ?_)
  refine Go.Sl.cw_skip ?_
  refine Go.Sl.xw_then ?_
  rotate_left
  refine Go.Sl.cw_exit ?_
  refine Go.Sl.xw_then_exit ?_
  refine Go.Sl.xw_round_exit ?_
  refine Go.Sl.xw_block_exit ?_
  refine Go.Sl.xw_then ?_
  rotate_left
  · refine Go.Sl.cw_seq ?_
    refine Go.Sl.cw_block ?_
    refine Go.Sl.cw_seq ?_
    refine Go.Sl.cw_region ?_
    refine Go.Sl.ow_val rfl rfl (Go.Sl.v_move rfl) ?_
    refine Go.Sl.ow_val rfl rfl (Go.Sl.v_assign rfl) ?_
    refine Go.Sl.ow_nil ?_
    refine Go.Sl.xw_then ?_
    refine Go.Sl.cw_seq ?_
    refine Go.Sl.cw_region ?_
    refine Go.Sl.ow_val rfl rfl (Go.Sl.v_assign rfl) ?_
    refine Go.Sl.ow_nil ?_
    refine Go.Sl.xw_then ?_
    refine Go.Sl.cw_seq ?_
    refine Go.Sl.cw_seq ?_
    refine Go.Sl.cw_region ?_
    refine Go.Sl.ow_val rfl rfl (Go.Sl.v_move rfl) ?_
    (refine Go.Sl.ow_call rfl rfl rfl rfl (acksRanges_c hq49 (by repeat (first | exact Go.Sl.Sub.here | assumption | refine Go.Sl.Sub.there ?_)) hw2) ?_; rintro _ _ ⟨x54, rfl, hq54, rfl⟩)
    refine Go.Sl.ow_val rfl rfl (Go.Sl.v_len rfl Try.underlying34 rfl) ?_
    refine Go.Sl.ow_val rfl rfl (Go.Sl.v_move rfl) ?_
    refine Go.Sl.ow_nil ?_
    refine Go.Sl.xw_then ?_
    refine Go.Sl.cw_block ?_
    refine Go.Sl.cw_loop2 (ι := (Nat)) [(1, _), (5, _), (6, _), (10, _), (11, _), (17, _), (50, _), (54, _), (55, _)] ⟨rfl, rfl, rfl, rfl, rfl, rfl, rfl, rfl, rfl, trivial⟩ ((fun j => [(12, .bool (hasR (m2.l.take j) n)), (56, .int .i64 j)])) ((fun j => j ≤ m2.l.length)) ((fun j => m2.l.length - j)) ((fun _ => x54.2.2 :: cm :: x49 :: F)) (0) (by repeat (first | exact True.intro | refine And.intro rfl ?_)) (by first | exact Go.Sl.Cov.refl _ | (intro p; simp only [List.flatten_cons, List.flatten_nil, List.flatten_append, List.append_nil, List.nil_append, Go.Sl.cnt_append, Go.Sl.cnt_cons, Go.Sl.cnt_nil, List.set_cons_zero, List.set_cons_succ, List.length_nil, List.length_cons, Nat.zero_add, List.append]; omega)) ?_ ?_
    · exact Nat.zero_le _
    rintro j hj
    refine Go.Sl.cw_seq ?_
    refine Go.Sl.cw_region ?_
    refine Go.Sl.ow_val rfl rfl (Go.Sl.v_lss rfl rfl) ?_
    refine Go.Sl.ow_nil ?_
    refine Go.Sl.xw_then ?_
    refine Go.Sl.cw_seq ?_
    refine Go.Sl.cw_dec rfl (fun hc57 => ?_) (fun hc57 => ?_)
    refine Go.Sl.cw_skip ?_
    refine Go.Sl.xw_then ?_
    rotate_left
    refine Go.Sl.cw_exit ?_
    refine Go.Sl.xw_then_exit ?_
    refine Go.Sl.xw_round_exit ?_
    refine Go.Sl.xw_block_exit ?_
    refine Go.Sl.xw_then ?_
    rotate_left
    · have hj2 : j < m2.l.length := by omega
      have hokj := hq54.ok _ (List.getElem_mem hj2)
      have hsu := hasR_succ (n := n) hj2
      refine Go.Sl.cw_seq ?_
      refine Go.Sl.cw_block ?_
      refine Go.Sl.cw_seq ?_
      refine Go.Sl.cw_region ?_
      refine Go.Sl.ow_val rfl rfl (Go.Sl.v_indexAddr_ls Try.underlying34 (rTy) rfl rfl (by assumption) rfl (by omega)) ?_
      refine Go.Sl.ow_val rfl rfl (Go.Sl.v_load rfl (Go.Sl.Vw.var (rTy) ((hq54.vw (by repeat (first | exact Go.Sl.Sub.here | assumption | refine Go.Sl.Sub.there ?_)))) (by omega))) ?_
      (refine Go.Sl.ow_alloc rfl rfl Ty.ze28 ?_; intro b14)
      refine Go.Sl.ow_storeE rfl (rTy) rfl rfl .here (by first | rfl | assumption) (by assumption) ?_
      refine Go.Sl.ow_nil ?_
      refine Go.Sl.xw_then ?_
      refine Go.Sl.cw_region ?_
      refine Go.Sl.ow_val rfl rfl (Go.Sl.v_move rfl) ?_
      refine Go.Sl.ow_val rfl rfl (Go.Sl.v_move rfl) ?_
      refine Go.Sl.ow_bool 61 rfl (fun hc61 => ?_) (fun hc61 => ?_)
      refine Go.Sl.ow_skip rfl rfl ?_
      refine Go.Sl.ow_skip rfl rfl ?_
      refine Go.Sl.ow_skip rfl rfl ?_
      refine Go.Sl.ow_skip rfl rfl ?_
      refine Go.Sl.ow_skip rfl rfl ?_
      refine Go.Sl.ow_skip rfl rfl ?_
      refine Go.Sl.ow_skip rfl rfl ?_
      refine Go.Sl.ow_skip rfl rfl ?_
      refine Go.Sl.ow_skip rfl rfl ?_
      refine Go.Sl.ow_skip rfl rfl ?_
      refine Go.Sl.ow_val rfl rfl (Go.Sl.v_pick_true rfl rfl) ?_
      refine Go.Sl.ow_val rfl rfl (Go.Sl.v_assign rfl) ?_
      refine Go.Sl.ow_nil ?_
      refine Go.Sl.xw_block ?_
      refine Go.Sl.xw_then ?_
      refine Go.Sl.cw_region ?_
      refine Go.Sl.ow_val rfl rfl (Go.Sl.v_add rfl rfl (Go.Sl.nw_i64 (by omega) (by omega))) ?_
      refine Go.Sl.ow_val rfl rfl (Go.Sl.v_move rfl) ?_
      refine Go.Sl.ow_nil ?_
      rotate_left
      refine Go.Sl.ow_val rfl rfl (Go.Sl.v_move rfl) ?_
      refine Go.Sl.ow_val rfl rfl (Go.Sl.v_fieldAddr0 Ty.fd28_0 rfl) ?_
      refine Go.Sl.ow_val rfl rfl (Go.Sl.v_load rfl (Go.Sl.Var.at1 Ty.sc23 .here (Go.Sl.GetN.lit rfl))) ?_
      refine Go.Sl.ow_val rfl rfl (Go.Sl.v_geq rfl rfl) ?_
      refine Go.Sl.ow_val rfl rfl (Go.Sl.v_move rfl) ?_
      refine Go.Sl.ow_dec 66 rfl (fun hc66 => ?_) (fun hc66 => ?_)
      refine Go.Sl.ow_val rfl rfl (Go.Sl.v_move rfl) ?_
      refine Go.Sl.ow_val rfl rfl (Go.Sl.v_fieldAddr0 Ty.fd28_1 rfl) ?_
      refine Go.Sl.ow_val rfl rfl (Go.Sl.v_load rfl (Go.Sl.Var.at1 Ty.sc23 .here (Go.Sl.GetN.lit rfl))) ?_
      refine Go.Sl.ow_val rfl rfl (Go.Sl.v_lss rfl rfl) ?_
      refine Go.Sl.ow_val rfl rfl (Go.Sl.v_pick_true rfl rfl) ?_
      refine Go.Sl.ow_val rfl rfl (Go.Sl.v_pick_false rfl rfl) ?_
      refine Go.Sl.ow_val rfl rfl (Go.Sl.v_assign rfl) ?_
      refine Go.Sl.ow_nil ?_
      refine Go.Sl.xw_block ?_
      refine Go.Sl.xw_then ?_
      refine Go.Sl.cw_region ?_
      refine Go.Sl.ow_val rfl rfl (Go.Sl.v_add rfl rfl (Go.Sl.nw_i64 (by omega) (by omega))) ?_
      refine Go.Sl.ow_val rfl rfl (Go.Sl.v_move rfl) ?_
      refine Go.Sl.ow_nil ?_
      rotate_left
      refine Go.Sl.ow_skip rfl rfl ?_
      refine Go.Sl.ow_skip rfl rfl ?_
      refine Go.Sl.ow_skip rfl rfl ?_
      refine Go.Sl.ow_skip rfl rfl ?_
      refine Go.Sl.ow_val rfl rfl (Go.Sl.v_pick_false rfl rfl) ?_
      refine Go.Sl.ow_val rfl rfl (Go.Sl.v_pick_false rfl rfl) ?_
      refine Go.Sl.ow_val rfl rfl (Go.Sl.v_assign rfl) ?_
      refine Go.Sl.ow_nil ?_
      refine Go.Sl.xw_block ?_
      refine Go.Sl.xw_then ?_
      refine Go.Sl.cw_region ?_
      refine Go.Sl.ow_val rfl rfl (Go.Sl.v_add rfl rfl (Go.Sl.nw_i64 (by omega) (by omega))) ?_
      refine Go.Sl.ow_val rfl rfl (Go.Sl.v_move rfl) ?_
      refine Go.Sl.ow_nil ?_
      rotate_left
      · exact xw_round (j + 1) (by omega) (by omega) (by first | exact Go.Sl.Cov.refl _ | (intro p; simp only [List.flatten_cons, List.flatten_nil, List.flatten_append, List.append_nil, List.nil_append, Go.Sl.cnt_append, Go.Sl.cnt_cons, Go.Sl.cnt_nil, List.set_cons_zero, List.set_cons_succ, List.length_nil, List.length_cons, Nat.zero_add, List.append]; omega)) ⟨by rw [hsu, hc61]; rfl, (by repeat (first | exact True.intro | refine And.intro rfl ?_))⟩
      · exact xw_round (j + 1) (by omega) (by omega) (by first | exact Go.Sl.Cov.refl _ | (intro p; simp only [List.flatten_cons, List.flatten_nil, List.flatten_append, List.append_nil, List.nil_append, Go.Sl.cnt_append, Go.Sl.cnt_cons, Go.Sl.cnt_nil, List.set_cons_zero, List.set_cons_succ, List.length_nil, List.length_cons, Nat.zero_add, List.append]; omega)) ⟨by rw [hsu, hc61, decide_eq_true hc66]; rfl, (by repeat (first | exact True.intro | refine And.intro rfl ?_))⟩
      · exact xw_round (j + 1) (by omega) (by omega) (by first | exact Go.Sl.Cov.refl _ | (intro p; simp only [List.flatten_cons, List.flatten_nil, List.flatten_append, List.append_nil, List.nil_append, Go.Sl.cnt_append, Go.Sl.cnt_cons, Go.Sl.cnt_nil, List.set_cons_zero, List.set_cons_succ, List.length_nil, List.length_cons, Nat.zero_add, List.append]; omega)) ⟨by rw [hsu, hc61, decide_eq_false hc66]; rfl, (by repeat (first | exact True.intro | refine And.intro rfl ?_))⟩
    · have hx : m2.l.take j = m2.l := List.take_of_length_le (by omega)
      rw [hx, f3]
      have hhad : ∀ {G : List Hp}, Go.Sl.Sub x49 G → Go.Sl.Fn Try.prog 53 #[.pointer (some ⟨x22.1, 0, none⟩), .int .u64 n] B w0 G fun u G' => u = .bool (decide ((n : Int) < below.tmod 64) || (h n && decide (below.tmod 64 ≤ (n : Int)))) ∧ G' = G := fun hs => by
        have h1 := acksHad_c (B := B) (w0 := w0) hq49 hs hw2 (n := n)
        rw [f3, f4] at h1
        exact h1
      have hpq : decide ((n : Int) < below.tmod 64) = !decide (below.tmod 64 ≤ (n : Int)) := by
        by_cases hkn : below.tmod 64 ≤ (n : Int)
        · rw [decide_eq_true hkn, decide_eq_false (by omega)]; rfl
        · rw [decide_eq_false hkn, decide_eq_true (by omega)]; rfl
      refine Go.Sl.cw_seq ?_
      refine Go.Sl.cw_quiet Ty.mixed (by decide +kernel) ?_
      refine Go.Sl.kw_val rfl rfl (Go.Sl.v_move rfl) ?_
      refine Go.Sl.kw_val rfl rfl (Go.Sl.v_move rfl) ?_
      refine Go.Sl.kw_val rfl rfl (Go.Sl.v_move rfl) ?_
      refine Go.Sl.kw_val rfl rfl ((v_had rfl rfl (by repeat (first | exact Go.Sl.Sub.here | assumption | refine Go.Sl.Sub.there ?_)) hM)) ?_
      refine Go.Sl.kw_val rfl rfl (Go.Sl.v_move rfl) ?_
      refine Go.Sl.kw_bool 78 rfl (fun hc78 => ?_) (fun hc78 => ?_)
      refine Go.Sl.kw_val rfl rfl (Go.Sl.v_move rfl) ?_
      refine Go.Sl.kw_val rfl rfl (Go.Sl.v_move rfl) ?_
      refine Go.Sl.kw_val rfl rfl (Go.Sl.v_geq rfl rfl) ?_
      refine Go.Sl.kw_val rfl rfl (Go.Sl.v_pick_true rfl rfl) ?_
      refine Go.Sl.kw_val rfl rfl (Go.Sl.v_neqB Try.underlying4 rfl rfl) ?_
      refine Go.Sl.kw_val rfl rfl (Go.Sl.v_move rfl) ?_
      refine Go.Sl.kw_dec 84 rfl (fun hc84 => ?_) (fun hc84 => ?_)
      refine Go.Sl.kw_skip rfl rfl ?_
      refine Go.Sl.kw_skip rfl rfl ?_
      refine Go.Sl.kw_skip rfl rfl ?_
      refine Go.Sl.kw_skip rfl rfl ?_
      refine Go.Sl.kw_skip rfl rfl ?_
      refine Go.Sl.kw_skip rfl rfl ?_
      refine Go.Sl.kw_skip rfl rfl ?_
      refine Go.Sl.kw_skip rfl rfl ?_
      refine Go.Sl.kw_skip rfl rfl ?_
      refine Go.Sl.kw_skip rfl rfl ?_
      refine Go.Sl.kw_skip rfl rfl ?_
      refine Go.Sl.kw_skip rfl rfl ?_
      refine Go.Sl.kw_val rfl rfl (Go.Sl.v_pick_true rfl rfl) ?_
      refine Go.Sl.kw_nil ?_
      refine Go.Sl.xw_then ?_
      refine Go.Sl.cw_true rfl ?_
      refine Go.Sl.cw_seq ?_
      refine Go.Sl.cw_region ?_
      refine Go.Sl.ow_val rfl rfl (Go.Sl.v_assign rfl) ?_
      refine Go.Sl.ow_nil ?_
      refine Go.Sl.xw_then ?_
      refine Go.Sl.cw_ret ?_
      refine Go.Sl.xw_block_ret ?_
      refine Go.Sl.xw_then_ret ?_
      refine Go.Sl.xw_round_ret ?_
      refine Go.Sl.xw_block_ret ?_
      refine Go.Sl.xw_then_ret ?_
      refine Go.Sl.ret1 rfl (Go.Sl.res_tmp rfl) ?_
      rotate_left
      refine Go.Sl.kw_val rfl rfl (Go.Sl.v_move rfl) ?_
      refine Go.Sl.kw_val rfl rfl (Go.Sl.v_move rfl) ?_
      refine Go.Sl.kw_val rfl rfl (Go.Sl.v_call rfl rfl (hhad (by repeat (first | exact Go.Sl.Sub.here | assumption | refine Go.Sl.Sub.there ?_)))) ?_
      refine Go.Sl.kw_val rfl rfl (Go.Sl.v_move rfl) ?_
      refine Go.Sl.kw_val rfl rfl (Go.Sl.v_move rfl) ?_
      refine Go.Sl.kw_val rfl rfl ((v_had rfl rfl (by repeat (first | exact Go.Sl.Sub.here | assumption | refine Go.Sl.Sub.there ?_)) hM)) ?_
      refine Go.Sl.kw_val rfl rfl (Go.Sl.v_move rfl) ?_
      refine Go.Sl.kw_bool 91 rfl (fun hc91 => ?_) (fun hc91 => ?_)
      refine Go.Sl.kw_skip rfl rfl ?_
      refine Go.Sl.kw_skip rfl rfl ?_
      refine Go.Sl.kw_skip rfl rfl ?_
      refine Go.Sl.kw_val rfl rfl (Go.Sl.v_pick_true rfl rfl) ?_
      refine Go.Sl.kw_val rfl rfl (Go.Sl.v_neqB Try.underlying4 rfl rfl) ?_
      refine Go.Sl.kw_val rfl rfl (Go.Sl.v_pick_false rfl rfl) ?_
      refine Go.Sl.kw_nil ?_
      refine Go.Sl.xw_then ?_
      refine Go.Sl.cw_dec rfl (fun hc97 => ?_) (fun hc97 => ?_)
      refine Go.Sl.cw_seq ?_
      refine Go.Sl.cw_region ?_
      refine Go.Sl.ow_val rfl rfl (Go.Sl.v_assign rfl) ?_
      refine Go.Sl.ow_nil ?_
      refine Go.Sl.xw_then ?_
      refine Go.Sl.cw_ret ?_
      refine Go.Sl.xw_block_ret ?_
      refine Go.Sl.xw_then_ret ?_
      refine Go.Sl.xw_round_ret ?_
      refine Go.Sl.xw_block_ret ?_
      refine Go.Sl.xw_then_ret ?_
      refine Go.Sl.ret1 rfl (Go.Sl.res_tmp rfl) ?_
      rotate_left
      refine Go.Sl.cw_skip ?_
      refine Go.Sl.xw_block ?_
      refine Go.Sl.xw_then ?_
      refine Go.Sl.cw_region ?_
      refine Go.Sl.ow_val rfl rfl (Go.Sl.v_add rfl rfl (Go.Sl.nw_u64 (by omega) (by omega))) ?_
      refine Go.Sl.ow_val rfl rfl (Go.Sl.v_move rfl) ?_
      refine Go.Sl.ow_nil ?_
      rotate_left
      refine Go.Sl.kw_val rfl rfl (Go.Sl.v_move rfl) ?_
      refine Go.Sl.kw_val rfl rfl (Go.Sl.v_move rfl) ?_
      refine Go.Sl.kw_val rfl rfl (Go.Sl.v_lss rfl rfl) ?_
      refine Go.Sl.kw_val rfl rfl (Go.Sl.v_pick_false rfl rfl) ?_
      refine Go.Sl.kw_val rfl rfl (Go.Sl.v_neqB Try.underlying4 rfl rfl) ?_
      refine Go.Sl.kw_val rfl rfl (Go.Sl.v_pick_false rfl rfl) ?_
      refine Go.Sl.kw_nil ?_
      refine Go.Sl.xw_then ?_
      refine Go.Sl.cw_dec rfl (fun hc97 => ?_) (fun hc97 => ?_)
      refine Go.Sl.cw_seq ?_
      refine Go.Sl.cw_region ?_
      refine Go.Sl.ow_val rfl rfl (Go.Sl.v_assign rfl) ?_
      refine Go.Sl.ow_nil ?_
      refine Go.Sl.xw_then ?_
      refine Go.Sl.cw_ret ?_
      refine Go.Sl.xw_block_ret ?_
      refine Go.Sl.xw_then_ret ?_
      refine Go.Sl.xw_round_ret ?_
      refine Go.Sl.xw_block_ret ?_
      refine Go.Sl.xw_then_ret ?_
      refine Go.Sl.ret1 rfl (Go.Sl.res_tmp rfl) ?_
      rotate_left
      refine Go.Sl.cw_skip ?_
      refine Go.Sl.xw_block ?_
      refine Go.Sl.xw_then ?_
      refine Go.Sl.cw_region ?_
      refine Go.Sl.ow_val rfl rfl (Go.Sl.v_add rfl rfl (Go.Sl.nw_u64 (by omega) (by omega))) ?_
      refine Go.Sl.ow_val rfl rfl (Go.Sl.v_move rfl) ?_
      refine Go.Sl.ow_nil ?_
      rotate_left
      refine Go.Sl.kw_skip rfl rfl ?_
      refine Go.Sl.kw_skip rfl rfl ?_
      refine Go.Sl.kw_skip rfl rfl ?_
      refine Go.Sl.kw_val rfl rfl (Go.Sl.v_pick_false rfl rfl) ?_
      refine Go.Sl.kw_val rfl rfl (Go.Sl.v_neqB Try.underlying4 rfl rfl) ?_
      refine Go.Sl.kw_val rfl rfl (Go.Sl.v_move rfl) ?_
      refine Go.Sl.kw_dec 84 rfl (fun hc84 => ?_) (fun hc84 => ?_)
      refine Go.Sl.kw_skip rfl rfl ?_
      refine Go.Sl.kw_skip rfl rfl ?_
      refine Go.Sl.kw_skip rfl rfl ?_
      refine Go.Sl.kw_skip rfl rfl ?_
      refine Go.Sl.kw_skip rfl rfl ?_
      refine Go.Sl.kw_skip rfl rfl ?_
      refine Go.Sl.kw_skip rfl rfl ?_
      refine Go.Sl.kw_skip rfl rfl ?_
      refine Go.Sl.kw_skip rfl rfl ?_
      refine Go.Sl.kw_skip rfl rfl ?_
      refine Go.Sl.kw_skip rfl rfl ?_
      refine Go.Sl.kw_skip rfl rfl ?_
      refine Go.Sl.kw_val rfl rfl (Go.Sl.v_pick_true rfl rfl) ?_
      refine Go.Sl.kw_nil ?_
      refine Go.Sl.xw_then ?_
      refine Go.Sl.cw_true rfl ?_
      refine Go.Sl.cw_seq ?_
      refine Go.Sl.cw_region ?_
      refine Go.Sl.ow_val rfl rfl (Go.Sl.v_assign rfl) ?_
      refine Go.Sl.ow_nil ?_
      refine Go.Sl.xw_then ?_
      refine Go.Sl.cw_ret ?_
      refine Go.Sl.xw_block_ret ?_
      refine Go.Sl.xw_then_ret ?_
      refine Go.Sl.xw_round_ret ?_
      refine Go.Sl.xw_block_ret ?_
      refine Go.Sl.xw_then_ret ?_
      refine Go.Sl.ret1 rfl (Go.Sl.res_tmp rfl) ?_
      rotate_left
      refine Go.Sl.kw_val rfl rfl (Go.Sl.v_move rfl) ?_
      refine Go.Sl.kw_val rfl rfl (Go.Sl.v_move rfl) ?_
      refine Go.Sl.kw_val rfl rfl (Go.Sl.v_call rfl rfl (hhad (by repeat (first | exact Go.Sl.Sub.here | assumption | refine Go.Sl.Sub.there ?_)))) ?_
      refine Go.Sl.kw_val rfl rfl (Go.Sl.v_move rfl) ?_
      refine Go.Sl.kw_val rfl rfl (Go.Sl.v_move rfl) ?_
      refine Go.Sl.kw_val rfl rfl ((v_had rfl rfl (by repeat (first | exact Go.Sl.Sub.here | assumption | refine Go.Sl.Sub.there ?_)) hM)) ?_
      refine Go.Sl.kw_val rfl rfl (Go.Sl.v_move rfl) ?_
      refine Go.Sl.kw_bool 91 rfl (fun hc91 => ?_) (fun hc91 => ?_)
      refine Go.Sl.kw_skip rfl rfl ?_
      refine Go.Sl.kw_skip rfl rfl ?_
      refine Go.Sl.kw_skip rfl rfl ?_
      refine Go.Sl.kw_val rfl rfl (Go.Sl.v_pick_true rfl rfl) ?_
      refine Go.Sl.kw_val rfl rfl (Go.Sl.v_neqB Try.underlying4 rfl rfl) ?_
      refine Go.Sl.kw_val rfl rfl (Go.Sl.v_pick_false rfl rfl) ?_
      refine Go.Sl.kw_nil ?_
      refine Go.Sl.xw_then ?_
      refine Go.Sl.cw_dec rfl (fun hc97 => ?_) (fun hc97 => ?_)
      refine Go.Sl.cw_seq ?_
      refine Go.Sl.cw_region ?_
      refine Go.Sl.ow_val rfl rfl (Go.Sl.v_assign rfl) ?_
      refine Go.Sl.ow_nil ?_
      refine Go.Sl.xw_then ?_
      refine Go.Sl.cw_ret ?_
      refine Go.Sl.xw_block_ret ?_
      refine Go.Sl.xw_then_ret ?_
      refine Go.Sl.xw_round_ret ?_
      refine Go.Sl.xw_block_ret ?_
      refine Go.Sl.xw_then_ret ?_
      refine Go.Sl.ret1 rfl (Go.Sl.res_tmp rfl) ?_
      rotate_left
      refine Go.Sl.cw_skip ?_
      refine Go.Sl.xw_block ?_
      refine Go.Sl.xw_then ?_
      refine Go.Sl.cw_region ?_
      refine Go.Sl.ow_val rfl rfl (Go.Sl.v_add rfl rfl (Go.Sl.nw_u64 (by omega) (by omega))) ?_
      refine Go.Sl.ow_val rfl rfl (Go.Sl.v_move rfl) ?_
      refine Go.Sl.ow_nil ?_
      rotate_left
      refine Go.Sl.kw_val rfl rfl (Go.Sl.v_move rfl) ?_
      refine Go.Sl.kw_val rfl rfl (Go.Sl.v_move rfl) ?_
      refine Go.Sl.kw_val rfl rfl (Go.Sl.v_lss rfl rfl) ?_
      refine Go.Sl.kw_val rfl rfl (Go.Sl.v_pick_false rfl rfl) ?_
      refine Go.Sl.kw_val rfl rfl (Go.Sl.v_neqB Try.underlying4 rfl rfl) ?_
      refine Go.Sl.kw_val rfl rfl (Go.Sl.v_pick_false rfl rfl) ?_
      refine Go.Sl.kw_nil ?_
      refine Go.Sl.xw_then ?_
      refine Go.Sl.cw_dec rfl (fun hc97 => ?_) (fun hc97 => ?_)
      refine Go.Sl.cw_seq ?_
      refine Go.Sl.cw_region ?_
      refine Go.Sl.ow_val rfl rfl (Go.Sl.v_assign rfl) ?_
      refine Go.Sl.ow_nil ?_
      refine Go.Sl.xw_then ?_
      refine Go.Sl.cw_ret ?_
      refine Go.Sl.xw_block_ret ?_
      refine Go.Sl.xw_then_ret ?_
      refine Go.Sl.xw_round_ret ?_
      refine Go.Sl.xw_block_ret ?_
      refine Go.Sl.xw_then_ret ?_
      refine Go.Sl.ret1 rfl (Go.Sl.res_tmp rfl) ?_
      rotate_left
      refine Go.Sl.cw_skip ?_
      refine Go.Sl.xw_block ?_
      refine Go.Sl.xw_then ?_
      refine Go.Sl.cw_region ?_
      refine Go.Sl.ow_val rfl rfl (Go.Sl.v_add rfl rfl (Go.Sl.nw_u64 (by omega) (by omega))) ?_
      refine Go.Sl.ow_val rfl rfl (Go.Sl.v_move rfl) ?_
      refine Go.Sl.ow_nil ?_
      rotate_left
      all_goals first
        | exact xw_round (n + 1) (by omega) (by omega) (by first | exact Go.Sl.Cov.refl _ | (intro p; simp only [List.flatten_cons, List.flatten_nil, List.flatten_append, List.append_nil, List.nil_append, Go.Sl.cnt_append, Go.Sl.cnt_cons, Go.Sl.cnt_nil, List.set_cons_zero, List.set_cons_succ, List.length_nil, List.length_cons, Nat.zero_add, List.append]; omega)) (by repeat (first | exact True.intro | refine And.intro rfl ?_))
        | (rw [hc78, Bool.true_and] at hc84; exact absurd rfl hc84)
        | (rw [hc78, Bool.false_and] at hc84; exact absurd rfl hc84)
        | (rw [hc78] at hc91; exact Bool.noConfusion hc91)
        | (rw [hpq, hc91, Bool.true_and, Bool.not_or_self] at hc97; exact absurd rfl hc97)
        | (rw [hc91, Bool.false_and, Bool.or_false] at hc97; exact absurd rfl hc97)
  · have hdue : ∀ {G : List Hp}, Go.Sl.Sub x49 G → Go.Sl.Fn Try.prog 54 #[.pointer (some ⟨x22.1, 0, none⟩)] B w0 G fun u G' => u = .tuple #[.int .u64 0, .bool false] ∧ G' = G := fun hs => by
      have h1 := acksDue_c (B := B) (w0 := w0) hq49 hs
      rw [f5] at h1
      exact h1
    refine Go.Sl.cw_seq ?_
    refine Go.Sl.cw_region ?_
    refine Go.Sl.ow_val rfl rfl (Go.Sl.v_move rfl) ?_
    refine Go.Sl.ow_val rfl rfl (Go.Sl.v_call rfl rfl (hdue (by repeat (first | exact Go.Sl.Sub.here | assumption | refine Go.Sl.Sub.there ?_)))) ?_
    refine Go.Sl.ow_val rfl rfl (Go.Sl.v_move rfl) ?_
    refine Go.Sl.ow_val rfl rfl (Go.Sl.v_extract rfl rfl) ?_
    refine Go.Sl.ow_val rfl rfl (Go.Sl.v_extract rfl rfl) ?_
    refine Go.Sl.ow_val rfl rfl (Go.Sl.v_assign rfl) ?_
    refine Go.Sl.ow_val rfl rfl (Go.Sl.v_assign rfl) ?_
    refine Go.Sl.ow_nil ?_
    refine Go.Sl.xw_then ?_
    refine Go.Sl.cw_seq ?_
    refine Go.Sl.cw_region ?_
    refine Go.Sl.ow_val rfl rfl (Go.Sl.v_move rfl) ?_
    refine Go.Sl.ow_val rfl rfl (Go.Sl.v_not_false rfl) ?_
    refine Go.Sl.ow_val rfl rfl (Go.Sl.v_move rfl) ?_
    refine Go.Sl.ow_val rfl rfl (Go.Sl.v_move rfl) ?_
    refine Go.Sl.ow_val rfl rfl (Go.Sl.v_call rfl rfl (acksBelow_c hq49 (by repeat (first | exact Go.Sl.Sub.here | assumption | refine Go.Sl.Sub.there ?_)))) ?_
    refine Go.Sl.ow_val rfl rfl (Go.Sl.v_move rfl) ?_
    refine Go.Sl.ow_val rfl rfl (Go.Sl.v_eql rfl rfl) ?_
    refine Go.Sl.ow_val rfl rfl (Go.Sl.v_pick_true rfl rfl) ?_
    refine Go.Sl.ow_val rfl rfl (Go.Sl.v_assign rfl) ?_
    refine Go.Sl.ow_nil ?_
    refine Go.Sl.xw_then ?_
    refine Go.Sl.cw_ret ?_
    refine Go.Sl.ret1 rfl (Go.Sl.res_tmp rfl) ?_
    rw [decide_eq_true f4]
    exact done0 rfl (by first | exact Go.Sl.Cov.refl _ | (intro p; simp only [List.flatten_cons, List.flatten_nil, List.flatten_append, List.append_nil, List.nil_append, Go.Sl.cnt_append, Go.Sl.cnt_cons, Go.Sl.cnt_nil, List.set_cons_zero, List.set_cons_succ, List.length_nil, List.length_cons, Nat.zero_add, List.append]; omega))

theorem walk {H : Type} {enc : TypeId × Value → H} (W : World) (base : Nat) (args : Array Value) (ds : List (DataW H)) (p : List MemPlace)
    (hval : ∀ (j : Nat) t v, Try.f9.params[j]? = some t → args[j]? = some v → Value.okWide Try.prog W .any base t v)
    (hA : DataW.TrodAll enc Try.prog W 0 (fun _ => true) true Try.f9.params.toList args.toList ds p) :
    Calls Try.prog 9 args W fun e w' => e = .returned (.bool true) ∧ Below W.heap.size W w' := by
  rw [Try.params9] at hA hval
  obtain ⟨v0, vs0, d0, ds0, p0, q0, hargs, rfl, rfl, h0, r0⟩ := trodAll_cons hA
  obtain ⟨v1, vs1, d1, ds1, p1, q1, rfl, rfl, rfl, h1, r1⟩ := trodAll_cons r0
  obtain ⟨rfl, rfl, rfl⟩ := trodAll_nil r1
  obtain rfl : args = #[v0, v1] := by cases args; simp_all
  obtain ⟨t, aoT, capT, rfl, hl, hct, hT⟩ := open_bytes (hval 0 57 v0 rfl rfl) h0
  obtain ⟨n1, rfl, w1⟩ := open_u8 (hval 1 5 v1 rfl rfl) h1
  exact (law w1 hl hT []).call

theorem own : ownKnob Try.prog.godebug = none := by kernel_rfl
theorem laidOut : laidOutB Try.prog = true := by kernel_rfl
theorem reads : ∀ t ∈ Try.f9.params.toList, Try.prog.readableRec t = true ∧ t < Try.prog.types.size := by
  rw [Try.params9]
  intro t ht
  simp only [List.mem_cons, List.not_mem_nil, or_false] at ht
  rcases ht with rfl | rfl
  · exact ⟨by kernel_rfl, of_decide_eq_true (by kernel_rfl)⟩
  · exact ⟨by kernel_rfl, of_decide_eq_true (by kernel_rfl)⟩

set_option maxRecDepth 100000 in
theorem lifted (os : Os) (started : os.Started) (H : Type) (enc : TypeId × Value → H) :
    ReturnsInHanded {} Try.checked os 9 .any (Rows.acksForgetsSpec.pre6 enc Try.prog Try.f9 Rows.acksForgetsRow.domain false) (Rows.acksForgetsSpec.post enc Try.prog Try.f9 false true false false) := by
  refine returnsInHanded_of_change (C := Try.checked) own started (by kernel_rfl) Try.func9
    (ChangeSpec.witness6 (enc := enc) (C := Try.checked) false ⟨#[], #[.slice none 0 0, .int .u8 0], []⟩ 8 (by kernel_rfl) (by kernel_rfl) (by kernel_rfl) (by kernel_rfl)) ?_
  intro W base args ds gs before hval hW _ _
  have hW' := hW
  obtain ⟨p, q, hA0, hV, rfl, _, _⟩ := hW
  obtain ⟨rfl, rfl⟩ := trodVars_none hV
  have hA : DataW.TrodAll enc Try.prog W 0 (fun _ => true) true Try.f9.params.toList args.toList ds p := hA0
  have hlen := trodAll_len hA
  refine (walk W base args ds p hval hA).mono fun e W' ⟨he, bel⟩ => ?_
  subst he
  rw [Try.params9] at hlen
  match ds, hlen.2, hA, hW' with
  | [d0, d1], _, hA, hW' => exact ⟨_, rfl, _, _, _, [], _, [], hW', trodAll_mk1 (shut_bool Try.underlying4 _), trodAll_stays laidOut bel reads hA, rfl, bel.frame _, fun h => by cases h⟩

theorem over : Rows.acksForgetsRow.holds Try.pinned (OpenSpec.ofChange Rows.acksForgetsSpec) :=
  OpenClaim.holds_of_wide 9 Try.f9 rfl rfl rfl rfl rfl rfl rfl ⟨rfl, rfl, rfl, rfl, rfl⟩ rfl rfl rfl rfl rfl (by kernel_rfl) Try.func9 (by kernel_rfl)
    (of_decide_eq_true (by kernel_rfl)) (by unfold Func.isWrapper; first | (rw [if_pos (by decide +kernel)]; kernel_rfl) | (rw [if_neg (by decide +kernel)]; exact ⟨rfl, rfl⟩))
    (fun os started H enc _ => lifted os started H enc)

theorem proved : Rows.AcksForgetsSaid := over

end Go.Proofs.Ytbpnnkkbaakdjaa.lawAcksForgets
