/- SpanPlays: whatever the input it returns true, and the input reads as it did. Conditions: none. -/
import Derived.Test.YtbpnnkkbaakdjaaSpanRef
namespace Go.Proofs.Ytbpnnkkbaakdjaa.lawSpanPlays
open Go Go.Sl Go.Proofs Go.RowKit Go.ChangeShapes Go.WideShapes Go.ChangeAt Go.Proofs.Ytbpnnkkbaakdjaa
set_option maxRecDepth 20000
set_option linter.unusedVariables false
set_option linter.unusedSimpArgs false

/-- the set and the law's list -/
structure Ix where
  i : Nat
  l : List Rg
  c : Hp
  ao : Option Addr
  cap : Nat
  cm : Hp

def enU64 : Enc Int := ⟨fun n => [.int .u64 n], 1, fun n => .int .u64 n, fun n => 0 ≤ n ∧ n ≤ 18446744073709551615⟩
theorem uTy : EncTy Try.prog 23 enU64 := EncTy.scalar Ty.sc23 rfl (fun _ => rfl) (fun _ => rfl)

theorem wrap64 (x : Int) : 0 ≤ IntKind.wrap .u64 x ∧ IntKind.wrap .u64 x ≤ 18446744073709551615 := by
  simp [IntKind.wrap, IntKind.signed, IntKind.bits]
  omega
theorem first_at {l : List Rg} {n : Int} {j : Nat} (hj : j < l.length) (h : n < l[j].b) (hno : ∀ k (h : k < l.length), k < j → ¬ n < l[k].b) : firstR l n = (⟨max l[j].a n, l[j].b⟩, true) := by
  have hc : cutAt (fun x => decide (n < x.b)) l = j := (List.findIdx_eq hj).2 ⟨decide_eq_true h, fun k hk => decide_eq_false (hno k (by omega) hk)⟩
  unfold firstR
  rw [dif_pos (by rw [hc]; exact hj)]
  simp only [hc]
theorem first_none {l : List Rg} {n : Int} (hno : ∀ k (h : k < l.length), ¬ n < l[k].b) : firstR l n = (⟨0, 0⟩, false) := by
  have hc : cutAt (fun x => decide (n < x.b)) l = l.length := List.findIdx_eq_length.2 fun x hx => by
    obtain ⟨k, hk, rfl⟩ := List.mem_iff_getElem.1 hx
    exact decide_eq_false (hno k hk)
  unfold firstR
  rw [dif_neg (by omega)]
theorem first_cases (l : List Rg) (n : Int) : (∃ j, ∃ hj : j < l.length, n < l[j].b ∧ firstR l n = (⟨max l[j].a n, l[j].b⟩, true)) ∨ firstR l n = (⟨0, 0⟩, false) := by
  unfold firstR
  split
  · rename_i h
    have h2 : (decide (n < l[cutAt (fun x => decide (n < x.b)) l].b)) = true := List.findIdx_getElem (w := h)
    exact .inl ⟨_, h, of_decide_eq_true h2, rfl⟩
  · exact .inr rfl
theorem first_ok {l : List Rg} {n : Int} (hl : ∀ r ∈ l, enR.ok r) (hn : 0 ≤ n ∧ n ≤ 18446744073709551615) : enR.ok (firstR l n).1 := by
  rcases first_cases l n with ⟨j, hj, h1, h2⟩ | h2
  · rw [h2]
    have := hl _ (List.getElem_mem hj)
    exact ⟨by have := this.1; dsimp only; omega, this.2⟩
  · rw [h2]; exact ok_z
theorem first_two {l : List Rg} {n : Int} (hn : 0 ≤ n ∧ n ≤ 18446744073709551615) (hg : Good l) : (firstR l n).2 = decide (0 < (firstR l n).1.b) := by
  rcases first_cases l n with ⟨j, hj, h1, h2⟩ | h2
  · rw [h2]
    exact (decide_eq_true (by dsimp only; omega)).symm
  · rw [h2]; rfl
@[simp] theorem enU64_ok (n : Int) : enU64.ok n = (0 ≤ n ∧ n ≤ 18446744073709551615) := rfl
structure Ok (k : Int) (n : Nat) (b : Nat) (x : Ix) : Prop where
  good : Good x.l
  len : x.l.length ≤ n
  most : (x.l.length : Int) ≤ max k 1
  at_ : SetAt ⟨k, x.l⟩ b x.c
  ls : Ls enR 45 (.slice x.ao x.l.length x.cap) x.cm x.l

set_option maxHeartbeats 8000000 in
theorem law {B : Nat} {w0 : World} {limit : Int} {acts : List ActR} {look : List Int} {other : Rg} {aoA aoL : Option Addr} {capA capL : Nat} (hlim : -9223372036854775808 ≤ limit ∧ limit ≤ 9223372036854775807) (hl : acts.length ≤ 9223372036854775807) (hll : look.length ≤ 9223372036854775807) (hA : ∀ G, Vw enAc (St B w0 G) (.slice aoA acts.length capA) acts) (hK : ∀ G, Vw enU64 (St B w0 G) (.slice aoL look.length capL) look) (hr : enR.ok other) :
    FnC Try.prog 5 #[.int .i64 limit, .slice aoA acts.length capA, .slice aoL look.length capL, enR.val other] B w0 [] (R0 (.bool true)) := fun F => by
  have hr2 := len2 _ hr
  have hr3 := one2 _ hr
  refine fn_enter Try.func5 rfl (by kernel_rfl) Try.ntmps5 (by simp) ?_
  refine Go.Sl.cw_seq ?_
  refine Go.Sl.cw_region ?_
  (refine Go.Sl.ow_box rfl rfl rfl rfl ?_; intro b7)
  refine Go.Sl.ow_val rfl rfl (Go.Sl.v_assign rfl) ?_
  refine Go.Sl.ow_nil ?_
  refine Go.Sl.xw_then ?_
  refine Go.Sl.cw_seq ?_
  refine Go.Sl.cw_seq ?_
  refine Go.Sl.cw_region ?_
  refine Go.Sl.ow_val rfl rfl (Go.Sl.v_call rfl rfl (spanAwake_c)) ?_
  refine Go.Sl.ow_val rfl rfl (Go.Sl.v_not_true rfl) ?_
  refine Go.Sl.ow_nil ?_
  refine Go.Sl.xw_then ?_
  refine Go.Sl.cw_false rfl ?_
  refine Go.Sl.cw_skip ?_
  refine Go.Sl.xw_then ?_
  refine Go.Sl.cw_seq ?_
  refine Go.Sl.cw_seq ?_
  refine Go.Sl.cw_region ?_
  refine Go.Sl.ow_val rfl rfl (Go.Sl.v_move rfl) ?_
  refine Go.Sl.ow_val rfl rfl (Go.Sl.v_len rfl Try.underlying42 rfl) ?_
  refine Go.Sl.ow_val rfl rfl (Go.Sl.v_gtr rfl rfl) ?_
  refine Go.Sl.ow_nil ?_
  refine Go.Sl.xw_then ?_
  refine Go.Sl.cw_dec rfl (fun hc39 => ?_) (fun hc39 => ?_)
  refine Go.Sl.cw_seq ?_
  refine Go.Sl.cw_region ?_
  refine Go.Sl.ow_val rfl rfl (Go.Sl.v_assign rfl) ?_
  refine Go.Sl.ow_nil ?_
  refine Go.Sl.xw_then ?_
  refine Go.Sl.cw_ret ?_
  refine Go.Sl.xw_then_ret ?_
  refine Go.Sl.ret1 rfl (Go.Sl.res_tmp rfl) ?_
  rotate_left
  refine Go.Sl.cw_skip ?_
  refine Go.Sl.xw_then ?_
  refine Go.Sl.cw_seq ?_
  refine Go.Sl.cw_region ?_
  refine Go.Sl.ow_val rfl rfl (Go.Sl.v_move rfl) ?_
  (refine Go.Sl.ow_call rfl rfl rfl rfl (newSet_c) ?_; rintro _ _ ⟨x41, rfl, hq41, rfl⟩)
  refine Go.Sl.ow_val rfl rfl (Go.Sl.v_assign rfl) ?_
  refine Go.Sl.ow_nil ?_
  refine Go.Sl.xw_then ?_
  refine Go.Sl.cw_seq ?_
  refine Go.Sl.cw_region ?_
  refine Go.Sl.ow_val rfl rfl (Go.Sl.v_assign rfl) ?_
  refine Go.Sl.ow_nil ?_
  refine Go.Sl.xw_then ?_
  refine Go.Sl.cw_seq ?_
  refine Go.Sl.cw_region ?_
  refine Go.Sl.ow_val rfl rfl (Go.Sl.v_move rfl) ?_
  refine Go.Sl.ow_val rfl rfl (Go.Sl.v_max rfl rfl) ?_
  refine Go.Sl.ow_val rfl rfl (Go.Sl.v_assign rfl) ?_
  refine Go.Sl.ow_nil ?_
  refine Go.Sl.xw_then ?_
  rotate_left
  · exact done0 rfl (by first | exact Go.Sl.Cov.refl _ | (intro p; simp only [List.flatten_cons, List.flatten_nil, List.flatten_append, List.append_nil, List.nil_append, Go.Sl.cnt_append, Go.Sl.cnt_cons, Go.Sl.cnt_nil, List.set_cons_zero, List.set_cons_succ, List.length_nil, List.length_cons, Nat.zero_add, List.append]; omega))
  refine Go.Sl.cw_cut2 (ι := (Ix)) [(0, _), (1, _), (2, _), (3, _), (7, _), (9, _), (11, _)] ⟨rfl, rfl, rfl, rfl, rfl, rfl, rfl, trivial⟩ ((fun x => [(10, .slice x.ao x.l.length x.cap)])) ((fun x => Ok limit 81 x41.1 x)) ((fun x => x.cm :: x.c :: [(b7, .cells other.cells.toArray 28 (0, 0))] :: F)) ?_ ?_
  · refine Go.Sl.cw_seq ?_
    refine Go.Sl.cw_region ?_
    refine Go.Sl.ow_val rfl rfl (Go.Sl.v_move rfl) ?_
    refine Go.Sl.ow_val rfl rfl (Go.Sl.v_len rfl Try.underlying22 rfl) ?_
    refine Go.Sl.ow_val rfl rfl (Go.Sl.v_move rfl) ?_
    refine Go.Sl.ow_nil ?_
    refine Go.Sl.xw_then ?_
    refine Go.Sl.cw_block ?_
    refine Go.Sl.cw_loop2 (ι := (Ix)) [(0, _), (1, _), (2, _), (3, _), (7, _), (9, _), (11, _), (44, _), (45, _)] ⟨rfl, rfl, rfl, rfl, rfl, rfl, rfl, rfl, rfl, trivial⟩ ((fun x => [(10, .slice x.ao x.l.length x.cap), (46, .int .i64 x.i)])) ((fun x => x.i ≤ acts.length ∧ x.i ≤ 80 ∧ Ok limit x.i x41.1 x)) ((fun x => acts.length - x.i)) ((fun x => x.cm :: x.c :: [(b7, .cells other.cells.toArray 28 (0, 0))] :: F)) ((⟨0, [], x41.2, none, 0, []⟩ : Ix)) (by repeat (first | exact True.intro | refine And.intro rfl ?_)) (by first | exact Go.Sl.Cov.refl _ | (intro p; simp only [List.flatten_cons, List.flatten_nil, List.flatten_append, List.append_nil, List.nil_append, Go.Sl.cnt_append, Go.Sl.cnt_cons, Go.Sl.cnt_nil, List.set_cons_zero, List.set_cons_succ, List.length_nil, List.length_cons, Nat.zero_add, List.append]; omega)) ?_ ?_
    · exact ⟨Nat.zero_le _, by simp, Good.nil, by simp, by simp; omega, hq41, Ls.nil⟩
    rintro ⟨i, l, c, ao, cap, cm⟩ ⟨hi, hi80, hI⟩
    dsimp only at hi hi80 hI ⊢
    have hg := hI.good
    have hln := hI.len
    have hmo := hI.most
    have hO := hI.at_
    have hL := hI.ls
    dsimp only at hg hln hmo hO hL
    have hw : (⟨limit, l⟩ : SetM).WF := ⟨hg, by dsimp only; omega, hlim⟩
    refine Go.Sl.cw_seq ?_
    refine Go.Sl.cw_region ?_
    refine Go.Sl.ow_val rfl rfl (Go.Sl.v_lss rfl rfl) ?_
    refine Go.Sl.ow_nil ?_
    refine Go.Sl.xw_then ?_
    refine Go.Sl.cw_seq ?_
    refine Go.Sl.cw_dec rfl (fun hc47 => ?_) (fun hc47 => ?_)
    refine Go.Sl.cw_skip ?_
    refine Go.Sl.xw_then ?_
    rotate_left
    refine Go.Sl.cw_exit ?_
    refine Go.Sl.xw_then_exit ?_
    refine Go.Sl.xw_round_exit ?_
    refine Go.Sl.xw_block_exit ?_
    rotate_left
    · have hi2 : i < acts.length := by omega
      have hao := (hA []).ok _ (List.getElem_mem hi2)
      have ha1 := acTy.len _ hao
      have ha2 := acTy.one _ hao
      have hrg := actRg_in hao
      have hg2 := len2 _ hrg
      have hg3 := one2 _ hrg
      have hk6 := tmodB (n := 6) hao.1.1 (by decide)
      refine Go.Sl.cw_seq ?_
      refine Go.Sl.cw_block ?_
      refine Go.Sl.cw_seq ?_
      refine Go.Sl.cw_region ?_
      refine Go.Sl.ow_val rfl rfl (Go.Sl.v_move rfl) ?_
      refine Go.Sl.ow_val rfl rfl (Go.Sl.v_indexAddr_vw Try.underlying22 (acTy) rfl rfl (hA []) rfl (by omega)) ?_
      refine Go.Sl.ow_val rfl rfl (Go.Sl.v_load rfl (Go.Sl.Vw.var (acTy) (hA _) (by omega))) ?_
      (refine Go.Sl.ow_alloc rfl rfl Ty.ze30 ?_; intro b13)
      refine Go.Sl.ow_val rfl rfl (Go.Sl.v_assign rfl) ?_
      refine Go.Sl.ow_storeE rfl (acTy) rfl rfl .here (by first | rfl | assumption) (by assumption) ?_
      refine Go.Sl.ow_nil ?_
      refine Go.Sl.xw_then ?_
      refine Go.Sl.cw_seq ?_
      refine Go.Sl.cw_seq ?_
      refine Go.Sl.cw_region ?_
      refine Go.Sl.ow_val rfl rfl (Go.Sl.v_move rfl) ?_
      refine Go.Sl.ow_val rfl rfl (Go.Sl.v_geq rfl rfl) ?_
      refine Go.Sl.ow_nil ?_
      refine Go.Sl.xw_then ?_
      refine Go.Sl.cw_dec rfl (fun hc52 => ?_) (fun hc52 => ?_)
      refine Go.Sl.cw_exit ?_
      refine Go.Sl.xw_then_exit ?_
      refine Go.Sl.xw_block_other rfl ?_
      refine Go.Sl.xw_then_exit ?_
      refine Go.Sl.xw_round_exit ?_
      refine Go.Sl.xw_block_exit ?_
      rotate_left
      refine Go.Sl.cw_skip ?_
      refine Go.Sl.xw_then ?_
      refine Go.Sl.cw_seq ?_
      refine Go.Sl.cw_region ?_
      refine Go.Sl.ow_val rfl rfl (Go.Sl.v_load rfl (Go.Sl.Var.atN Ty.ag30 .here Go.Sl.GetN.all (by first | rfl | assumption))) ?_
      refine Go.Sl.ow_val rfl rfl (Go.Sl.v_call rfl rfl (range_c hao)) ?_
      (refine Go.Sl.ow_alloc rfl rfl Ty.ze28 ?_; intro b14)
      refine Go.Sl.ow_storeN rfl rfl rfl Ty.ag28 (by first | rfl | assumption) (by first | assumption | simp) .here (Go.Sl.SetN.all (by first | rfl | assumption | simp_all)) ?_
      refine Go.Sl.ow_nil ?_
      refine Go.Sl.xw_then ?_
      refine Go.Sl.cw_seq ?_
      refine Go.Sl.cw_region ?_
      refine Go.Sl.ow_val rfl rfl (Go.Sl.v_move rfl) ?_
      (refine Go.Sl.ow_call rfl rfl rfl rfl (setCopy_l hO (by repeat (first | exact Go.Sl.Sub.here | assumption | refine Go.Sl.Sub.there ?_)) hw) ?_; rintro _ _ ⟨x56, rfl, hq56, rfl⟩)
      refine Go.Sl.ow_val rfl rfl (Go.Sl.v_assign rfl) ?_
      refine Go.Sl.ow_nil ?_
      refine Go.Sl.xw_then ?_
      rotate_left
      · exact xw_joint (⟨i, l, c, ao, cap, cm⟩ : Ix) ⟨hg, by dsimp only; omega, hmo, hO, hL⟩ (by first | exact Go.Sl.Cov.refl _ | (intro p; simp only [List.flatten_cons, List.flatten_nil, List.flatten_append, List.append_nil, List.nil_append, Go.Sl.cnt_append, Go.Sl.cnt_cons, Go.Sl.cnt_nil, List.set_cons_zero, List.set_cons_succ, List.length_nil, List.length_cons, Nat.zero_add, List.append]; omega)) (by repeat (first | exact True.intro | refine And.intro rfl ?_))
      · refine Go.Sl.cw_cut2 (ι := (Ix)) [(0, _), (1, _), (2, _), (3, _), (7, _), (9, _), (11, _), (13, _), (15, _), (44, _), (45, _), (46, _)] ⟨rfl, rfl, rfl, rfl, rfl, rfl, rfl, rfl, rfl, rfl, rfl, rfl, trivial⟩ ((fun x => [(10, .slice x.ao x.l.length x.cap)])) ((fun x => Ok limit (i + 1) x41.1 x)) ((fun x => x.cm :: x.c :: x56.2 :: [(b13, .cells (enAc.f acts[i]).toArray 30 (0, 0))] :: [(b7, .cells other.cells.toArray 28 (0, 0))] :: F)) ?_ ?_
        ·
          generalize actRg acts[i] = r at hrg hg2 hg3 ⊢
          refine Go.Sl.cw_seq ?_
          refine Go.Sl.cw_region ?_
          refine Go.Sl.ow_val rfl rfl (Go.Sl.v_fieldAddr0 Ty.fd30_0 rfl) ?_
          refine Go.Sl.ow_val rfl rfl (Go.Sl.v_load rfl (Go.Sl.Var.at1 Ty.sc5 (.there (.there .here)) (Go.Sl.GetN.lit rfl))) ?_
          refine Go.Sl.ow_val rfl rfl (Go.Sl.v_rem rfl rfl (by decide)) ?_
          refine Go.Sl.ow_val rfl rfl (Go.Sl.v_assign rfl) ?_
          refine Go.Sl.ow_nil ?_
          refine Go.Sl.xw_then ?_
          refine Go.Sl.cw_block ?_
          refine Go.Sl.cw_seq ?_
          refine Go.Sl.cw_region ?_
          refine Go.Sl.ow_val rfl rfl (Go.Sl.v_move rfl) ?_
          refine Go.Sl.ow_val rfl rfl (Go.Sl.v_lss rfl rfl) ?_
          refine Go.Sl.ow_val rfl rfl (Go.Sl.v_assign rfl) ?_
          refine Go.Sl.ow_nil ?_
          refine Go.Sl.xw_then ?_
          refine Go.Sl.cw_dec rfl (fun hc85 => ?_) (fun hc85 => ?_)
          rotate_left
          refine Go.Sl.cw_seq ?_
          refine Go.Sl.cw_region ?_
          refine Go.Sl.ow_val rfl rfl (Go.Sl.v_move rfl) ?_
          refine Go.Sl.ow_val rfl rfl (Go.Sl.v_eql rfl rfl) ?_
          refine Go.Sl.ow_val rfl rfl (Go.Sl.v_assign rfl) ?_
          refine Go.Sl.ow_nil ?_
          refine Go.Sl.xw_then ?_
          refine Go.Sl.cw_dec rfl (fun hc120 => ?_) (fun hc120 => ?_)
          rotate_left
          rotate_left
          · by_cases hne : r.a < r.b
            · have hro := hrg.ok hne
              obtain ⟨s1, s2, s3⟩ := add_spec hg hro
              have hE : addE l r = addL l r := if_pos hne
              have hra : ∀ {G : List Hp}, Vw enR (St B w0 G) (.slice ao l.length cap) l → Go.Sl.Fn Try.prog 25 #[.slice ao l.length cap, enR.val r] B w0 G fun u G' => ∃ x : Option Addr × Nat × Hp, u = .slice x.1 (addL l r).length x.2.1 ∧ Ls enR 45 (.slice x.1 (addL l r).length x.2.1) x.2.2 (addL l r) ∧ G' = [x.2.2] ++ G := fun hV => by
                have h := refAdd_c (B := B) (w0 := w0) hV (by omega) hne hrg
                rw [refAdd_eq hg hro] at h
                exact h
              by_cases hfit : ((addL l r).length : Int) ≤ max limit 1
              · have had : ∀ {G : List Hp} {R : Hp → List Hp}, Sel G c R → Go.Sl.Fn Try.prog 17 #[.pointer (some ⟨x41.1, 0, none⟩), enR.val r] B w0 G fun u G' => ∃ c' : Hp, u = .int .i64 0 ∧ SetAt ⟨limit, addL l r⟩ x41.1 c' ∧ G' = R c' := fun hs => by
                  have h := setAddOk_l (B := B) (w0 := w0) hs hO hw hrg (by rw [hE]; exact hfit)
                  rw [hE] at h
                  exact h
                refine Go.Sl.cw_seq ?_
                refine Go.Sl.cw_region ?_
                refine Go.Sl.ow_val rfl rfl (Go.Sl.v_move rfl) ?_
                refine Go.Sl.ow_val rfl rfl (Go.Sl.v_load rfl (Go.Sl.Var.atN Ty.ag28 (.there .here) Go.Sl.GetN.all (by first | rfl | assumption))) ?_
                refine Go.Sl.ow_val rfl rfl (Go.Sl.v_call rfl rfl (ref_c hrg)) ?_
                (refine Go.Sl.ow_call rfl rfl rfl rfl (hra (hL.vw (by repeat (first | exact Go.Sl.Sub.here | assumption | refine Go.Sl.Sub.there ?_)))) ?_; rintro _ _ ⟨x91, rfl, hq91, rfl⟩)
                refine Go.Sl.ow_val rfl rfl (Go.Sl.v_assign rfl) ?_
                refine Go.Sl.ow_nil ?_
                refine Go.Sl.xw_then ?_
                refine Go.Sl.cw_seq ?_
                refine Go.Sl.cw_region ?_
                refine Go.Sl.ow_val rfl rfl (Go.Sl.v_move rfl) ?_
                refine Go.Sl.ow_val rfl rfl (Go.Sl.v_load rfl (Go.Sl.Var.atN Ty.ag28 (.there (.there .here)) Go.Sl.GetN.all (by first | rfl | assumption))) ?_
                (refine Go.Sl.ow_call rfl rfl rfl rfl (had (by repeat (first | exact Go.Sl.Sel.here | apply Go.Sl.Sel.there))) ?_; rintro _ _ ⟨x94, rfl, hq94, rfl⟩)
                refine Go.Sl.ow_val rfl rfl (Go.Sl.v_assign rfl) ?_
                refine Go.Sl.ow_nil ?_
                refine Go.Sl.xw_then ?_
                refine Go.Sl.cw_seq ?_
                refine Go.Sl.cw_seq ?_
                refine Go.Sl.cw_region ?_
                refine Go.Sl.ow_val rfl rfl (Go.Sl.v_move rfl) ?_
                refine Go.Sl.ow_val rfl rfl (Go.Sl.v_eql rfl rfl) ?_
                refine Go.Sl.ow_val rfl rfl (Go.Sl.v_move rfl) ?_
                refine Go.Sl.ow_val rfl rfl (Go.Sl.v_len rfl Try.underlying43 rfl) ?_
                refine Go.Sl.ow_val rfl rfl (Go.Sl.v_move rfl) ?_
                refine Go.Sl.ow_val rfl rfl (Go.Sl.v_leq rfl rfl) ?_
                refine Go.Sl.ow_val rfl rfl (Go.Sl.v_move rfl) ?_
                refine Go.Sl.ow_dec 101 rfl (fun hc101 => ?_) (fun hc101 => ?_)
                rotate_left; (exfalso; omega); rotate_right
                refine Go.Sl.ow_skip rfl rfl ?_
                refine Go.Sl.ow_skip rfl rfl ?_
                refine Go.Sl.ow_skip rfl rfl ?_
                refine Go.Sl.ow_skip rfl rfl ?_
                refine Go.Sl.ow_skip rfl rfl ?_
                refine Go.Sl.ow_val rfl rfl (Go.Sl.v_pick_true rfl rfl) ?_
                refine Go.Sl.ow_val rfl rfl (Go.Sl.v_neqB Try.underlying4 rfl rfl) ?_
                refine Go.Sl.ow_val rfl rfl (Go.Sl.v_move rfl) ?_
                refine Go.Sl.ow_dec 109 rfl (fun hc109 => ?_) (fun hc109 => ?_)
                refine Go.Sl.ow_skip rfl rfl ?_
                refine Go.Sl.ow_skip rfl rfl ?_
                refine Go.Sl.ow_skip rfl rfl ?_
                refine Go.Sl.ow_skip rfl rfl ?_
                refine Go.Sl.ow_skip rfl rfl ?_
                refine Go.Sl.ow_skip rfl rfl ?_
                refine Go.Sl.ow_val rfl rfl (Go.Sl.v_pick_true rfl rfl) ?_
                refine Go.Sl.ow_nil ?_
                refine Go.Sl.xw_then ?_
                refine Go.Sl.cw_true rfl ?_
                refine Go.Sl.cw_seq ?_
                refine Go.Sl.cw_region ?_
                refine Go.Sl.ow_val rfl rfl (Go.Sl.v_assign rfl) ?_
                refine Go.Sl.ow_nil ?_
                refine Go.Sl.xw_then ?_
                refine Go.Sl.cw_ret ?_
                refine Go.Sl.xw_then_ret ?_
                refine Go.Sl.xw_block_ret ?_
                refine Go.Sl.xw_joint_ret ?_
                refine Go.Sl.xw_block_ret ?_
                refine Go.Sl.xw_then_ret ?_
                refine Go.Sl.xw_round_ret ?_
                refine Go.Sl.xw_block_ret ?_
                refine Go.Sl.xw_joint_ret ?_
                refine Go.Sl.ret1 rfl (Go.Sl.res_tmp rfl) ?_
                rotate_left
                refine Go.Sl.ow_val rfl rfl (Go.Sl.v_move rfl) ?_
                refine Go.Sl.ow_val rfl rfl (Go.Sl.v_neq rfl rfl) ?_
                refine Go.Sl.ow_val rfl rfl (Go.Sl.v_move rfl) ?_
                refine Go.Sl.ow_skip rfl rfl ?_
                refine Go.Sl.ow_skip rfl rfl ?_
                refine Go.Sl.ow_val rfl rfl (Go.Sl.v_pick_false rfl rfl) ?_
                refine Go.Sl.ow_val rfl rfl (Go.Sl.v_pick_false rfl rfl) ?_
                refine Go.Sl.ow_nil ?_
                refine Go.Sl.xw_then ?_
                refine Go.Sl.cw_false rfl ?_
                refine Go.Sl.cw_skip ?_
                refine Go.Sl.xw_then ?_
                refine Go.Sl.cw_seq ?_
                refine Go.Sl.cw_region ?_
                refine Go.Sl.ow_val rfl rfl (Go.Sl.v_move rfl) ?_
                refine Go.Sl.ow_val rfl rfl (Go.Sl.v_eql rfl rfl) ?_
                refine Go.Sl.ow_nil ?_
                refine Go.Sl.xw_then ?_
                refine Go.Sl.cw_true rfl ?_
                refine Go.Sl.cw_region ?_
                refine Go.Sl.ow_val rfl rfl (Go.Sl.v_move rfl) ?_
                refine Go.Sl.ow_val rfl rfl (Go.Sl.v_assign rfl) ?_
                refine Go.Sl.ow_nil ?_
                refine Go.Sl.xw_block ?_
                rotate_left
                · refine absurd ?_ hc109
                  rw [Bool.eq_iff_iff]
                  simp <;> omega
                · exact xw_joint (⟨i, addL l r, x94, x91.1, x91.2.1, x91.2.2⟩ : Ix) ⟨s1, by dsimp only; omega, hfit, hq94, hq91⟩ (by first | exact Go.Sl.Cov.refl _ | (intro p; simp only [List.flatten_cons, List.flatten_nil, List.flatten_append, List.append_nil, List.nil_append, Go.Sl.cnt_append, Go.Sl.cnt_cons, Go.Sl.cnt_nil, List.set_cons_zero, List.set_cons_succ, List.length_nil, List.length_cons, Nat.zero_add, List.append]; omega)) (by repeat (first | exact True.intro | refine And.intro rfl ?_))
              · have had : ∀ {G : List Hp} {R : Hp → List Hp}, Sel G c R → Go.Sl.Fn Try.prog 17 #[.pointer (some ⟨x41.1, 0, none⟩), enR.val r] B w0 G fun u G' => ∃ c' : Hp, u = .int .i64 7 ∧ SetAt ⟨limit, l⟩ x41.1 c' ∧ G' = R c' := fun hs => by
                  have h := setAdd_c (B := B) (w0 := w0) hs hO hw hrg
                  rw [show (⟨limit, l⟩ : SetM).add r = (⟨limit, l⟩, 7) from by rw [SetM.add, if_neg (by omega), if_pos (by dsimp only; omega)]] at h
                  exact h
                refine Go.Sl.cw_seq ?_
                refine Go.Sl.cw_region ?_
                refine Go.Sl.ow_val rfl rfl (Go.Sl.v_move rfl) ?_
                refine Go.Sl.ow_val rfl rfl (Go.Sl.v_load rfl (Go.Sl.Var.atN Ty.ag28 (.there .here) Go.Sl.GetN.all (by first | rfl | assumption))) ?_
                refine Go.Sl.ow_val rfl rfl (Go.Sl.v_call rfl rfl (ref_c hrg)) ?_
                (refine Go.Sl.ow_call rfl rfl rfl rfl (hra (hL.vw (by repeat (first | exact Go.Sl.Sub.here | assumption | refine Go.Sl.Sub.there ?_)))) ?_; rintro _ _ ⟨x91, rfl, hq91, rfl⟩)
                refine Go.Sl.ow_val rfl rfl (Go.Sl.v_assign rfl) ?_
                refine Go.Sl.ow_nil ?_
                refine Go.Sl.xw_then ?_
                refine Go.Sl.cw_seq ?_
                refine Go.Sl.cw_region ?_
                refine Go.Sl.ow_val rfl rfl (Go.Sl.v_move rfl) ?_
                refine Go.Sl.ow_val rfl rfl (Go.Sl.v_load rfl (Go.Sl.Var.atN Ty.ag28 (.there (.there .here)) Go.Sl.GetN.all (by first | rfl | assumption))) ?_
                (refine Go.Sl.ow_call rfl rfl rfl rfl (had (by repeat (first | exact Go.Sl.Sel.here | apply Go.Sl.Sel.there))) ?_; rintro _ _ ⟨x94, rfl, hq94, rfl⟩)
                refine Go.Sl.ow_val rfl rfl (Go.Sl.v_assign rfl) ?_
                refine Go.Sl.ow_nil ?_
                refine Go.Sl.xw_then ?_
                refine Go.Sl.cw_seq ?_
                refine Go.Sl.cw_seq ?_
                refine Go.Sl.cw_region ?_
                refine Go.Sl.ow_val rfl rfl (Go.Sl.v_move rfl) ?_
                refine Go.Sl.ow_val rfl rfl (Go.Sl.v_eql rfl rfl) ?_
                refine Go.Sl.ow_val rfl rfl (Go.Sl.v_move rfl) ?_
                refine Go.Sl.ow_val rfl rfl (Go.Sl.v_len rfl Try.underlying43 rfl) ?_
                refine Go.Sl.ow_val rfl rfl (Go.Sl.v_move rfl) ?_
                refine Go.Sl.ow_val rfl rfl (Go.Sl.v_leq rfl rfl) ?_
                refine Go.Sl.ow_val rfl rfl (Go.Sl.v_move rfl) ?_
                refine Go.Sl.ow_dec 101 rfl (fun hc101 => ?_) (fun hc101 => ?_)
                (exfalso; omega)
                refine Go.Sl.ow_val rfl rfl (Go.Sl.v_fieldAddr0 Ty.fd28_0 rfl) ?_
                refine Go.Sl.ow_val rfl rfl (Go.Sl.v_load rfl (Go.Sl.Var.at1 Ty.sc23 (.there (.there .here)) (Go.Sl.GetN.lit rfl))) ?_
                refine Go.Sl.ow_val rfl rfl (Go.Sl.v_fieldAddr0 Ty.fd28_1 rfl) ?_
                refine Go.Sl.ow_val rfl rfl (Go.Sl.v_load rfl (Go.Sl.Var.at1 Ty.sc23 (.there (.there .here)) (Go.Sl.GetN.lit rfl))) ?_
                refine Go.Sl.ow_val rfl rfl (Go.Sl.v_geq rfl rfl) ?_
                refine Go.Sl.ow_val rfl rfl (Go.Sl.v_pick_false rfl rfl) ?_
                refine Go.Sl.ow_val rfl rfl (Go.Sl.v_neqB Try.underlying4 rfl rfl) ?_
                refine Go.Sl.ow_val rfl rfl (Go.Sl.v_move rfl) ?_
                refine Go.Sl.ow_dec 109 rfl (fun hc109 => ?_) (fun hc109 => ?_)
                refine Go.Sl.ow_skip rfl rfl ?_
                refine Go.Sl.ow_skip rfl rfl ?_
                refine Go.Sl.ow_skip rfl rfl ?_
                refine Go.Sl.ow_skip rfl rfl ?_
                refine Go.Sl.ow_skip rfl rfl ?_
                refine Go.Sl.ow_skip rfl rfl ?_
                refine Go.Sl.ow_val rfl rfl (Go.Sl.v_pick_true rfl rfl) ?_
                refine Go.Sl.ow_nil ?_
                refine Go.Sl.xw_then ?_
                refine Go.Sl.cw_true rfl ?_
                refine Go.Sl.cw_seq ?_
                refine Go.Sl.cw_region ?_
                refine Go.Sl.ow_val rfl rfl (Go.Sl.v_assign rfl) ?_
                refine Go.Sl.ow_nil ?_
                refine Go.Sl.xw_then ?_
                refine Go.Sl.cw_ret ?_
                refine Go.Sl.xw_then_ret ?_
                refine Go.Sl.xw_block_ret ?_
                refine Go.Sl.xw_joint_ret ?_
                refine Go.Sl.xw_block_ret ?_
                refine Go.Sl.xw_then_ret ?_
                refine Go.Sl.xw_round_ret ?_
                refine Go.Sl.xw_block_ret ?_
                refine Go.Sl.xw_joint_ret ?_
                refine Go.Sl.ret1 rfl (Go.Sl.res_tmp rfl) ?_
                rotate_left
                refine Go.Sl.ow_val rfl rfl (Go.Sl.v_move rfl) ?_
                refine Go.Sl.ow_val rfl rfl (Go.Sl.v_neq rfl rfl) ?_
                refine Go.Sl.ow_val rfl rfl (Go.Sl.v_move rfl) ?_
                refine Go.Sl.ow_dec 112 rfl (fun hc112 => ?_) (fun hc112 => ?_)
                rotate_left; (exfalso; omega); rotate_right
                refine Go.Sl.ow_val rfl rfl (Go.Sl.v_move rfl) ?_
                refine Go.Sl.ow_val rfl rfl (Go.Sl.v_neq rfl rfl) ?_
                refine Go.Sl.ow_val rfl rfl (Go.Sl.v_pick_true rfl rfl) ?_
                refine Go.Sl.ow_val rfl rfl (Go.Sl.v_pick_false rfl rfl) ?_
                refine Go.Sl.ow_nil ?_
                refine Go.Sl.xw_then ?_
                refine Go.Sl.cw_false rfl ?_
                refine Go.Sl.cw_skip ?_
                refine Go.Sl.xw_then ?_
                refine Go.Sl.cw_seq ?_
                refine Go.Sl.cw_region ?_
                refine Go.Sl.ow_val rfl rfl (Go.Sl.v_move rfl) ?_
                refine Go.Sl.ow_val rfl rfl (Go.Sl.v_eql rfl rfl) ?_
                refine Go.Sl.ow_nil ?_
                refine Go.Sl.xw_then ?_
                refine Go.Sl.cw_false rfl ?_
                refine Go.Sl.cw_skip ?_
                refine Go.Sl.xw_block ?_
                rotate_left
                · refine absurd ?_ hc109
                  rw [Bool.eq_iff_iff]
                  simp <;> omega
                · exact xw_joint (⟨i, l, x94, ao, cap, cm⟩ : Ix) ⟨hg, by dsimp only; omega, hmo, hq94, hL⟩ (by first | exact Go.Sl.Cov.refl _ | (intro p; simp only [List.flatten_cons, List.flatten_nil, List.flatten_append, List.append_nil, List.nil_append, Go.Sl.cnt_append, Go.Sl.cnt_cons, Go.Sl.cnt_nil, List.set_cons_zero, List.set_cons_succ, List.length_nil, List.length_cons, Nat.zero_add, List.append]; omega)) (by repeat (first | exact True.intro | refine And.intro rfl ?_))
            · have hE : addE l r = l := if_neg hne
              have had : ∀ {G : List Hp} {R : Hp → List Hp}, Sel G c R → Go.Sl.Fn Try.prog 17 #[.pointer (some ⟨x41.1, 0, none⟩), enR.val r] B w0 G fun u G' => ∃ c' : Hp, u = .int .i64 0 ∧ SetAt ⟨limit, l⟩ x41.1 c' ∧ G' = R c' := fun hs => by
                have h := setAddOk_l (B := B) (w0 := w0) hs hO hw hrg (by rw [hE]; exact hmo)
                rw [hE] at h
                exact h
              refine Go.Sl.cw_seq ?_
              refine Go.Sl.cw_region ?_
              refine Go.Sl.ow_val rfl rfl (Go.Sl.v_move rfl) ?_
              refine Go.Sl.ow_val rfl rfl (Go.Sl.v_load rfl (Go.Sl.Var.atN Ty.ag28 (.there .here) Go.Sl.GetN.all (by first | rfl | assumption))) ?_
              refine Go.Sl.ow_val rfl rfl (Go.Sl.v_call rfl rfl (ref_c hrg)) ?_
              refine Go.Sl.ow_val rfl rfl (Go.Sl.v_call rfl rfl (refAdd0_c hne hrg)) ?_
              refine Go.Sl.ow_val rfl rfl (Go.Sl.v_assign rfl) ?_
              refine Go.Sl.ow_nil ?_
              refine Go.Sl.xw_then ?_
              refine Go.Sl.cw_seq ?_
              refine Go.Sl.cw_region ?_
              refine Go.Sl.ow_val rfl rfl (Go.Sl.v_move rfl) ?_
              refine Go.Sl.ow_val rfl rfl (Go.Sl.v_load rfl (Go.Sl.Var.atN Ty.ag28 (.there .here) Go.Sl.GetN.all (by first | rfl | assumption))) ?_
              (refine Go.Sl.ow_call rfl rfl rfl rfl (had (by repeat (first | exact Go.Sl.Sel.here | apply Go.Sl.Sel.there))) ?_; rintro _ _ ⟨x94, rfl, hq94, rfl⟩)
              refine Go.Sl.ow_val rfl rfl (Go.Sl.v_assign rfl) ?_
              refine Go.Sl.ow_nil ?_
              refine Go.Sl.xw_then ?_
              refine Go.Sl.cw_seq ?_
              refine Go.Sl.cw_seq ?_
              refine Go.Sl.cw_region ?_
              refine Go.Sl.ow_val rfl rfl (Go.Sl.v_move rfl) ?_
              refine Go.Sl.ow_val rfl rfl (Go.Sl.v_eql rfl rfl) ?_
              refine Go.Sl.ow_val rfl rfl (Go.Sl.v_move rfl) ?_
              refine Go.Sl.ow_val rfl rfl (Go.Sl.v_len rfl Try.underlying43 rfl) ?_
              refine Go.Sl.ow_val rfl rfl (Go.Sl.v_move rfl) ?_
              refine Go.Sl.ow_val rfl rfl (Go.Sl.v_leq rfl rfl) ?_
              refine Go.Sl.ow_val rfl rfl (Go.Sl.v_move rfl) ?_
              refine Go.Sl.ow_dec 101 rfl (fun hc101 => ?_) (fun hc101 => ?_)
              rotate_left; (exfalso; omega); rotate_right
              refine Go.Sl.ow_skip rfl rfl ?_
              refine Go.Sl.ow_skip rfl rfl ?_
              refine Go.Sl.ow_skip rfl rfl ?_
              refine Go.Sl.ow_skip rfl rfl ?_
              refine Go.Sl.ow_skip rfl rfl ?_
              refine Go.Sl.ow_val rfl rfl (Go.Sl.v_pick_true rfl rfl) ?_
              refine Go.Sl.ow_val rfl rfl (Go.Sl.v_neqB Try.underlying4 rfl rfl) ?_
              refine Go.Sl.ow_val rfl rfl (Go.Sl.v_move rfl) ?_
              refine Go.Sl.ow_dec 109 rfl (fun hc109 => ?_) (fun hc109 => ?_)
              refine Go.Sl.ow_skip rfl rfl ?_
              refine Go.Sl.ow_skip rfl rfl ?_
              refine Go.Sl.ow_skip rfl rfl ?_
              refine Go.Sl.ow_skip rfl rfl ?_
              refine Go.Sl.ow_skip rfl rfl ?_
              refine Go.Sl.ow_skip rfl rfl ?_
              refine Go.Sl.ow_val rfl rfl (Go.Sl.v_pick_true rfl rfl) ?_
              refine Go.Sl.ow_nil ?_
              refine Go.Sl.xw_then ?_
              refine Go.Sl.cw_true rfl ?_
              refine Go.Sl.cw_seq ?_
              refine Go.Sl.cw_region ?_
              refine Go.Sl.ow_val rfl rfl (Go.Sl.v_assign rfl) ?_
              refine Go.Sl.ow_nil ?_
              refine Go.Sl.xw_then ?_
              refine Go.Sl.cw_ret ?_
              refine Go.Sl.xw_then_ret ?_
              refine Go.Sl.xw_block_ret ?_
              refine Go.Sl.xw_joint_ret ?_
              refine Go.Sl.xw_block_ret ?_
              refine Go.Sl.xw_then_ret ?_
              refine Go.Sl.xw_round_ret ?_
              refine Go.Sl.xw_block_ret ?_
              refine Go.Sl.xw_joint_ret ?_
              refine Go.Sl.ret1 rfl (Go.Sl.res_tmp rfl) ?_
              rotate_left
              refine Go.Sl.ow_val rfl rfl (Go.Sl.v_move rfl) ?_
              refine Go.Sl.ow_val rfl rfl (Go.Sl.v_neq rfl rfl) ?_
              refine Go.Sl.ow_val rfl rfl (Go.Sl.v_move rfl) ?_
              refine Go.Sl.ow_skip rfl rfl ?_
              refine Go.Sl.ow_skip rfl rfl ?_
              refine Go.Sl.ow_val rfl rfl (Go.Sl.v_pick_false rfl rfl) ?_
              refine Go.Sl.ow_val rfl rfl (Go.Sl.v_pick_false rfl rfl) ?_
              refine Go.Sl.ow_nil ?_
              refine Go.Sl.xw_then ?_
              refine Go.Sl.cw_false rfl ?_
              refine Go.Sl.cw_skip ?_
              refine Go.Sl.xw_then ?_
              refine Go.Sl.cw_seq ?_
              refine Go.Sl.cw_region ?_
              refine Go.Sl.ow_val rfl rfl (Go.Sl.v_move rfl) ?_
              refine Go.Sl.ow_val rfl rfl (Go.Sl.v_eql rfl rfl) ?_
              refine Go.Sl.ow_nil ?_
              refine Go.Sl.xw_then ?_
              refine Go.Sl.cw_true rfl ?_
              refine Go.Sl.cw_region ?_
              refine Go.Sl.ow_val rfl rfl (Go.Sl.v_move rfl) ?_
              refine Go.Sl.ow_val rfl rfl (Go.Sl.v_assign rfl) ?_
              refine Go.Sl.ow_nil ?_
              refine Go.Sl.xw_block ?_
              rotate_left
              · refine absurd ?_ hc109
                rw [Bool.eq_iff_iff]
                simp <;> omega
              · exact xw_joint (⟨i, l, x94, ao, cap, cm⟩ : Ix) ⟨hg, by dsimp only; omega, hmo, hq94, hL⟩ (by first | exact Go.Sl.Cov.refl _ | (intro p; simp only [List.flatten_cons, List.flatten_nil, List.flatten_append, List.append_nil, List.nil_append, Go.Sl.cnt_append, Go.Sl.cnt_cons, Go.Sl.cnt_nil, List.set_cons_zero, List.set_cons_succ, List.length_nil, List.length_cons, Nat.zero_add, List.append]; omega)) (by repeat (first | exact True.intro | refine And.intro rfl ?_))
          · by_cases hne : r.a < r.b
            · have hro := hrg.ok hne
              obtain ⟨s1, s2, s3⟩ := add_spec hg hro
              have hra : ∀ {G : List Hp}, Vw enR (St B w0 G) (.slice ao l.length cap) l → Go.Sl.Fn Try.prog 25 #[.slice ao l.length cap, enR.val r] B w0 G fun u G' => ∃ x : Option Addr × Nat × Hp, u = .slice x.1 (addL l r).length x.2.1 ∧ Ls enR 45 (.slice x.1 (addL l r).length x.2.1) x.2.2 (addL l r) ∧ G' = [x.2.2] ++ G := fun hV => by
                have h := refAdd_c (B := B) (w0 := w0) hV (by omega) hne hrg
                rw [refAdd_eq hg hro] at h
                exact h
              have had : ∀ {G : List Hp} {R : Hp → List Hp}, Sel G c R → Go.Sl.Fn Try.prog 27 #[.pointer (some ⟨x41.1, 0, none⟩), enR.val r] B w0 G fun u G' => ∃ c' : Hp, u = .int .i64 (max (((addL l r).length : Int) - max limit 1) 0) ∧ SetAt ⟨limit, (addL l r).drop (max (((addL l r).length : Int) - max limit 1) 0).toNat⟩ x41.1 c' ∧ G' = R c' := fun hs => by
                have h := setAddLast_c (B := B) (w0 := w0) hs hO hw hrg
                rw [show (⟨limit, l⟩ : SetM).addLast r = (⟨limit, (addL l r).drop (max (((addL l r).length : Int) - max limit 1) 0).toNat⟩, (max (((addL l r).length : Int) - max limit 1) 0)) from by rw [SetM.addLast, if_neg (by omega)]] at h
                exact h
              have hv2 : (max (((addL l r).length : Int) - max limit 1) 0).toNat ≤ (addL l r).length := by omega
              refine Go.Sl.cw_seq ?_
              refine Go.Sl.cw_region ?_
              refine Go.Sl.ow_val rfl rfl (Go.Sl.v_move rfl) ?_
              refine Go.Sl.ow_val rfl rfl (Go.Sl.v_load rfl (Go.Sl.Var.atN Ty.ag28 (.there .here) Go.Sl.GetN.all (by first | rfl | assumption))) ?_
              refine Go.Sl.ow_val rfl rfl (Go.Sl.v_call rfl rfl (ref_c hrg)) ?_
              (refine Go.Sl.ow_call rfl rfl rfl rfl (hra (hL.vw (by repeat (first | exact Go.Sl.Sub.here | assumption | refine Go.Sl.Sub.there ?_)))) ?_; rintro _ _ ⟨x126, rfl, hq126, rfl⟩)
              refine Go.Sl.ow_val rfl rfl (Go.Sl.v_assign rfl) ?_
              refine Go.Sl.ow_nil ?_
              refine Go.Sl.xw_then ?_
              refine Go.Sl.cw_seq ?_
              refine Go.Sl.cw_region ?_
              refine Go.Sl.ow_val rfl rfl (Go.Sl.v_move rfl) ?_
              refine Go.Sl.ow_val rfl rfl (Go.Sl.v_len rfl Try.underlying43 rfl) ?_
              refine Go.Sl.ow_val rfl rfl (Go.Sl.v_move rfl) ?_
              refine Go.Sl.ow_val rfl rfl (Go.Sl.v_sub rfl rfl (Go.Sl.nw_i64 (by omega) (by omega))) ?_
              refine Go.Sl.ow_val rfl rfl (Go.Sl.v_max rfl rfl) ?_
              refine Go.Sl.ow_val rfl rfl (Go.Sl.v_assign rfl) ?_
              refine Go.Sl.ow_nil ?_
              refine Go.Sl.xw_then ?_
              refine Go.Sl.cw_seq ?_
              refine Go.Sl.cw_seq ?_
              refine Go.Sl.cw_region ?_
              refine Go.Sl.ow_val rfl rfl (Go.Sl.v_move rfl) ?_
              refine Go.Sl.ow_val rfl rfl (Go.Sl.v_load rfl (Go.Sl.Var.atN Ty.ag28 (.there (.there .here)) Go.Sl.GetN.all (by first | rfl | assumption))) ?_
              (refine Go.Sl.ow_call rfl rfl rfl rfl (had (by repeat (first | exact Go.Sl.Sel.here | apply Go.Sl.Sel.there))) ?_; rintro _ _ ⟨x134, rfl, hq134, rfl⟩)
              refine Go.Sl.ow_val rfl rfl (Go.Sl.v_move rfl) ?_
              refine Go.Sl.ow_val rfl rfl (Go.Sl.v_neq rfl rfl) ?_
              refine Go.Sl.ow_nil ?_
              refine Go.Sl.xw_then ?_
              refine Go.Sl.cw_dec rfl (fun hc136 => ?_) (fun hc136 => ?_)
              (exfalso; omega)
              refine Go.Sl.cw_skip ?_
              refine Go.Sl.xw_then ?_
              refine Go.Sl.cw_region ?_
              refine Go.Sl.ow_val rfl rfl (Go.Sl.v_move rfl) ?_
              refine Go.Sl.ow_val rfl rfl (Go.Sl.v_move rfl) ?_
              refine Go.Sl.ow_val rfl rfl (Go.Sl.v_slice_ln Try.underlying43 Ty.el43 rfl rfl (Int.toNat_of_nonneg (by omega)).symm (by omega)) ?_
              refine Go.Sl.ow_val rfl rfl (Go.Sl.v_assign rfl) ?_
              refine Go.Sl.ow_nil ?_
              refine Go.Sl.xw_block ?_
              have hLd := hq126.drop r2Ty hv2
              have hln3 : ((addL l r).drop (max (((addL l r).length : Int) - max limit 1) 0).toNat).length = (addL l r).length - (max (((addL l r).length : Int) - max limit 1) 0).toNat := List.length_drop
              rw [← hln3] at hLd
              exact xw_joint (⟨i, (addL l r).drop (max (((addL l r).length : Int) - max limit 1) 0).toNat, x134, _, _, x126.2.2⟩ : Ix) ⟨s1.drop _, by dsimp only; omega, by dsimp only; omega, hq134, hLd⟩ (by first | exact Go.Sl.Cov.refl _ | (intro p; simp only [List.flatten_cons, List.flatten_nil, List.flatten_append, List.append_nil, List.nil_append, Go.Sl.cnt_append, Go.Sl.cnt_cons, Go.Sl.cnt_nil, List.set_cons_zero, List.set_cons_succ, List.length_nil, List.length_cons, Nat.zero_add, List.append]; omega)) ⟨by rw [hln3]; rfl, (by repeat (first | exact True.intro | refine And.intro rfl ?_))⟩
            · have hz : (max ((l.length : Int) - max limit 1) 0).toNat = 0 := by omega
              have had : ∀ {G : List Hp} {R : Hp → List Hp}, Sel G c R → Go.Sl.Fn Try.prog 27 #[.pointer (some ⟨x41.1, 0, none⟩), enR.val r] B w0 G fun u G' => ∃ c' : Hp, u = .int .i64 0 ∧ SetAt ⟨limit, l⟩ x41.1 c' ∧ G' = R c' := fun hs => by
                have h := setAddLast_c (B := B) (w0 := w0) hs hO hw hrg
                rw [show (⟨limit, l⟩ : SetM).addLast r = (⟨limit, l⟩, 0) from by rw [SetM.addLast, if_pos hne]] at h
                exact h
              refine Go.Sl.cw_seq ?_
              refine Go.Sl.cw_region ?_
              refine Go.Sl.ow_val rfl rfl (Go.Sl.v_move rfl) ?_
              refine Go.Sl.ow_val rfl rfl (Go.Sl.v_load rfl (Go.Sl.Var.atN Ty.ag28 (.there .here) Go.Sl.GetN.all (by first | rfl | assumption))) ?_
              refine Go.Sl.ow_val rfl rfl (Go.Sl.v_call rfl rfl (ref_c hrg)) ?_
              refine Go.Sl.ow_val rfl rfl (Go.Sl.v_call rfl rfl (refAdd0_c hne hrg)) ?_
              refine Go.Sl.ow_val rfl rfl (Go.Sl.v_assign rfl) ?_
              refine Go.Sl.ow_nil ?_
              refine Go.Sl.xw_then ?_
              refine Go.Sl.cw_seq ?_
              refine Go.Sl.cw_region ?_
              refine Go.Sl.ow_val rfl rfl (Go.Sl.v_move rfl) ?_
              refine Go.Sl.ow_val rfl rfl (Go.Sl.v_len rfl Try.underlying43 rfl) ?_
              refine Go.Sl.ow_val rfl rfl (Go.Sl.v_move rfl) ?_
              refine Go.Sl.ow_val rfl rfl (Go.Sl.v_sub rfl rfl (Go.Sl.nw_i64 (by omega) (by omega))) ?_
              refine Go.Sl.ow_val rfl rfl (Go.Sl.v_max rfl rfl) ?_
              refine Go.Sl.ow_val rfl rfl (Go.Sl.v_assign rfl) ?_
              refine Go.Sl.ow_nil ?_
              refine Go.Sl.xw_then ?_
              refine Go.Sl.cw_seq ?_
              refine Go.Sl.cw_seq ?_
              refine Go.Sl.cw_region ?_
              refine Go.Sl.ow_val rfl rfl (Go.Sl.v_move rfl) ?_
              refine Go.Sl.ow_val rfl rfl (Go.Sl.v_load rfl (Go.Sl.Var.atN Ty.ag28 (.there .here) Go.Sl.GetN.all (by first | rfl | assumption))) ?_
              (refine Go.Sl.ow_call rfl rfl rfl rfl (had (by repeat (first | exact Go.Sl.Sel.here | apply Go.Sl.Sel.there))) ?_; rintro _ _ ⟨x134, rfl, hq134, rfl⟩)
              refine Go.Sl.ow_val rfl rfl (Go.Sl.v_move rfl) ?_
              refine Go.Sl.ow_val rfl rfl (Go.Sl.v_neq rfl rfl) ?_
              refine Go.Sl.ow_nil ?_
              refine Go.Sl.xw_then ?_
              refine Go.Sl.cw_dec rfl (fun hc136 => ?_) (fun hc136 => ?_)
              (exfalso; omega)
              refine Go.Sl.cw_skip ?_
              refine Go.Sl.xw_then ?_
              refine Go.Sl.cw_region ?_
              refine Go.Sl.ow_val rfl rfl (Go.Sl.v_move rfl) ?_
              refine Go.Sl.ow_val rfl rfl (Go.Sl.v_move rfl) ?_
              refine Go.Sl.ow_val rfl rfl (Go.Sl.v_slice_ln Try.underlying43 Ty.el43 rfl rfl (Int.toNat_of_nonneg (by omega)).symm (by omega)) ?_
              refine Go.Sl.ow_val rfl rfl (Go.Sl.v_assign rfl) ?_
              refine Go.Sl.ow_nil ?_
              refine Go.Sl.xw_block ?_
              all_goals first
                | (rw [hz, cutA_zero]
                   exact xw_joint (⟨i, l, x134, ao, cap, cm⟩ : Ix) ⟨hg, by dsimp only; omega, hmo, hq134, hL⟩ (by first | exact Go.Sl.Cov.refl _ | (intro p; simp only [List.flatten_cons, List.flatten_nil, List.flatten_append, List.append_nil, List.nil_append, Go.Sl.cnt_append, Go.Sl.cnt_cons, Go.Sl.cnt_nil, List.set_cons_zero, List.set_cons_succ, List.length_nil, List.length_cons, Nat.zero_add, List.append]; omega)) (by repeat (first | exact True.intro | refine And.intro rfl ?_)))
          · by_cases hne : r.a < r.b
            · have hro := hrg.ok hne
              obtain ⟨s1, s2, s3⟩ := cut_spec hg hro
              have hE : cutE l r = cutL l r := if_pos hne
              have hra : ∀ {G : List Hp}, Vw enR (St B w0 G) (.slice ao l.length cap) l → Go.Sl.Fn Try.prog 28 #[.slice ao l.length cap, enR.val r] B w0 G fun u G' => ∃ x : Option Addr × Nat × Hp, u = .slice x.1 (cutL l r).length x.2.1 ∧ Ls enR 45 (.slice x.1 (cutL l r).length x.2.1) x.2.2 (cutL l r) ∧ G' = [x.2.2] ++ G := fun hV => by
                have h := refCut_c (B := B) (w0 := w0) hV (by omega) hne hrg
                rw [refCut_eq hg hro] at h
                exact h
              by_cases hfit : ((cutL l r).length : Int) ≤ max limit 1
              · have had : ∀ {G : List Hp} {R : Hp → List Hp}, Sel G c R → Go.Sl.Fn Try.prog 21 #[.pointer (some ⟨x41.1, 0, none⟩), enR.val r] B w0 G fun u G' => ∃ c' : Hp, u = .int .i64 0 ∧ SetAt ⟨limit, cutL l r⟩ x41.1 c' ∧ G' = R c' := fun hs => by
                  have h := setCutOk_l (B := B) (w0 := w0) hs hO hw hrg (by rw [hE]; exact hfit)
                  rw [hE] at h
                  exact h
                refine Go.Sl.cw_seq ?_
                refine Go.Sl.cw_region ?_
                refine Go.Sl.ow_val rfl rfl (Go.Sl.v_move rfl) ?_
                refine Go.Sl.ow_val rfl rfl (Go.Sl.v_load rfl (Go.Sl.Var.atN Ty.ag28 (.there .here) Go.Sl.GetN.all (by first | rfl | assumption))) ?_
                refine Go.Sl.ow_val rfl rfl (Go.Sl.v_call rfl rfl (ref_c hrg)) ?_
                (refine Go.Sl.ow_call rfl rfl rfl rfl (hra (hL.vw (by repeat (first | exact Go.Sl.Sub.here | assumption | refine Go.Sl.Sub.there ?_)))) ?_; rintro _ _ ⟨x63, rfl, hq63, rfl⟩)
                refine Go.Sl.ow_val rfl rfl (Go.Sl.v_assign rfl) ?_
                refine Go.Sl.ow_nil ?_
                refine Go.Sl.xw_then ?_
                refine Go.Sl.cw_seq ?_
                refine Go.Sl.cw_region ?_
                refine Go.Sl.ow_val rfl rfl (Go.Sl.v_move rfl) ?_
                refine Go.Sl.ow_val rfl rfl (Go.Sl.v_load rfl (Go.Sl.Var.atN Ty.ag28 (.there (.there .here)) Go.Sl.GetN.all (by first | rfl | assumption))) ?_
                (refine Go.Sl.ow_call rfl rfl rfl rfl (had (by repeat (first | exact Go.Sl.Sel.here | apply Go.Sl.Sel.there))) ?_; rintro _ _ ⟨x66, rfl, hq66, rfl⟩)
                refine Go.Sl.ow_val rfl rfl (Go.Sl.v_assign rfl) ?_
                refine Go.Sl.ow_nil ?_
                refine Go.Sl.xw_then ?_
                refine Go.Sl.cw_seq ?_
                refine Go.Sl.cw_seq ?_
                refine Go.Sl.cw_region ?_
                refine Go.Sl.ow_val rfl rfl (Go.Sl.v_move rfl) ?_
                refine Go.Sl.ow_val rfl rfl (Go.Sl.v_eql rfl rfl) ?_
                refine Go.Sl.ow_val rfl rfl (Go.Sl.v_move rfl) ?_
                refine Go.Sl.ow_val rfl rfl (Go.Sl.v_len rfl Try.underlying43 rfl) ?_
                refine Go.Sl.ow_val rfl rfl (Go.Sl.v_move rfl) ?_
                refine Go.Sl.ow_val rfl rfl (Go.Sl.v_leq rfl rfl) ?_
                refine Go.Sl.ow_val rfl rfl (Go.Sl.v_neqB Try.underlying4 rfl rfl) ?_
                refine Go.Sl.ow_val rfl rfl (Go.Sl.v_move rfl) ?_
                refine Go.Sl.ow_dec 74 rfl (fun hc74 => ?_) (fun hc74 => ?_)
                refine Go.Sl.ow_skip rfl rfl ?_
                refine Go.Sl.ow_skip rfl rfl ?_
                refine Go.Sl.ow_skip rfl rfl ?_
                refine Go.Sl.ow_skip rfl rfl ?_
                refine Go.Sl.ow_skip rfl rfl ?_
                refine Go.Sl.ow_skip rfl rfl ?_
                refine Go.Sl.ow_val rfl rfl (Go.Sl.v_pick_true rfl rfl) ?_
                refine Go.Sl.ow_nil ?_
                refine Go.Sl.xw_then ?_
                refine Go.Sl.cw_true rfl ?_
                refine Go.Sl.cw_seq ?_
                refine Go.Sl.cw_region ?_
                refine Go.Sl.ow_val rfl rfl (Go.Sl.v_assign rfl) ?_
                refine Go.Sl.ow_nil ?_
                refine Go.Sl.xw_then ?_
                refine Go.Sl.cw_ret ?_
                refine Go.Sl.xw_then_ret ?_
                refine Go.Sl.xw_block_ret ?_
                refine Go.Sl.xw_joint_ret ?_
                refine Go.Sl.xw_block_ret ?_
                refine Go.Sl.xw_then_ret ?_
                refine Go.Sl.xw_round_ret ?_
                refine Go.Sl.xw_block_ret ?_
                refine Go.Sl.xw_joint_ret ?_
                refine Go.Sl.ret1 rfl (Go.Sl.res_tmp rfl) ?_
                rotate_left
                refine Go.Sl.ow_val rfl rfl (Go.Sl.v_move rfl) ?_
                refine Go.Sl.ow_val rfl rfl (Go.Sl.v_neq rfl rfl) ?_
                refine Go.Sl.ow_val rfl rfl (Go.Sl.v_move rfl) ?_
                refine Go.Sl.ow_skip rfl rfl ?_
                refine Go.Sl.ow_skip rfl rfl ?_
                refine Go.Sl.ow_val rfl rfl (Go.Sl.v_pick_false rfl rfl) ?_
                refine Go.Sl.ow_val rfl rfl (Go.Sl.v_pick_false rfl rfl) ?_
                refine Go.Sl.ow_nil ?_
                refine Go.Sl.xw_then ?_
                refine Go.Sl.cw_false rfl ?_
                refine Go.Sl.cw_skip ?_
                refine Go.Sl.xw_then ?_
                refine Go.Sl.cw_seq ?_
                refine Go.Sl.cw_region ?_
                refine Go.Sl.ow_val rfl rfl (Go.Sl.v_move rfl) ?_
                refine Go.Sl.ow_val rfl rfl (Go.Sl.v_eql rfl rfl) ?_
                refine Go.Sl.ow_nil ?_
                refine Go.Sl.xw_then ?_
                refine Go.Sl.cw_true rfl ?_
                refine Go.Sl.cw_region ?_
                refine Go.Sl.ow_val rfl rfl (Go.Sl.v_move rfl) ?_
                refine Go.Sl.ow_val rfl rfl (Go.Sl.v_assign rfl) ?_
                refine Go.Sl.ow_nil ?_
                refine Go.Sl.xw_block ?_
                rotate_left
                · refine absurd ?_ hc74
                  rw [Bool.eq_iff_iff]
                  simp <;> omega
                · exact xw_joint (⟨i, cutL l r, x66, x63.1, x63.2.1, x63.2.2⟩ : Ix) ⟨s1, by dsimp only; omega, hfit, hq66, hq63⟩ (by first | exact Go.Sl.Cov.refl _ | (intro p; simp only [List.flatten_cons, List.flatten_nil, List.flatten_append, List.append_nil, List.nil_append, Go.Sl.cnt_append, Go.Sl.cnt_cons, Go.Sl.cnt_nil, List.set_cons_zero, List.set_cons_succ, List.length_nil, List.length_cons, Nat.zero_add, List.append]; omega)) (by repeat (first | exact True.intro | refine And.intro rfl ?_))
              · have had : ∀ {G : List Hp} {R : Hp → List Hp}, Sel G c R → Go.Sl.Fn Try.prog 21 #[.pointer (some ⟨x41.1, 0, none⟩), enR.val r] B w0 G fun u G' => ∃ c' : Hp, u = .int .i64 7 ∧ SetAt ⟨limit, l⟩ x41.1 c' ∧ G' = R c' := fun hs => by
                  have h := setCut_c (B := B) (w0 := w0) hs hO hw hrg
                  rw [show (⟨limit, l⟩ : SetM).cut r = (⟨limit, l⟩, 7) from by rw [SetM.cut, if_neg (by omega), if_pos (by dsimp only; omega)]] at h
                  exact h
                refine Go.Sl.cw_seq ?_
                refine Go.Sl.cw_region ?_
                refine Go.Sl.ow_val rfl rfl (Go.Sl.v_move rfl) ?_
                refine Go.Sl.ow_val rfl rfl (Go.Sl.v_load rfl (Go.Sl.Var.atN Ty.ag28 (.there .here) Go.Sl.GetN.all (by first | rfl | assumption))) ?_
                refine Go.Sl.ow_val rfl rfl (Go.Sl.v_call rfl rfl (ref_c hrg)) ?_
                (refine Go.Sl.ow_call rfl rfl rfl rfl (hra (hL.vw (by repeat (first | exact Go.Sl.Sub.here | assumption | refine Go.Sl.Sub.there ?_)))) ?_; rintro _ _ ⟨x63, rfl, hq63, rfl⟩)
                refine Go.Sl.ow_val rfl rfl (Go.Sl.v_assign rfl) ?_
                refine Go.Sl.ow_nil ?_
                refine Go.Sl.xw_then ?_
                refine Go.Sl.cw_seq ?_
                refine Go.Sl.cw_region ?_
                refine Go.Sl.ow_val rfl rfl (Go.Sl.v_move rfl) ?_
                refine Go.Sl.ow_val rfl rfl (Go.Sl.v_load rfl (Go.Sl.Var.atN Ty.ag28 (.there (.there .here)) Go.Sl.GetN.all (by first | rfl | assumption))) ?_
                (refine Go.Sl.ow_call rfl rfl rfl rfl (had (by repeat (first | exact Go.Sl.Sel.here | apply Go.Sl.Sel.there))) ?_; rintro _ _ ⟨x66, rfl, hq66, rfl⟩)
                refine Go.Sl.ow_val rfl rfl (Go.Sl.v_assign rfl) ?_
                refine Go.Sl.ow_nil ?_
                refine Go.Sl.xw_then ?_
                refine Go.Sl.cw_seq ?_
                refine Go.Sl.cw_seq ?_
                refine Go.Sl.cw_region ?_
                refine Go.Sl.ow_val rfl rfl (Go.Sl.v_move rfl) ?_
                refine Go.Sl.ow_val rfl rfl (Go.Sl.v_eql rfl rfl) ?_
                refine Go.Sl.ow_val rfl rfl (Go.Sl.v_move rfl) ?_
                refine Go.Sl.ow_val rfl rfl (Go.Sl.v_len rfl Try.underlying43 rfl) ?_
                refine Go.Sl.ow_val rfl rfl (Go.Sl.v_move rfl) ?_
                refine Go.Sl.ow_val rfl rfl (Go.Sl.v_leq rfl rfl) ?_
                refine Go.Sl.ow_val rfl rfl (Go.Sl.v_neqB Try.underlying4 rfl rfl) ?_
                refine Go.Sl.ow_val rfl rfl (Go.Sl.v_move rfl) ?_
                refine Go.Sl.ow_dec 74 rfl (fun hc74 => ?_) (fun hc74 => ?_)
                refine Go.Sl.ow_skip rfl rfl ?_
                refine Go.Sl.ow_skip rfl rfl ?_
                refine Go.Sl.ow_skip rfl rfl ?_
                refine Go.Sl.ow_skip rfl rfl ?_
                refine Go.Sl.ow_skip rfl rfl ?_
                refine Go.Sl.ow_skip rfl rfl ?_
                refine Go.Sl.ow_val rfl rfl (Go.Sl.v_pick_true rfl rfl) ?_
                refine Go.Sl.ow_nil ?_
                refine Go.Sl.xw_then ?_
                refine Go.Sl.cw_true rfl ?_
                refine Go.Sl.cw_seq ?_
                refine Go.Sl.cw_region ?_
                refine Go.Sl.ow_val rfl rfl (Go.Sl.v_assign rfl) ?_
                refine Go.Sl.ow_nil ?_
                refine Go.Sl.xw_then ?_
                refine Go.Sl.cw_ret ?_
                refine Go.Sl.xw_then_ret ?_
                refine Go.Sl.xw_block_ret ?_
                refine Go.Sl.xw_joint_ret ?_
                refine Go.Sl.xw_block_ret ?_
                refine Go.Sl.xw_then_ret ?_
                refine Go.Sl.xw_round_ret ?_
                refine Go.Sl.xw_block_ret ?_
                refine Go.Sl.xw_joint_ret ?_
                refine Go.Sl.ret1 rfl (Go.Sl.res_tmp rfl) ?_
                rotate_left
                refine Go.Sl.ow_val rfl rfl (Go.Sl.v_move rfl) ?_
                refine Go.Sl.ow_val rfl rfl (Go.Sl.v_neq rfl rfl) ?_
                refine Go.Sl.ow_val rfl rfl (Go.Sl.v_move rfl) ?_
                refine Go.Sl.ow_dec 77 rfl (fun hc77 => ?_) (fun hc77 => ?_)
                rotate_left; (exfalso; omega); rotate_right
                refine Go.Sl.ow_val rfl rfl (Go.Sl.v_move rfl) ?_
                refine Go.Sl.ow_val rfl rfl (Go.Sl.v_neq rfl rfl) ?_
                refine Go.Sl.ow_val rfl rfl (Go.Sl.v_pick_true rfl rfl) ?_
                refine Go.Sl.ow_val rfl rfl (Go.Sl.v_pick_false rfl rfl) ?_
                refine Go.Sl.ow_nil ?_
                refine Go.Sl.xw_then ?_
                refine Go.Sl.cw_false rfl ?_
                refine Go.Sl.cw_skip ?_
                refine Go.Sl.xw_then ?_
                refine Go.Sl.cw_seq ?_
                refine Go.Sl.cw_region ?_
                refine Go.Sl.ow_val rfl rfl (Go.Sl.v_move rfl) ?_
                refine Go.Sl.ow_val rfl rfl (Go.Sl.v_eql rfl rfl) ?_
                refine Go.Sl.ow_nil ?_
                refine Go.Sl.xw_then ?_
                refine Go.Sl.cw_false rfl ?_
                refine Go.Sl.cw_skip ?_
                refine Go.Sl.xw_block ?_
                rotate_left
                · refine absurd ?_ hc74
                  rw [Bool.eq_iff_iff]
                  simp <;> omega
                · exact xw_joint (⟨i, l, x66, ao, cap, cm⟩ : Ix) ⟨hg, by dsimp only; omega, hmo, hq66, hL⟩ (by first | exact Go.Sl.Cov.refl _ | (intro p; simp only [List.flatten_cons, List.flatten_nil, List.flatten_append, List.append_nil, List.nil_append, Go.Sl.cnt_append, Go.Sl.cnt_cons, Go.Sl.cnt_nil, List.set_cons_zero, List.set_cons_succ, List.length_nil, List.length_cons, Nat.zero_add, List.append]; omega)) (by repeat (first | exact True.intro | refine And.intro rfl ?_))
            · have hE : cutE l r = l := if_neg hne
              have had : ∀ {G : List Hp} {R : Hp → List Hp}, Sel G c R → Go.Sl.Fn Try.prog 21 #[.pointer (some ⟨x41.1, 0, none⟩), enR.val r] B w0 G fun u G' => ∃ c' : Hp, u = .int .i64 0 ∧ SetAt ⟨limit, l⟩ x41.1 c' ∧ G' = R c' := fun hs => by
                have h := setCutOk_l (B := B) (w0 := w0) hs hO hw hrg (by rw [hE]; exact hmo)
                rw [hE] at h
                exact h
              refine Go.Sl.cw_seq ?_
              refine Go.Sl.cw_region ?_
              refine Go.Sl.ow_val rfl rfl (Go.Sl.v_move rfl) ?_
              refine Go.Sl.ow_val rfl rfl (Go.Sl.v_load rfl (Go.Sl.Var.atN Ty.ag28 (.there .here) Go.Sl.GetN.all (by first | rfl | assumption))) ?_
              refine Go.Sl.ow_val rfl rfl (Go.Sl.v_call rfl rfl (ref_c hrg)) ?_
              refine Go.Sl.ow_val rfl rfl (Go.Sl.v_call rfl rfl (refCut0_c hne hrg)) ?_
              refine Go.Sl.ow_val rfl rfl (Go.Sl.v_assign rfl) ?_
              refine Go.Sl.ow_nil ?_
              refine Go.Sl.xw_then ?_
              refine Go.Sl.cw_seq ?_
              refine Go.Sl.cw_region ?_
              refine Go.Sl.ow_val rfl rfl (Go.Sl.v_move rfl) ?_
              refine Go.Sl.ow_val rfl rfl (Go.Sl.v_load rfl (Go.Sl.Var.atN Ty.ag28 (.there .here) Go.Sl.GetN.all (by first | rfl | assumption))) ?_
              (refine Go.Sl.ow_call rfl rfl rfl rfl (had (by repeat (first | exact Go.Sl.Sel.here | apply Go.Sl.Sel.there))) ?_; rintro _ _ ⟨x66, rfl, hq66, rfl⟩)
              refine Go.Sl.ow_val rfl rfl (Go.Sl.v_assign rfl) ?_
              refine Go.Sl.ow_nil ?_
              refine Go.Sl.xw_then ?_
              refine Go.Sl.cw_seq ?_
              refine Go.Sl.cw_seq ?_
              refine Go.Sl.cw_region ?_
              refine Go.Sl.ow_val rfl rfl (Go.Sl.v_move rfl) ?_
              refine Go.Sl.ow_val rfl rfl (Go.Sl.v_eql rfl rfl) ?_
              refine Go.Sl.ow_val rfl rfl (Go.Sl.v_move rfl) ?_
              refine Go.Sl.ow_val rfl rfl (Go.Sl.v_len rfl Try.underlying43 rfl) ?_
              refine Go.Sl.ow_val rfl rfl (Go.Sl.v_move rfl) ?_
              refine Go.Sl.ow_val rfl rfl (Go.Sl.v_leq rfl rfl) ?_
              refine Go.Sl.ow_val rfl rfl (Go.Sl.v_neqB Try.underlying4 rfl rfl) ?_
              refine Go.Sl.ow_val rfl rfl (Go.Sl.v_move rfl) ?_
              refine Go.Sl.ow_dec 74 rfl (fun hc74 => ?_) (fun hc74 => ?_)
              refine Go.Sl.ow_skip rfl rfl ?_
              refine Go.Sl.ow_skip rfl rfl ?_
              refine Go.Sl.ow_skip rfl rfl ?_
              refine Go.Sl.ow_skip rfl rfl ?_
              refine Go.Sl.ow_skip rfl rfl ?_
              refine Go.Sl.ow_skip rfl rfl ?_
              refine Go.Sl.ow_val rfl rfl (Go.Sl.v_pick_true rfl rfl) ?_
              refine Go.Sl.ow_nil ?_
              refine Go.Sl.xw_then ?_
              refine Go.Sl.cw_true rfl ?_
              refine Go.Sl.cw_seq ?_
              refine Go.Sl.cw_region ?_
              refine Go.Sl.ow_val rfl rfl (Go.Sl.v_assign rfl) ?_
              refine Go.Sl.ow_nil ?_
              refine Go.Sl.xw_then ?_
              refine Go.Sl.cw_ret ?_
              refine Go.Sl.xw_then_ret ?_
              refine Go.Sl.xw_block_ret ?_
              refine Go.Sl.xw_joint_ret ?_
              refine Go.Sl.xw_block_ret ?_
              refine Go.Sl.xw_then_ret ?_
              refine Go.Sl.xw_round_ret ?_
              refine Go.Sl.xw_block_ret ?_
              refine Go.Sl.xw_joint_ret ?_
              refine Go.Sl.ret1 rfl (Go.Sl.res_tmp rfl) ?_
              rotate_left
              refine Go.Sl.ow_val rfl rfl (Go.Sl.v_move rfl) ?_
              refine Go.Sl.ow_val rfl rfl (Go.Sl.v_neq rfl rfl) ?_
              refine Go.Sl.ow_val rfl rfl (Go.Sl.v_move rfl) ?_
              refine Go.Sl.ow_skip rfl rfl ?_
              refine Go.Sl.ow_skip rfl rfl ?_
              refine Go.Sl.ow_val rfl rfl (Go.Sl.v_pick_false rfl rfl) ?_
              refine Go.Sl.ow_val rfl rfl (Go.Sl.v_pick_false rfl rfl) ?_
              refine Go.Sl.ow_nil ?_
              refine Go.Sl.xw_then ?_
              refine Go.Sl.cw_false rfl ?_
              refine Go.Sl.cw_skip ?_
              refine Go.Sl.xw_then ?_
              refine Go.Sl.cw_seq ?_
              refine Go.Sl.cw_region ?_
              refine Go.Sl.ow_val rfl rfl (Go.Sl.v_move rfl) ?_
              refine Go.Sl.ow_val rfl rfl (Go.Sl.v_eql rfl rfl) ?_
              refine Go.Sl.ow_nil ?_
              refine Go.Sl.xw_then ?_
              refine Go.Sl.cw_true rfl ?_
              refine Go.Sl.cw_region ?_
              refine Go.Sl.ow_val rfl rfl (Go.Sl.v_move rfl) ?_
              refine Go.Sl.ow_val rfl rfl (Go.Sl.v_assign rfl) ?_
              refine Go.Sl.ow_nil ?_
              refine Go.Sl.xw_block ?_
              rotate_left
              · refine absurd ?_ hc74
                rw [Bool.eq_iff_iff]
                simp <;> omega
              · exact xw_joint (⟨i, l, x66, ao, cap, cm⟩ : Ix) ⟨hg, by dsimp only; omega, hmo, hq66, hL⟩ (by first | exact Go.Sl.Cov.refl _ | (intro p; simp only [List.flatten_cons, List.flatten_nil, List.flatten_append, List.append_nil, List.nil_append, Go.Sl.cnt_append, Go.Sl.cnt_cons, Go.Sl.cnt_nil, List.set_cons_zero, List.set_cons_succ, List.length_nil, List.length_cons, Nat.zero_add, List.append]; omega)) (by repeat (first | exact True.intro | refine And.intro rfl ?_))
        rintro ⟨i', l', c', ao', cap', cm'⟩ hI'
        have hI2 : Ok limit (i + 1) x41.1 ⟨i + 1, l', c', ao', cap', cm'⟩ := ⟨hI'.good, hI'.len, hI'.most, hI'.at_, hI'.ls⟩
        have hg' := hI'.good
        have hln' := hI'.len
        have hmo' := hI'.most
        have hO' := hI'.at_
        have hL' := hI'.ls
        dsimp only at hg' hln' hmo' hO' hL' ⊢
        have hw' : (⟨limit, l'⟩ : SetM).WF := ⟨hg', by dsimp only; omega, hlim⟩
        ·
          have h5 : enR.ok ⟨500, 501⟩ := ⟨⟨by decide, by decide⟩, ⟨by decide, by decide⟩⟩
          refine Go.Sl.cw_seq ?_
          refine Go.Sl.cw_seq ?_
          refine Go.Sl.cw_region ?_
          refine Go.Sl.ow_val rfl rfl (Go.Sl.v_move rfl) ?_
          (refine Go.Sl.ow_call rfl rfl rfl rfl (setList_l hO' (by repeat (first | exact Go.Sl.Sub.here | assumption | refine Go.Sl.Sub.there ?_)) hw') ?_; rintro _ _ ⟨x141, rfl, hq141, rfl⟩)
          refine Go.Sl.ow_val rfl rfl (Go.Sl.v_move rfl) ?_
          refine Go.Sl.ow_val rfl rfl (Go.Sl.v_call rfl rfl (spSame_c (l := l') (l' := l') ((by assumption : Ls enR 28 _ _ _).vw (by repeat (first | exact Go.Sl.Sub.here | assumption | refine Go.Sl.Sub.there ?_))) (hL'.vw (by repeat (first | exact Go.Sl.Sub.here | assumption | refine Go.Sl.Sub.there ?_))) (by omega))) ?_
          refine Go.Sl.ow_val rfl rfl (Go.Sl.v_not rfl) ?_
          refine Go.Sl.ow_val rfl rfl (Go.Sl.v_move rfl) ?_
          refine Go.Sl.ow_dec 145 rfl (fun hc145 => ?_) (fun hc145 => ?_)
          refine Go.Sl.ow_skip rfl rfl ?_
          refine Go.Sl.ow_skip rfl rfl ?_
          refine Go.Sl.ow_skip rfl rfl ?_
          refine Go.Sl.ow_skip rfl rfl ?_
          refine Go.Sl.ow_skip rfl rfl ?_
          refine Go.Sl.ow_val rfl rfl (Go.Sl.v_pick_true rfl rfl) ?_
          refine Go.Sl.ow_nil ?_
          refine Go.Sl.xw_then ?_
          refine Go.Sl.cw_true rfl ?_
          refine Go.Sl.cw_seq ?_
          refine Go.Sl.cw_region ?_
          refine Go.Sl.ow_val rfl rfl (Go.Sl.v_assign rfl) ?_
          refine Go.Sl.ow_nil ?_
          refine Go.Sl.xw_then ?_
          refine Go.Sl.cw_ret ?_
          refine Go.Sl.xw_then_ret ?_
          refine Go.Sl.xw_block_ret ?_
          refine Go.Sl.xw_then_ret ?_
          refine Go.Sl.xw_round_ret ?_
          refine Go.Sl.xw_block_ret ?_
          refine Go.Sl.xw_joint_ret ?_
          refine Go.Sl.ret1 rfl (Go.Sl.res_tmp rfl) ?_
          rotate_left
          refine Go.Sl.ow_val rfl rfl (Go.Sl.v_move rfl) ?_
          refine Go.Sl.ow_val rfl rfl (Go.Sl.v_call rfl rfl (setLen_l hO' (by repeat (first | exact Go.Sl.Sub.here | assumption | refine Go.Sl.Sub.there ?_)))) ?_
          refine Go.Sl.ow_val rfl rfl (Go.Sl.v_move rfl) ?_
          refine Go.Sl.ow_val rfl rfl (Go.Sl.v_len rfl Try.underlying43 rfl) ?_
          refine Go.Sl.ow_val rfl rfl (Go.Sl.v_neq rfl rfl) ?_
          refine Go.Sl.ow_val rfl rfl (Go.Sl.v_pick_false rfl rfl) ?_
          refine Go.Sl.ow_nil ?_
          refine Go.Sl.xw_then ?_
          refine Go.Sl.cw_dec rfl (fun hc151 => ?_) (fun hc151 => ?_)
          (exfalso; omega)
          refine Go.Sl.cw_skip ?_
          refine Go.Sl.xw_then ?_
          refine Go.Sl.cw_seq ?_
          refine Go.Sl.cw_region ?_
          refine Go.Sl.ow_val rfl rfl (Go.Sl.v_fieldAddr0 Ty.fd30_0 rfl) ?_
          refine Go.Sl.ow_val rfl rfl (Go.Sl.v_load rfl (Go.Sl.Var.at1 Ty.sc5 (.there (.there (.there (.there .here)))) (Go.Sl.GetN.lit rfl))) ?_
          refine Go.Sl.ow_val rfl rfl (Go.Sl.v_gtr rfl rfl) ?_
          refine Go.Sl.ow_nil ?_
          refine Go.Sl.xw_then ?_
          refine Go.Sl.cw_dec rfl (fun hc154 => ?_) (fun hc154 => ?_)
          refine Go.Sl.cw_seq ?_
          refine Go.Sl.cw_region ?_
          refine Go.Sl.ow_val rfl rfl (Go.Sl.v_move rfl) ?_
          refine Go.Sl.ow_val rfl rfl (Go.Sl.v_build rfl (b_rng)) ?_
          (refine Go.Sl.ow_call rfl rfl rfl rfl (setAdd_c (m := ⟨limit, l⟩) (r := ⟨500, 501⟩) (by repeat (first | exact Go.Sl.Sel.here | apply Go.Sl.Sel.there)) hq56 hw h5) ?_; rintro _ _ ⟨x157, rfl, hq157, rfl⟩)
          refine Go.Sl.ow_nil ?_
          refine Go.Sl.xw_then ?_
          refine Go.Sl.cw_seq ?_
          refine Go.Sl.cw_region ?_
          refine Go.Sl.ow_val rfl rfl (Go.Sl.v_move rfl) ?_
          (refine Go.Sl.ow_call rfl rfl rfl rfl (setList_l hO' (by repeat (first | exact Go.Sl.Sub.here | assumption | refine Go.Sl.Sub.there ?_)) hw') ?_; rintro _ _ ⟨x159, rfl, hq159, rfl⟩)
          refine Go.Sl.ow_val rfl rfl (Go.Sl.v_move rfl) ?_
          refine Go.Sl.ow_val rfl rfl (Go.Sl.v_call rfl rfl (spSame_c (l := l') (l' := l') ((by assumption : Ls enR 28 _ _ _).vw (by repeat (first | exact Go.Sl.Sub.here | assumption | refine Go.Sl.Sub.there ?_))) (hL'.vw (by repeat (first | exact Go.Sl.Sub.here | assumption | refine Go.Sl.Sub.there ?_))) (by omega))) ?_
          refine Go.Sl.ow_val rfl rfl (Go.Sl.v_not rfl) ?_
          refine Go.Sl.ow_nil ?_
          refine Go.Sl.xw_then ?_
          refine Go.Sl.cw_dec rfl (fun hc162 => ?_) (fun hc162 => ?_)
          refine Go.Sl.cw_seq ?_
          refine Go.Sl.cw_region ?_
          refine Go.Sl.ow_val rfl rfl (Go.Sl.v_assign rfl) ?_
          refine Go.Sl.ow_nil ?_
          refine Go.Sl.xw_then ?_
          refine Go.Sl.cw_ret ?_
          refine Go.Sl.xw_block_ret ?_
          refine Go.Sl.xw_then_ret ?_
          refine Go.Sl.xw_round_ret ?_
          refine Go.Sl.xw_block_ret ?_
          refine Go.Sl.xw_joint_ret ?_
          refine Go.Sl.ret1 rfl (Go.Sl.res_tmp rfl) ?_
          rotate_left
          refine Go.Sl.cw_skip ?_
          refine Go.Sl.xw_block ?_
          refine Go.Sl.xw_then ?_
          refine Go.Sl.cw_region ?_
          refine Go.Sl.ow_val rfl rfl (Go.Sl.v_add rfl rfl (Go.Sl.nw_i64 (by omega) (by omega))) ?_
          refine Go.Sl.ow_val rfl rfl (Go.Sl.v_move rfl) ?_
          refine Go.Sl.ow_nil ?_
          rotate_left
          refine Go.Sl.cw_skip ?_
          refine Go.Sl.xw_block ?_
          refine Go.Sl.xw_then ?_
          refine Go.Sl.cw_region ?_
          refine Go.Sl.ow_val rfl rfl (Go.Sl.v_add rfl rfl (Go.Sl.nw_i64 (by omega) (by omega))) ?_
          refine Go.Sl.ow_val rfl rfl (Go.Sl.v_move rfl) ?_
          refine Go.Sl.ow_nil ?_
          rotate_left
          all_goals first
            | exact absurd rfl hc162
            | exact absurd rfl hc145
            | exact absurd rfl hc150
            | exact xw_round (⟨i + 1, l', c', ao', cap', cm'⟩ : Ix) ⟨by dsimp only; omega, by dsimp only; omega, hI2⟩ (by dsimp only; omega) (by first | exact Go.Sl.Cov.refl _ | (intro p; simp only [List.flatten_cons, List.flatten_nil, List.flatten_append, List.append_nil, List.nil_append, Go.Sl.cnt_append, Go.Sl.cnt_cons, Go.Sl.cnt_nil, List.set_cons_zero, List.set_cons_succ, List.length_nil, List.length_cons, Nat.zero_add, List.append]; omega)) (by repeat (first | exact True.intro | refine And.intro rfl ?_))
    · exact xw_joint (⟨i, l, c, ao, cap, cm⟩ : Ix) ⟨hg, by dsimp only; omega, hmo, hO, hL⟩ (by first | exact Go.Sl.Cov.refl _ | (intro p; simp only [List.flatten_cons, List.flatten_nil, List.flatten_append, List.append_nil, List.nil_append, Go.Sl.cnt_append, Go.Sl.cnt_cons, Go.Sl.cnt_nil, List.set_cons_zero, List.set_cons_succ, List.length_nil, List.length_cons, Nat.zero_add, List.append]; omega)) (by repeat (first | exact True.intro | refine And.intro rfl ?_))
  · rintro ⟨_, l, c, ao, cap, cm⟩ hI
    have hg := hI.good
    have hln := hI.len
    have hmo := hI.most
    have hO := hI.at_
    have hL := hI.ls
    dsimp only at hg hln hmo hO hL ⊢
    have hw : (⟨limit, l⟩ : SetM).WF := ⟨hg, by dsimp only; omega, hlim⟩
    refine Go.Sl.cw_seq ?_
    refine Go.Sl.cw_region ?_
    refine Go.Sl.ow_val rfl rfl (Go.Sl.v_assign rfl) ?_
    refine Go.Sl.ow_nil ?_
    refine Go.Sl.xw_then ?_
    refine Go.Sl.cw_seq ?_
    refine Go.Sl.cw_seq ?_
    refine Go.Sl.cw_region ?_
    refine Go.Sl.ow_val rfl rfl (Go.Sl.v_move rfl) ?_
    refine Go.Sl.ow_val rfl rfl (Go.Sl.v_len rfl Try.underlying43 rfl) ?_
    refine Go.Sl.ow_val rfl rfl (Go.Sl.v_move rfl) ?_
    refine Go.Sl.ow_nil ?_
    refine Go.Sl.xw_then ?_
    refine Go.Sl.cw_block ?_
    refine Go.Sl.cw_loop2 (ι := (Nat)) [(0, _), (1, _), (2, _), (3, _), (7, _), (9, _), (10, _), (11, _), (164, _), (165, _)] ⟨rfl, rfl, rfl, rfl, rfl, rfl, rfl, rfl, rfl, rfl, trivial⟩ ((fun j => [(23, .int .u64 (cntR (l.take j))), (166, .int .i64 j)])) ((fun j => j ≤ l.length)) ((fun j => l.length - j)) ((fun _ => cm :: c :: [(b7, .cells other.cells.toArray 28 (0, 0))] :: F)) (0) (by repeat (first | exact True.intro | refine And.intro rfl ?_)) (by first | exact Go.Sl.Cov.refl _ | (intro p; simp only [List.flatten_cons, List.flatten_nil, List.flatten_append, List.append_nil, List.nil_append, Go.Sl.cnt_append, Go.Sl.cnt_cons, Go.Sl.cnt_nil, List.set_cons_zero, List.set_cons_succ, List.length_nil, List.length_cons, Nat.zero_add, List.append]; omega)) ?_ ?_
    · exact Nat.zero_le _
    rintro j hj
    refine Go.Sl.cw_seq ?_
    refine Go.Sl.cw_region ?_
    refine Go.Sl.ow_val rfl rfl (Go.Sl.v_lss rfl rfl) ?_
    refine Go.Sl.ow_nil ?_
    refine Go.Sl.xw_then ?_
    refine Go.Sl.cw_seq ?_
    refine Go.Sl.cw_dec rfl (fun hc167 => ?_) (fun hc167 => ?_)
    refine Go.Sl.cw_skip ?_
    refine Go.Sl.xw_then ?_
    rotate_left
    refine Go.Sl.cw_exit ?_
    refine Go.Sl.xw_then_exit ?_
    refine Go.Sl.xw_round_exit ?_
    refine Go.Sl.xw_block_exit ?_
    refine Go.Sl.xw_then ?_
    rotate_left
    · have hj2 : j < l.length := by omega
      have hokj := hL.ok _ (List.getElem_mem hj2)
      obtain ⟨hgj1, hgj2, hgj3⟩ := hg.1 _ (List.getElem_mem hj2)
      have hcs := cntR_succ hj2
      have hg1 : Good (l.take (j + 1)) := by
        have h := hg
        rw [← List.take_append_drop (j + 1) l] at h
        exact (Good.append.1 h).1
      have hg0 : Good (l.take j) := by
        have h := hg
        rw [← List.take_append_drop j l] at h
        exact (Good.append.1 h).1
      have hm1 := cntR_max hg1
      have hm0 := cntR_max hg0
      refine Go.Sl.cw_seq ?_
      refine Go.Sl.cw_block ?_
      refine Go.Sl.cw_seq ?_
      refine Go.Sl.cw_region ?_
      refine Go.Sl.ow_val rfl rfl (Go.Sl.v_indexAddr_ls Try.underlying43 (r2Ty) rfl rfl (by assumption) rfl (by omega)) ?_
      refine Go.Sl.ow_val rfl rfl (Go.Sl.v_load rfl (Go.Sl.Vw.var (r2Ty) ((hL.vw (by repeat (first | exact Go.Sl.Sub.here | assumption | refine Go.Sl.Sub.there ?_)))) (by omega))) ?_
      (refine Go.Sl.ow_alloc rfl rfl Ty.ze45 ?_; intro b25)
      refine Go.Sl.ow_storeE rfl (r2Ty) rfl rfl .here (by first | rfl | assumption) (by assumption) ?_
      refine Go.Sl.ow_nil ?_
      refine Go.Sl.xw_then ?_
      refine Go.Sl.cw_region ?_
      refine Go.Sl.ow_val rfl rfl (Go.Sl.v_move rfl) ?_
      refine Go.Sl.ow_val rfl rfl (Go.Sl.v_fieldAddr0 Ty.fd45_1 rfl) ?_
      refine Go.Sl.ow_val rfl rfl (Go.Sl.v_load rfl (Go.Sl.Var.at1 Ty.sc23 .here (Go.Sl.GetN.lit rfl))) ?_
      refine Go.Sl.ow_val rfl rfl (Go.Sl.v_fieldAddr0 Ty.fd45_0 rfl) ?_
      refine Go.Sl.ow_val rfl rfl (Go.Sl.v_load rfl (Go.Sl.Var.at1 Ty.sc23 .here (Go.Sl.GetN.lit rfl))) ?_
      refine Go.Sl.ow_val rfl rfl (Go.Sl.v_sub rfl rfl (Go.Sl.nw_u64 (by omega) (by omega))) ?_
      refine Go.Sl.ow_val rfl rfl (Go.Sl.v_add rfl rfl (Go.Sl.nw_u64 (by omega) (by omega))) ?_
      refine Go.Sl.ow_val rfl rfl (Go.Sl.v_assign rfl) ?_
      refine Go.Sl.ow_nil ?_
      refine Go.Sl.xw_block ?_
      refine Go.Sl.xw_then ?_
      refine Go.Sl.cw_region ?_
      refine Go.Sl.ow_val rfl rfl (Go.Sl.v_add rfl rfl (Go.Sl.nw_i64 (by omega) (by omega))) ?_
      refine Go.Sl.ow_val rfl rfl (Go.Sl.v_move rfl) ?_
      refine Go.Sl.ow_nil ?_
      exact xw_round (j + 1) (by omega) (by omega) (by first | exact Go.Sl.Cov.refl _ | (intro p; simp only [List.flatten_cons, List.flatten_nil, List.flatten_append, List.append_nil, List.nil_append, Go.Sl.cnt_append, Go.Sl.cnt_cons, Go.Sl.cnt_nil, List.set_cons_zero, List.set_cons_succ, List.length_nil, List.length_cons, Nat.zero_add, List.append]; omega)) ⟨by rw [hcs]; rfl, (by repeat (first | exact True.intro | refine And.intro rfl ?_))⟩
    · rw [List.take_of_length_le (show l.length ≤ j by omega)]
      have hz := len2 _ ok_z
      have hz1 := one2 _ ok_z
      have hlok : enR.ok (lastR l).1 := by
        unfold lastR
        split
        · exact ok_z
        · rw [getElem!_pos l _ (by omega)]
          exact hL.ok _ (List.getElem_mem _)
      have hlk2 := len2 _ hlok
      have hlk3 := one2 _ hlok
      have hls2 : (lastR l).2 = decide (0 < (l.length : Int)) := by
        unfold lastR
        split
        · rw [decide_eq_false (by omega)]
        · rw [decide_eq_true (by omega)]
      have hls1 : ∀ h : l.length - 1 < l.length, (lastR l).1 = l[l.length - 1] := fun h => by
        unfold lastR
        rw [if_neg (by omega), getElem!_pos l _ h]
      have hlst : ∀ {G : List Hp}, Go.Sl.Sub c G → Go.Sl.Fn Try.prog 31 #[.pointer (some ⟨x41.1, 0, none⟩)] B w0 G fun u G' => u = .tuple #[enR.val (lastR l).1, .bool (decide (0 < (l.length : Int)))] ∧ G' = G := fun hs => by
        have h := setLast_l (B := B) (w0 := w0) hO hs hw
        rw [hls2] at h
        exact h
      refine Go.Sl.cw_seq ?_
      refine Go.Sl.cw_region ?_
      refine Go.Sl.ow_val rfl rfl (Go.Sl.v_move rfl) ?_
      refine Go.Sl.ow_val rfl rfl (Go.Sl.v_call rfl rfl (hlst (by repeat (first | exact Go.Sl.Sub.here | assumption | refine Go.Sl.Sub.there ?_)))) ?_
      refine Go.Sl.ow_val rfl rfl (Go.Sl.v_move rfl) ?_
      refine Go.Sl.ow_val rfl rfl (Go.Sl.v_extract rfl rfl) ?_
      refine Go.Sl.ow_val rfl rfl (Go.Sl.v_extract rfl rfl) ?_
      (refine Go.Sl.ow_alloc rfl rfl Ty.ze28 ?_; intro b26)
      refine Go.Sl.ow_storeN rfl rfl rfl Ty.ag28 (by first | rfl | assumption) (by first | assumption | simp) .here (Go.Sl.SetN.all (by first | rfl | assumption | simp_all)) ?_
      refine Go.Sl.ow_val rfl rfl (Go.Sl.v_assign rfl) ?_
      refine Go.Sl.ow_nil ?_
      refine Go.Sl.xw_then ?_
      have hq26 : Vw enR (St B w0 (cm :: c :: [(b7, .cells other.cells.toArray 28 (0, 0))] :: F)) (.slice ao l.length cap) l := hL.vw Sub.here
      refine Go.Sl.cw_cut2 (ι := (Unit)) [(0, _), (1, _), (2, _), (3, _), (7, _), (9, _), (10, _)] ⟨rfl, rfl, rfl, rfl, rfl, rfl, rfl, trivial⟩ ((fun _ => [])) ((fun _ => True)) ((fun _ => cm :: c :: [(b7, .cells other.cells.toArray 28 (0, 0))] :: F)) ?_ ?_
      · refine Go.Sl.cw_seq ?_
        refine Go.Sl.cw_quiet Ty.mixed (by decide +kernel) ?_
        refine Go.Sl.kw_val rfl rfl (Go.Sl.v_move rfl) ?_
        refine Go.Sl.kw_val rfl rfl (Go.Sl.v_call rfl rfl (setCount_l hO (by repeat (first | exact Go.Sl.Sub.here | assumption | refine Go.Sl.Sub.there ?_)) hw)) ?_
        refine Go.Sl.kw_val rfl rfl (Go.Sl.v_move rfl) ?_
        refine Go.Sl.kw_val rfl rfl (Go.Sl.v_neq rfl rfl) ?_
        refine Go.Sl.kw_val rfl rfl (Go.Sl.v_move rfl) ?_
        refine Go.Sl.kw_dec 187 rfl (fun hc187 => ?_) (fun hc187 => ?_)
        (exfalso; omega)
        refine Go.Sl.kw_val rfl rfl (Go.Sl.v_move rfl) ?_
        refine Go.Sl.kw_val rfl rfl (Go.Sl.v_move rfl) ?_
        refine Go.Sl.kw_val rfl rfl (Go.Sl.v_len rfl Try.underlying43 rfl) ?_
        refine Go.Sl.kw_val rfl rfl (Go.Sl.v_gtr rfl rfl) ?_
        refine Go.Sl.kw_val rfl rfl (Go.Sl.v_neqB Try.underlying4 rfl rfl) ?_
        refine Go.Sl.kw_val rfl rfl (Go.Sl.v_pick_false rfl rfl) ?_
        refine Go.Sl.kw_val rfl rfl (Go.Sl.v_move rfl) ?_
        refine Go.Sl.kw_dec 194 rfl (fun hc194 => ?_) (fun hc194 => ?_)
        refine Go.Sl.kw_skip rfl rfl ?_
        refine Go.Sl.kw_skip rfl rfl ?_
        refine Go.Sl.kw_skip rfl rfl ?_
        refine Go.Sl.kw_skip rfl rfl ?_
        refine Go.Sl.kw_skip rfl rfl ?_
        refine Go.Sl.kw_skip rfl rfl ?_
        refine Go.Sl.kw_skip rfl rfl ?_
        refine Go.Sl.kw_skip rfl rfl ?_
        refine Go.Sl.kw_skip rfl rfl ?_
        refine Go.Sl.kw_skip rfl rfl ?_
        refine Go.Sl.kw_skip rfl rfl ?_
        refine Go.Sl.kw_skip rfl rfl ?_
        refine Go.Sl.kw_val rfl rfl (Go.Sl.v_pick_true rfl rfl) ?_
        refine Go.Sl.kw_val rfl rfl (Go.Sl.v_move rfl) ?_
        refine Go.Sl.kw_skip rfl rfl ?_
        refine Go.Sl.kw_skip rfl rfl ?_
        refine Go.Sl.kw_skip rfl rfl ?_
        refine Go.Sl.kw_skip rfl rfl ?_
        refine Go.Sl.kw_skip rfl rfl ?_
        refine Go.Sl.kw_skip rfl rfl ?_
        refine Go.Sl.kw_skip rfl rfl ?_
        refine Go.Sl.kw_skip rfl rfl ?_
        refine Go.Sl.kw_val rfl rfl (Go.Sl.v_pick_true rfl rfl) ?_
        refine Go.Sl.kw_nil ?_
        refine Go.Sl.xw_then ?_
        refine Go.Sl.cw_true rfl ?_
        refine Go.Sl.cw_seq ?_
        refine Go.Sl.cw_region ?_
        refine Go.Sl.ow_val rfl rfl (Go.Sl.v_assign rfl) ?_
        refine Go.Sl.ow_nil ?_
        refine Go.Sl.xw_then ?_
        refine Go.Sl.cw_ret ?_
        refine Go.Sl.xw_joint_ret ?_
        refine Go.Sl.ret1 rfl (Go.Sl.res_tmp rfl) ?_
        rotate_left
        refine Go.Sl.kw_val rfl rfl (Go.Sl.v_move rfl) ?_
        refine Go.Sl.kw_val rfl rfl (Go.Sl.v_move rfl) ?_
        refine Go.Sl.kw_dec 196 rfl (fun hc196 => ?_) (fun hc196 => ?_)
        refine Go.Sl.kw_val rfl rfl (Go.Sl.v_load rfl (Go.Sl.Var.atN Ty.ag28 .here Go.Sl.GetN.all (by first | rfl | assumption))) ?_
        refine Go.Sl.kw_val rfl rfl (Go.Sl.v_call rfl rfl (ref_c hlok)) ?_
        refine Go.Sl.kw_val rfl rfl (Go.Sl.v_move rfl) ?_
        refine Go.Sl.kw_val rfl rfl (Go.Sl.v_move rfl) ?_
        refine Go.Sl.kw_val rfl rfl (Go.Sl.v_len rfl Try.underlying43 rfl) ?_
        refine Go.Sl.kw_val rfl rfl (Go.Sl.v_sub rfl rfl (Go.Sl.nw_i64 (by omega) (by omega))) ?_
        refine Go.Sl.kw_val rfl rfl (Go.Sl.v_indexAddr_ls Try.underlying43 (r2Ty) rfl rfl (by assumption) (Int.toNat_of_nonneg (by omega)).symm (by omega)) ?_
        refine Go.Sl.kw_val rfl rfl (Go.Sl.v_load rfl (Go.Sl.Vw.var (r2Ty) ((hL.vw (by repeat (first | exact Go.Sl.Sub.here | assumption | refine Go.Sl.Sub.there ?_)))) (by omega))) ?_
        refine Go.Sl.kw_val rfl rfl (Go.Sl.v_neqA rfl rfl Ty.gt45 (eqR2)) ?_
        refine Go.Sl.kw_val rfl rfl (Go.Sl.v_pick_true rfl rfl) ?_
        refine Go.Sl.kw_val rfl rfl (Go.Sl.v_pick_false rfl rfl) ?_
        refine Go.Sl.kw_val rfl rfl (Go.Sl.v_move rfl) ?_
        refine Go.Sl.kw_dec 208 rfl (fun hc208 => ?_) (fun hc208 => ?_)
        refine Go.Sl.kw_skip rfl rfl ?_
        refine Go.Sl.kw_skip rfl rfl ?_
        refine Go.Sl.kw_skip rfl rfl ?_
        refine Go.Sl.kw_skip rfl rfl ?_
        refine Go.Sl.kw_skip rfl rfl ?_
        refine Go.Sl.kw_skip rfl rfl ?_
        refine Go.Sl.kw_skip rfl rfl ?_
        refine Go.Sl.kw_skip rfl rfl ?_
        refine Go.Sl.kw_val rfl rfl (Go.Sl.v_pick_true rfl rfl) ?_
        refine Go.Sl.kw_nil ?_
        refine Go.Sl.xw_then ?_
        refine Go.Sl.cw_true rfl ?_
        refine Go.Sl.cw_seq ?_
        refine Go.Sl.cw_region ?_
        refine Go.Sl.ow_val rfl rfl (Go.Sl.v_assign rfl) ?_
        refine Go.Sl.ow_nil ?_
        refine Go.Sl.xw_then ?_
        refine Go.Sl.cw_ret ?_
        refine Go.Sl.xw_joint_ret ?_
        refine Go.Sl.ret1 rfl (Go.Sl.res_tmp rfl) ?_
        rotate_left
        refine Go.Sl.kw_val rfl rfl (Go.Sl.v_move rfl) ?_
        refine Go.Sl.kw_val rfl rfl (Go.Sl.v_load rfl (Go.Sl.Var.atN Ty.ag28 (.there (.there (.there .here))) Go.Sl.GetN.all (by first | rfl | assumption))) ?_
        refine Go.Sl.kw_val rfl rfl (Go.Sl.v_call rfl rfl (setCovers_l hO (by repeat (first | exact Go.Sl.Sub.here | assumption | refine Go.Sl.Sub.there ?_)) hw)) ?_
        refine Go.Sl.kw_val rfl rfl (Go.Sl.v_move rfl) ?_
        refine Go.Sl.kw_val rfl rfl (Go.Sl.v_load rfl (Go.Sl.Var.atN Ty.ag28 (.there (.there (.there .here))) Go.Sl.GetN.all (by first | rfl | assumption))) ?_
        refine Go.Sl.kw_val rfl rfl (Go.Sl.v_call rfl rfl (ref_c hr)) ?_
        refine Go.Sl.kw_val rfl rfl (Go.Sl.v_call rfl rfl (refCovers_c (hL.vw (by repeat (first | exact Go.Sl.Sub.here | assumption | refine Go.Sl.Sub.there ?_))) (by omega) hr)) ?_
        refine Go.Sl.kw_val rfl rfl (Go.Sl.v_neqB Try.underlying4 rfl rfl) ?_
        refine Go.Sl.kw_val rfl rfl (Go.Sl.v_pick_false rfl rfl) ?_
        refine Go.Sl.kw_nil ?_
        refine Go.Sl.xw_then ?_
        refine Go.Sl.cw_dec rfl (fun hc217 => ?_) (fun hc217 => ?_)
        refine Go.Sl.cw_seq ?_
        refine Go.Sl.cw_region ?_
        refine Go.Sl.ow_val rfl rfl (Go.Sl.v_assign rfl) ?_
        refine Go.Sl.ow_nil ?_
        refine Go.Sl.xw_then ?_
        refine Go.Sl.cw_ret ?_
        refine Go.Sl.xw_joint_ret ?_
        refine Go.Sl.ret1 rfl (Go.Sl.res_tmp rfl) ?_
        rotate_left
        refine Go.Sl.cw_skip ?_
        rotate_left
        refine Go.Sl.kw_skip rfl rfl ?_
        refine Go.Sl.kw_skip rfl rfl ?_
        refine Go.Sl.kw_skip rfl rfl ?_
        refine Go.Sl.kw_skip rfl rfl ?_
        refine Go.Sl.kw_skip rfl rfl ?_
        refine Go.Sl.kw_skip rfl rfl ?_
        refine Go.Sl.kw_skip rfl rfl ?_
        refine Go.Sl.kw_skip rfl rfl ?_
        refine Go.Sl.kw_skip rfl rfl ?_
        refine Go.Sl.kw_val rfl rfl (Go.Sl.v_pick_false rfl rfl) ?_
        refine Go.Sl.kw_val rfl rfl (Go.Sl.v_pick_false rfl rfl) ?_
        refine Go.Sl.kw_val rfl rfl (Go.Sl.v_move rfl) ?_
        refine Go.Sl.kw_val rfl rfl (Go.Sl.v_move rfl) ?_
        refine Go.Sl.kw_val rfl rfl (Go.Sl.v_load rfl (Go.Sl.Var.atN Ty.ag28 (.there (.there (.there .here))) Go.Sl.GetN.all (by first | rfl | assumption))) ?_
        refine Go.Sl.kw_val rfl rfl (Go.Sl.v_call rfl rfl (setCovers_l hO (by repeat (first | exact Go.Sl.Sub.here | assumption | refine Go.Sl.Sub.there ?_)) hw)) ?_
        refine Go.Sl.kw_val rfl rfl (Go.Sl.v_move rfl) ?_
        refine Go.Sl.kw_val rfl rfl (Go.Sl.v_load rfl (Go.Sl.Var.atN Ty.ag28 (.there (.there (.there .here))) Go.Sl.GetN.all (by first | rfl | assumption))) ?_
        refine Go.Sl.kw_val rfl rfl (Go.Sl.v_call rfl rfl (ref_c hr)) ?_
        refine Go.Sl.kw_val rfl rfl (Go.Sl.v_call rfl rfl (refCovers_c (hL.vw (by repeat (first | exact Go.Sl.Sub.here | assumption | refine Go.Sl.Sub.there ?_))) (by omega) hr)) ?_
        refine Go.Sl.kw_val rfl rfl (Go.Sl.v_neqB Try.underlying4 rfl rfl) ?_
        refine Go.Sl.kw_val rfl rfl (Go.Sl.v_pick_false rfl rfl) ?_
        refine Go.Sl.kw_nil ?_
        refine Go.Sl.xw_then ?_
        refine Go.Sl.cw_dec rfl (fun hc217 => ?_) (fun hc217 => ?_)
        refine Go.Sl.cw_seq ?_
        refine Go.Sl.cw_region ?_
        refine Go.Sl.ow_val rfl rfl (Go.Sl.v_assign rfl) ?_
        refine Go.Sl.ow_nil ?_
        refine Go.Sl.xw_then ?_
        refine Go.Sl.cw_ret ?_
        refine Go.Sl.xw_joint_ret ?_
        refine Go.Sl.ret1 rfl (Go.Sl.res_tmp rfl) ?_
        rotate_left
        refine Go.Sl.cw_skip ?_
        rotate_left
        all_goals first
          | exact absurd rfl hc194
          | (exfalso
             refine hc208 ?_
             simp only [show ((l.length : Int) - 1).toNat = l.length - 1 by omega]
             exact hls1 _)
          | exact absurd rfl hc217
          | exact xw_joint () trivial (by first | exact Go.Sl.Cov.refl _ | (intro p; simp only [List.flatten_cons, List.flatten_nil, List.flatten_append, List.append_nil, List.nil_append, Go.Sl.cnt_append, Go.Sl.cnt_cons, Go.Sl.cnt_nil, List.set_cons_zero, List.set_cons_succ, List.length_nil, List.length_cons, Nat.zero_add, List.append]; omega)) (by repeat (first | exact True.intro | refine And.intro rfl ?_))
      rintro _ _
      refine Go.Sl.cw_seq ?_
      refine Go.Sl.cw_seq ?_
      refine Go.Sl.cw_region ?_
      (refine Go.Sl.ow_buildL (es := []) rfl rfl Try.underlying42 Ty.em42 (uTy) rfl rfl (by simp [*]) (by simp only [List.length_cons, List.length_nil]; decide) ?_; intro ao218 c218 hL218)
      refine Go.Sl.ow_val rfl rfl (Go.Sl.v_move rfl) ?_
      (refine Go.Sl.ow_appendL rfl rfl Try.underlying42 Try.underlying42 Ty.em42 (uTy) rfl rfl (by assumption) (by repeat (first | exact Go.Sl.Sel.here | apply Go.Sl.Sel.there)) (hK _) (by first | omega | (simp only [List.length_append, List.length_take, List.length_drop, List.length_nil, List.length_cons]; omega)) (by first | omega | (simp only [List.length_append, List.length_take, List.length_drop, List.length_nil, List.length_cons]; omega)) ?_; intro ao220 cap220 c220 hL220)
      (refine Go.Sl.ow_buildL (es := ([(0 : Int), 5, 30, 59])) rfl rfl Try.underlying42 Ty.em42 (uTy) rfl rfl (by simp [*]) (by simp only [List.length_cons, List.length_nil]; decide) ?_; intro ao221 c221 hL221)
      (refine Go.Sl.ow_appendL rfl rfl Try.underlying42 Try.underlying42 Ty.em42 (uTy) rfl rfl (by assumption) (by repeat (first | exact Go.Sl.Sel.here | apply Go.Sl.Sel.there)) (Go.Sl.Ls.vw (by assumption) (by repeat (first | exact Go.Sl.Sub.here | assumption | refine Go.Sl.Sub.there ?_))) (by first | omega | (simp only [List.length_append, List.length_take, List.length_drop, List.length_nil, List.length_cons]; omega)) (by first | omega | (simp only [List.length_append, List.length_take, List.length_drop, List.length_nil, List.length_cons]; omega)) ?_; intro ao222 cap222 c222 hL222)
      refine Go.Sl.ow_val rfl rfl (Go.Sl.v_len rfl Try.underlying42 rfl) ?_
      refine Go.Sl.ow_val rfl rfl (Go.Sl.v_move rfl) ?_
      refine Go.Sl.ow_nil ?_
      refine Go.Sl.xw_then ?_
      refine Go.Sl.cw_block ?_
      have hLl : ([] ++ look ++ [(0 : Int), 5, 30, 59]).length ≤ 24 := by simp; omega
      generalize [] ++ look ++ [(0 : Int), 5, 30, 59] = L at hL222 hLl ⊢
      refine Go.Sl.cw_loop2 (ι := (Nat)) [(0, _), (1, _), (7, _), (9, _), (10, _), (222, _), (223, _)] ⟨rfl, rfl, rfl, rfl, rfl, rfl, rfl, trivial⟩ ((fun i => [(224, .int .i64 i)])) ((fun i => i ≤ L.length)) ((fun i => L.length - i)) ((fun i => c222 :: cm :: c :: [(b7, .cells other.cells.toArray 28 (0, 0))] :: F)) (0) (by repeat (first | exact True.intro | refine And.intro rfl ?_)) (by first | exact Go.Sl.Cov.refl _ | (intro p; simp only [List.flatten_cons, List.flatten_nil, List.flatten_append, List.append_nil, List.nil_append, Go.Sl.cnt_append, Go.Sl.cnt_cons, Go.Sl.cnt_nil, List.set_cons_zero, List.set_cons_succ, List.length_nil, List.length_cons, Nat.zero_add, List.append]; omega)) ?_ ?_
      · exact Nat.zero_le _
      rintro i hi
      refine Go.Sl.cw_seq ?_
      refine Go.Sl.cw_region ?_
      refine Go.Sl.ow_val rfl rfl (Go.Sl.v_lss rfl rfl) ?_
      refine Go.Sl.ow_nil ?_
      refine Go.Sl.xw_then ?_
      refine Go.Sl.cw_seq ?_
      refine Go.Sl.cw_dec rfl (fun hc225 => ?_) (fun hc225 => ?_)
      refine Go.Sl.cw_skip ?_
      refine Go.Sl.xw_then ?_
      rotate_left
      refine Go.Sl.cw_exit ?_
      refine Go.Sl.xw_then_exit ?_
      refine Go.Sl.xw_round_exit ?_
      refine Go.Sl.xw_block_exit ?_
      refine Go.Sl.xw_then ?_
      rotate_left
      · have hi2 : i < L.length := by omega
        have hoki := hL222.ok _ (List.getElem_mem hi2)
        have hoki2 : 0 ≤ L[i] ∧ L[i] ≤ 18446744073709551615 := hoki
        have hfo := first_ok (n := L[i]) hL.ok hoki2
        have hf2 := len2 _ hfo
        have hf3 := one2 _ hfo
        have hft := first_two (n := L[i]) hoki2 hg
        have hfst : ∀ {G : List Hp}, Go.Sl.Sub c G → Go.Sl.Fn Try.prog 33 #[.pointer (some ⟨x41.1, 0, none⟩), .int .u64 L[i]] B w0 G fun u G' => u = .tuple #[enR.val (firstR l L[i]).1, .bool (decide (0 < (firstR l L[i]).1.b))] ∧ G' = G := fun hs => by
          have h := setFirst_l (B := B) (w0 := w0) (n := L[i]) hO hs hw
          rw [hft] at h
          exact h
        refine Go.Sl.cw_seq ?_
        refine Go.Sl.cw_block ?_
        refine Go.Sl.cw_seq ?_
        refine Go.Sl.cw_region ?_
        refine Go.Sl.ow_val rfl rfl (Go.Sl.v_indexAddr_ls Try.underlying42 (uTy) rfl rfl (by assumption) rfl (by omega)) ?_
        refine Go.Sl.ow_val rfl rfl (Go.Sl.v_load rfl (Go.Sl.Vw.var (uTy) ((hL222.vw (by repeat (first | exact Go.Sl.Sub.here | assumption | refine Go.Sl.Sub.there ?_)))) (by omega))) ?_
        refine Go.Sl.ow_val rfl rfl (Go.Sl.v_assign rfl) ?_
        refine Go.Sl.ow_nil ?_
        refine Go.Sl.xw_then ?_
        refine Go.Sl.cw_seq ?_
        refine Go.Sl.cw_region ?_
        refine Go.Sl.ow_val rfl rfl (Go.Sl.v_move rfl) ?_
        refine Go.Sl.ow_val rfl rfl (Go.Sl.v_move rfl) ?_
        refine Go.Sl.ow_val rfl rfl (Go.Sl.v_call rfl rfl (hfst (by repeat (first | exact Go.Sl.Sub.here | assumption | refine Go.Sl.Sub.there ?_)))) ?_
        refine Go.Sl.ow_val rfl rfl (Go.Sl.v_move rfl) ?_
        refine Go.Sl.ow_val rfl rfl (Go.Sl.v_extract rfl rfl) ?_
        refine Go.Sl.ow_val rfl rfl (Go.Sl.v_extract rfl rfl) ?_
        (refine Go.Sl.ow_alloc rfl rfl Ty.ze28 ?_; intro b30)
        refine Go.Sl.ow_storeN rfl rfl rfl Ty.ag28 (by first | rfl | assumption) (by first | assumption | simp) .here (Go.Sl.SetN.all (by first | rfl | assumption | simp_all)) ?_
        refine Go.Sl.ow_val rfl rfl (Go.Sl.v_assign rfl) ?_
        refine Go.Sl.ow_nil ?_
        refine Go.Sl.xw_then ?_
        refine Go.Sl.cw_seq ?_
        refine Go.Sl.cw_region ?_
        (refine Go.Sl.ow_alloc rfl rfl Ty.ze45 ?_; intro b32)
        refine Go.Sl.ow_nil ?_
        refine Go.Sl.xw_then ?_
        refine Go.Sl.cw_cut2 (ι := (Unit)) [(0, _), (1, _), (7, _), (9, _), (10, _), (29, _), (30, _), (31, _), (32, _), (222, _), (223, _), (224, _)] ⟨rfl, rfl, rfl, rfl, rfl, rfl, rfl, rfl, rfl, rfl, rfl, rfl, trivial⟩ ((fun _ => [])) ((fun _ => True)) ((fun _ => [(b32, .cells (firstR l L[i]).1.cells.toArray 45 (0, 0))] :: [(b30, .cells (firstR l L[i]).1.cells.toArray 28 (0, 0))] :: c222 :: cm :: c :: [(b7, .cells other.cells.toArray 28 (0, 0))] :: F)) ?_ ?_
        · refine Go.Sl.cw_seq ?_
          refine Go.Sl.cw_region ?_
          refine Go.Sl.ow_val rfl rfl (Go.Sl.v_move rfl) ?_
          refine Go.Sl.ow_val rfl rfl (Go.Sl.v_len rfl Try.underlying43 rfl) ?_
          refine Go.Sl.ow_val rfl rfl (Go.Sl.v_move rfl) ?_
          refine Go.Sl.ow_nil ?_
          refine Go.Sl.xw_then ?_
          refine Go.Sl.cw_block ?_
          refine Go.Sl.cw_loop2 (ι := (Nat)) [(0, _), (1, _), (7, _), (9, _), (10, _), (29, _), (30, _), (31, _), (32, _), (222, _), (223, _), (224, _), (234, _), (235, _)] ⟨rfl, rfl, rfl, rfl, rfl, rfl, rfl, rfl, rfl, rfl, rfl, rfl, rfl, rfl, trivial⟩ ((fun j => [(236, .int .i64 j)])) ((fun j => j ≤ l.length ∧ ∀ k (h : k < l.length), k < j → ¬ L[i] < l[k].b)) ((fun j => l.length - j)) ((fun _ => [(b32, .cells (Rg.cells ⟨0, 0⟩).toArray 45 (0, 0))] :: [(b30, .cells (firstR l L[i]).1.cells.toArray 28 (0, 0))] :: c222 :: cm :: c :: [(b7, .cells other.cells.toArray 28 (0, 0))] :: F)) (0) (by repeat (first | exact True.intro | refine And.intro rfl ?_)) (by first | exact Go.Sl.Cov.refl _ | (intro p; simp only [List.flatten_cons, List.flatten_nil, List.flatten_append, List.append_nil, List.nil_append, Go.Sl.cnt_append, Go.Sl.cnt_cons, Go.Sl.cnt_nil, List.set_cons_zero, List.set_cons_succ, List.length_nil, List.length_cons, Nat.zero_add, List.append]; omega)) ?_ ?_
          · exact ⟨Nat.zero_le _, fun k _ h => absurd h (by omega)⟩
          rintro j ⟨hj, hno⟩
          refine Go.Sl.cw_seq ?_
          refine Go.Sl.cw_region ?_
          refine Go.Sl.ow_val rfl rfl (Go.Sl.v_lss rfl rfl) ?_
          refine Go.Sl.ow_nil ?_
          refine Go.Sl.xw_then ?_
          refine Go.Sl.cw_seq ?_
          refine Go.Sl.cw_dec rfl (fun hc237 => ?_) (fun hc237 => ?_)
          refine Go.Sl.cw_skip ?_
          refine Go.Sl.xw_then ?_
          rotate_left
          refine Go.Sl.cw_exit ?_
          refine Go.Sl.xw_then_exit ?_
          refine Go.Sl.xw_round_exit ?_
          refine Go.Sl.xw_block_exit ?_
          rotate_left
          · have hj2 : j < l.length := by omega
            have hokj := hL.ok _ (List.getElem_mem hj2)
            have hj3 := len2 _ hokj
            have hmx : enR.ok ⟨max (l[j]'hj2).a L[i], (l[j]'hj2).b⟩ := ⟨by have := hokj.1; dsimp only; omega, hokj.2⟩
            have hm2 := len2 _ hmx
            have hm3 := one2 _ hmx
            refine Go.Sl.cw_seq ?_
            refine Go.Sl.cw_block ?_
            refine Go.Sl.cw_seq ?_
            refine Go.Sl.cw_region ?_
            refine Go.Sl.ow_val rfl rfl (Go.Sl.v_indexAddr_ls Try.underlying43 (r2Ty) rfl rfl (by assumption) rfl (by omega)) ?_
            refine Go.Sl.ow_val rfl rfl (Go.Sl.v_load rfl (Go.Sl.Vw.var (r2Ty) ((hL.vw (by repeat (first | exact Go.Sl.Sub.here | assumption | refine Go.Sl.Sub.there ?_)))) (by omega))) ?_
            (refine Go.Sl.ow_alloc rfl rfl Ty.ze45 ?_; intro b34)
            refine Go.Sl.ow_storeE rfl (r2Ty) rfl rfl .here (by first | rfl | assumption) (by assumption) ?_
            refine Go.Sl.ow_nil ?_
            refine Go.Sl.xw_then ?_
            refine Go.Sl.cw_seq ?_
            refine Go.Sl.cw_region ?_
            refine Go.Sl.ow_val rfl rfl (Go.Sl.v_fieldAddr0 Ty.fd45_1 rfl) ?_
            refine Go.Sl.ow_val rfl rfl (Go.Sl.v_load rfl (Go.Sl.Var.at1 Ty.sc23 .here (Go.Sl.GetN.lit rfl))) ?_
            refine Go.Sl.ow_val rfl rfl (Go.Sl.v_move rfl) ?_
            refine Go.Sl.ow_val rfl rfl (Go.Sl.v_gtr rfl rfl) ?_
            refine Go.Sl.ow_nil ?_
            refine Go.Sl.xw_then ?_
            refine Go.Sl.cw_dec rfl (fun hc243 => ?_) (fun hc243 => ?_)
            refine Go.Sl.cw_seq ?_
            refine Go.Sl.cw_region ?_
            refine Go.Sl.ow_val rfl rfl (Go.Sl.v_fieldAddr0 Ty.fd45_0 rfl) ?_
            refine Go.Sl.ow_val rfl rfl (Go.Sl.v_load rfl (Go.Sl.Var.at1 Ty.sc23 .here (Go.Sl.GetN.lit rfl))) ?_
            refine Go.Sl.ow_val rfl rfl (Go.Sl.v_move rfl) ?_
            refine Go.Sl.ow_val rfl rfl (Go.Sl.v_max rfl rfl) ?_
            refine Go.Sl.ow_val rfl rfl (Go.Sl.v_fieldAddr0 Ty.fd45_1 rfl) ?_
            refine Go.Sl.ow_val rfl rfl (Go.Sl.v_load rfl (Go.Sl.Var.at1 Ty.sc23 .here (Go.Sl.GetN.lit rfl))) ?_
            refine Go.Sl.ow_val rfl rfl (Go.Sl.v_build rfl (b_rng2)) ?_
            refine Go.Sl.ow_storeE rfl (r2Ty) rfl rfl (.there .here) (by first | rfl | assumption) (by assumption) ?_
            refine Go.Sl.ow_nil ?_
            refine Go.Sl.xw_then ?_
            refine Go.Sl.cw_exit ?_
            refine Go.Sl.xw_block_other rfl ?_
            refine Go.Sl.xw_then_exit ?_
            refine Go.Sl.xw_round_exit ?_
            refine Go.Sl.xw_block_exit ?_
            rotate_left
            refine Go.Sl.cw_skip ?_
            refine Go.Sl.xw_block ?_
            refine Go.Sl.xw_then ?_
            refine Go.Sl.cw_region ?_
            refine Go.Sl.ow_val rfl rfl (Go.Sl.v_add rfl rfl (Go.Sl.nw_i64 (by omega) (by omega))) ?_
            refine Go.Sl.ow_val rfl rfl (Go.Sl.v_move rfl) ?_
            refine Go.Sl.ow_nil ?_
            rotate_left
            · rw [first_at hj2 hc243 hno]
              dsimp only [enR_f, Rg.cells]
              exact xw_joint () trivial (by first | exact Go.Sl.Cov.refl _ | (intro p; simp only [List.flatten_cons, List.flatten_nil, List.flatten_append, List.append_nil, List.nil_append, Go.Sl.cnt_append, Go.Sl.cnt_cons, Go.Sl.cnt_nil, List.set_cons_zero, List.set_cons_succ, List.length_nil, List.length_cons, Nat.zero_add, List.append]; omega)) (by repeat (first | exact True.intro | refine And.intro rfl ?_))
            · exact xw_round (j + 1) ⟨by omega, fun k h hk => by
                by_cases hkj : k = j
                · subst hkj; exact hc243
                · exact hno k h (by omega)⟩ (by omega) (by first | exact Go.Sl.Cov.refl _ | (intro p; simp only [List.flatten_cons, List.flatten_nil, List.flatten_append, List.append_nil, List.nil_append, Go.Sl.cnt_append, Go.Sl.cnt_cons, Go.Sl.cnt_nil, List.set_cons_zero, List.set_cons_succ, List.length_nil, List.length_cons, Nat.zero_add, List.append]; omega)) (by repeat (first | exact True.intro | refine And.intro rfl ?_))
          · rw [first_none fun k h => hno k h (by omega)]
            exact xw_joint () trivial (by first | exact Go.Sl.Cov.refl _ | (intro p; simp only [List.flatten_cons, List.flatten_nil, List.flatten_append, List.append_nil, List.nil_append, Go.Sl.cnt_append, Go.Sl.cnt_cons, Go.Sl.cnt_nil, List.set_cons_zero, List.set_cons_succ, List.length_nil, List.length_cons, Nat.zero_add, List.append]; omega)) (by repeat (first | exact True.intro | refine And.intro rfl ?_))
        · rintro _ _
          have hcr : enR.ok ⟨L[i], IntKind.u64.wrap (L[i] + 3)⟩ := ⟨hoki2, wrap64 _⟩
          refine Go.Sl.cw_seq ?_
          refine Go.Sl.cw_quiet Ty.mixed (by decide +kernel) ?_
          refine Go.Sl.kw_val rfl rfl (Go.Sl.v_move rfl) ?_
          refine Go.Sl.kw_val rfl rfl (Go.Sl.v_move rfl) ?_
          refine Go.Sl.kw_val rfl rfl (Go.Sl.v_call rfl rfl (setHas_l hO (by repeat (first | exact Go.Sl.Sub.here | assumption | refine Go.Sl.Sub.there ?_)) hw)) ?_
          refine Go.Sl.kw_val rfl rfl (Go.Sl.v_move rfl) ?_
          refine Go.Sl.kw_val rfl rfl (Go.Sl.v_move rfl) ?_
          refine Go.Sl.kw_val rfl rfl (Go.Sl.v_call rfl rfl (refHas_c (hL.vw (by repeat (first | exact Go.Sl.Sub.here | assumption | refine Go.Sl.Sub.there ?_))) (by omega))) ?_
          refine Go.Sl.kw_val rfl rfl (Go.Sl.v_neqB Try.underlying4 rfl rfl) ?_
          refine Go.Sl.kw_val rfl rfl (Go.Sl.v_move rfl) ?_
          refine Go.Sl.kw_dec 259 rfl (fun hc259 => ?_) (fun hc259 => ?_)
          refine Go.Sl.kw_skip rfl rfl ?_
          refine Go.Sl.kw_skip rfl rfl ?_
          refine Go.Sl.kw_skip rfl rfl ?_
          refine Go.Sl.kw_skip rfl rfl ?_
          refine Go.Sl.kw_skip rfl rfl ?_
          refine Go.Sl.kw_val rfl rfl (Go.Sl.v_pick_true rfl rfl) ?_
          refine Go.Sl.kw_val rfl rfl (Go.Sl.v_move rfl) ?_
          refine Go.Sl.kw_skip rfl rfl ?_
          refine Go.Sl.kw_skip rfl rfl ?_
          refine Go.Sl.kw_skip rfl rfl ?_
          refine Go.Sl.kw_skip rfl rfl ?_
          refine Go.Sl.kw_val rfl rfl (Go.Sl.v_pick_true rfl rfl) ?_
          refine Go.Sl.kw_val rfl rfl (Go.Sl.v_move rfl) ?_
          refine Go.Sl.kw_skip rfl rfl ?_
          refine Go.Sl.kw_skip rfl rfl ?_
          refine Go.Sl.kw_skip rfl rfl ?_
          refine Go.Sl.kw_skip rfl rfl ?_
          refine Go.Sl.kw_skip rfl rfl ?_
          refine Go.Sl.kw_skip rfl rfl ?_
          refine Go.Sl.kw_skip rfl rfl ?_
          refine Go.Sl.kw_skip rfl rfl ?_
          refine Go.Sl.kw_skip rfl rfl ?_
          refine Go.Sl.kw_skip rfl rfl ?_
          refine Go.Sl.kw_skip rfl rfl ?_
          refine Go.Sl.kw_skip rfl rfl ?_
          refine Go.Sl.kw_skip rfl rfl ?_
          refine Go.Sl.kw_val rfl rfl (Go.Sl.v_pick_true rfl rfl) ?_
          refine Go.Sl.kw_nil ?_
          refine Go.Sl.xw_then ?_
          refine Go.Sl.cw_true rfl ?_
          refine Go.Sl.cw_seq ?_
          refine Go.Sl.cw_region ?_
          refine Go.Sl.ow_val rfl rfl (Go.Sl.v_assign rfl) ?_
          refine Go.Sl.ow_nil ?_
          refine Go.Sl.xw_then ?_
          refine Go.Sl.cw_ret ?_
          refine Go.Sl.xw_block_ret ?_
          refine Go.Sl.xw_then_ret ?_
          refine Go.Sl.xw_round_ret ?_
          refine Go.Sl.xw_block_ret ?_
          refine Go.Sl.xw_then_ret ?_
          refine Go.Sl.ret1 rfl (Go.Sl.res_tmp rfl) ?_
          rotate_left
          refine Go.Sl.kw_val rfl rfl (Go.Sl.v_move rfl) ?_
          refine Go.Sl.kw_val rfl rfl (Go.Sl.v_fieldAddr0 Ty.fd45_1 rfl) ?_
          refine Go.Sl.kw_val rfl rfl (Go.Sl.v_load rfl (Go.Sl.Var.at1 Ty.sc23 .here (Go.Sl.GetN.lit rfl))) ?_
          refine Go.Sl.kw_val rfl rfl (Go.Sl.v_gtr rfl rfl) ?_
          refine Go.Sl.kw_val rfl rfl (Go.Sl.v_neqB Try.underlying4 rfl rfl) ?_
          refine Go.Sl.kw_val rfl rfl (Go.Sl.v_pick_false rfl rfl) ?_
          refine Go.Sl.kw_val rfl rfl (Go.Sl.v_move rfl) ?_
          refine Go.Sl.kw_dec 266 rfl (fun hc266 => ?_) (fun hc266 => ?_)
          refine Go.Sl.kw_skip rfl rfl ?_
          refine Go.Sl.kw_skip rfl rfl ?_
          refine Go.Sl.kw_skip rfl rfl ?_
          refine Go.Sl.kw_skip rfl rfl ?_
          refine Go.Sl.kw_val rfl rfl (Go.Sl.v_pick_true rfl rfl) ?_
          refine Go.Sl.kw_val rfl rfl (Go.Sl.v_move rfl) ?_
          refine Go.Sl.kw_skip rfl rfl ?_
          refine Go.Sl.kw_skip rfl rfl ?_
          refine Go.Sl.kw_skip rfl rfl ?_
          refine Go.Sl.kw_skip rfl rfl ?_
          refine Go.Sl.kw_skip rfl rfl ?_
          refine Go.Sl.kw_skip rfl rfl ?_
          refine Go.Sl.kw_skip rfl rfl ?_
          refine Go.Sl.kw_skip rfl rfl ?_
          refine Go.Sl.kw_skip rfl rfl ?_
          refine Go.Sl.kw_skip rfl rfl ?_
          refine Go.Sl.kw_skip rfl rfl ?_
          refine Go.Sl.kw_skip rfl rfl ?_
          refine Go.Sl.kw_skip rfl rfl ?_
          refine Go.Sl.kw_val rfl rfl (Go.Sl.v_pick_true rfl rfl) ?_
          refine Go.Sl.kw_nil ?_
          refine Go.Sl.xw_then ?_
          refine Go.Sl.cw_true rfl ?_
          refine Go.Sl.cw_seq ?_
          refine Go.Sl.cw_region ?_
          refine Go.Sl.ow_val rfl rfl (Go.Sl.v_assign rfl) ?_
          refine Go.Sl.ow_nil ?_
          refine Go.Sl.xw_then ?_
          refine Go.Sl.cw_ret ?_
          refine Go.Sl.xw_block_ret ?_
          refine Go.Sl.xw_then_ret ?_
          refine Go.Sl.xw_round_ret ?_
          refine Go.Sl.xw_block_ret ?_
          refine Go.Sl.xw_then_ret ?_
          refine Go.Sl.ret1 rfl (Go.Sl.res_tmp rfl) ?_
          rotate_left
          refine Go.Sl.kw_val rfl rfl (Go.Sl.v_load rfl (Go.Sl.Var.atN Ty.ag28 (.there .here) Go.Sl.GetN.all (by first | rfl | assumption))) ?_
          refine Go.Sl.kw_val rfl rfl (Go.Sl.v_call rfl rfl (ref_c hfo)) ?_
          refine Go.Sl.kw_val rfl rfl (Go.Sl.v_load rfl (Go.Sl.Var.atN Ty.ag45 .here Go.Sl.GetN.all (by first | rfl | assumption))) ?_
          refine Go.Sl.kw_val rfl rfl (Go.Sl.v_neqA rfl rfl Ty.gt45 (eqR2)) ?_
          refine Go.Sl.kw_val rfl rfl (Go.Sl.v_pick_false rfl rfl) ?_
          refine Go.Sl.kw_val rfl rfl (Go.Sl.v_move rfl) ?_
          refine Go.Sl.kw_dec 272 rfl (fun hc272 => ?_) (fun hc272 => ?_)
          refine Go.Sl.kw_skip rfl rfl ?_
          refine Go.Sl.kw_skip rfl rfl ?_
          refine Go.Sl.kw_skip rfl rfl ?_
          refine Go.Sl.kw_skip rfl rfl ?_
          refine Go.Sl.kw_skip rfl rfl ?_
          refine Go.Sl.kw_skip rfl rfl ?_
          refine Go.Sl.kw_skip rfl rfl ?_
          refine Go.Sl.kw_skip rfl rfl ?_
          refine Go.Sl.kw_skip rfl rfl ?_
          refine Go.Sl.kw_skip rfl rfl ?_
          refine Go.Sl.kw_skip rfl rfl ?_
          refine Go.Sl.kw_skip rfl rfl ?_
          refine Go.Sl.kw_skip rfl rfl ?_
          refine Go.Sl.kw_val rfl rfl (Go.Sl.v_pick_true rfl rfl) ?_
          refine Go.Sl.kw_nil ?_
          refine Go.Sl.xw_then ?_
          refine Go.Sl.cw_true rfl ?_
          refine Go.Sl.cw_seq ?_
          refine Go.Sl.cw_region ?_
          refine Go.Sl.ow_val rfl rfl (Go.Sl.v_assign rfl) ?_
          refine Go.Sl.ow_nil ?_
          refine Go.Sl.xw_then ?_
          refine Go.Sl.cw_ret ?_
          refine Go.Sl.xw_block_ret ?_
          refine Go.Sl.xw_then_ret ?_
          refine Go.Sl.xw_round_ret ?_
          refine Go.Sl.xw_block_ret ?_
          refine Go.Sl.xw_then_ret ?_
          refine Go.Sl.ret1 rfl (Go.Sl.res_tmp rfl) ?_
          rotate_left
          refine Go.Sl.kw_val rfl rfl (Go.Sl.v_move rfl) ?_
          refine Go.Sl.kw_val rfl rfl (Go.Sl.v_move rfl) ?_
          refine Go.Sl.kw_val rfl rfl (Go.Sl.v_move rfl) ?_
          refine Go.Sl.kw_val rfl rfl (Go.Sl.v_add rfl rfl rfl) ?_
          refine Go.Sl.kw_val rfl rfl (Go.Sl.v_build rfl (b_rng)) ?_
          refine Go.Sl.kw_val rfl rfl (Go.Sl.v_call rfl rfl (setCovers_l (r := ⟨L[i], IntKind.u64.wrap (L[i] + 3)⟩) hO (by repeat (first | exact Go.Sl.Sub.here | assumption | refine Go.Sl.Sub.there ?_)) hw)) ?_
          refine Go.Sl.kw_val rfl rfl (Go.Sl.v_move rfl) ?_
          refine Go.Sl.kw_val rfl rfl (Go.Sl.v_move rfl) ?_
          refine Go.Sl.kw_val rfl rfl (Go.Sl.v_move rfl) ?_
          refine Go.Sl.kw_val rfl rfl (Go.Sl.v_add rfl rfl rfl) ?_
          refine Go.Sl.kw_val rfl rfl (Go.Sl.v_build rfl (b_rng)) ?_
          refine Go.Sl.kw_val rfl rfl (Go.Sl.v_call rfl rfl (refCovers_c (r := ⟨L[i], IntKind.u64.wrap (L[i] + 3)⟩) (hL.vw (by repeat (first | exact Go.Sl.Sub.here | assumption | refine Go.Sl.Sub.there ?_))) (by omega) hcr)) ?_
          refine Go.Sl.kw_val rfl rfl (Go.Sl.v_neqB Try.underlying4 rfl rfl) ?_
          refine Go.Sl.kw_val rfl rfl (Go.Sl.v_pick_false rfl rfl) ?_
          refine Go.Sl.kw_nil ?_
          refine Go.Sl.xw_then ?_
          refine Go.Sl.cw_dec rfl (fun hc286 => ?_) (fun hc286 => ?_)
          refine Go.Sl.cw_seq ?_
          refine Go.Sl.cw_region ?_
          refine Go.Sl.ow_val rfl rfl (Go.Sl.v_assign rfl) ?_
          refine Go.Sl.ow_nil ?_
          refine Go.Sl.xw_then ?_
          refine Go.Sl.cw_ret ?_
          refine Go.Sl.xw_block_ret ?_
          refine Go.Sl.xw_then_ret ?_
          refine Go.Sl.xw_round_ret ?_
          refine Go.Sl.xw_block_ret ?_
          refine Go.Sl.xw_then_ret ?_
          refine Go.Sl.ret1 rfl (Go.Sl.res_tmp rfl) ?_
          rotate_left
          refine Go.Sl.cw_skip ?_
          refine Go.Sl.xw_block ?_
          refine Go.Sl.xw_then ?_
          refine Go.Sl.cw_region ?_
          refine Go.Sl.ow_val rfl rfl (Go.Sl.v_add rfl rfl (Go.Sl.nw_i64 (by omega) (by omega))) ?_
          refine Go.Sl.ow_val rfl rfl (Go.Sl.v_move rfl) ?_
          refine Go.Sl.ow_nil ?_
          rotate_left
          all_goals first
            | exact absurd rfl hc286
            | exact absurd rfl hc272
            | exact absurd rfl hc266
            | exact absurd rfl hc259
            | exact xw_round (i + 1) (by omega) (by omega) (by first | exact Go.Sl.Cov.refl _ | (intro p; simp only [List.flatten_cons, List.flatten_nil, List.flatten_append, List.append_nil, List.nil_append, Go.Sl.cnt_append, Go.Sl.cnt_cons, Go.Sl.cnt_nil, List.set_cons_zero, List.set_cons_succ, List.length_nil, List.length_cons, Nat.zero_add, List.append]; omega)) (by repeat (first | exact True.intro | refine And.intro rfl ?_))
      · refine Go.Sl.cw_seq ?_
        refine Go.Sl.cw_region ?_
        refine Go.Sl.ow_val rfl rfl (Go.Sl.v_assign rfl) ?_
        refine Go.Sl.ow_nil ?_
        refine Go.Sl.xw_then ?_
        refine Go.Sl.cw_ret ?_
        refine Go.Sl.ret1 rfl (Go.Sl.res_tmp rfl) ?_
        exact done0 rfl (by first | exact Go.Sl.Cov.refl _ | (intro p; simp only [List.flatten_cons, List.flatten_nil, List.flatten_append, List.append_nil, List.nil_append, Go.Sl.cnt_append, Go.Sl.cnt_cons, Go.Sl.cnt_nil, List.set_cons_zero, List.set_cons_succ, List.length_nil, List.length_cons, Nat.zero_add, List.append]; omega))

theorem form_u64 {H : Type} {enc : TypeId × Value → H} {w : World} {fuel : Nat} {cs : List Value} {y : DataW H × List MemPlace} (h : DataW.trod enc Try.prog w 0 (fun _ => true) true fuel 23 cs = some y) : ∃ a : Int, cs = enU64.f a ∧ enU64.ok a := by
  obtain ⟨n, e, hw⟩ := form_int Try.underlying23 h
  exact ⟨n, e, bounds_u64 hw⟩

theorem walk {H : Type} {enc : TypeId × Value → H} (W : World) (base : Nat) (args : Array Value) (ds : List (DataW H)) (p : List MemPlace)
    (hval : ∀ (j : Nat) t v, Try.f5.params[j]? = some t → args[j]? = some v → Value.okWide Try.prog W .any base t v)
    (hA : DataW.TrodAll enc Try.prog W 0 (fun _ => true) true Try.f5.params.toList args.toList ds p) :
    Calls Try.prog 5 args W fun e w' => e = .returned (.bool true) ∧ Below W.heap.size W w' := by
  rw [Try.params5] at hA hval
  obtain ⟨v0, vs0, d0, ds0, p0, q0, hargs, rfl, rfl, h0, r0⟩ := trodAll_cons hA
  obtain ⟨v1, vs1, d1, ds1, p1, q1, rfl, rfl, rfl, h1, r1⟩ := trodAll_cons r0
  obtain ⟨v2, vs2, d2, ds2, p2, q2, rfl, rfl, rfl, h2, r2⟩ := trodAll_cons r1
  obtain ⟨v3, vs3, d3, ds3, p3, q3, rfl, rfl, rfl, h3, r3⟩ := trodAll_cons r2
  obtain ⟨rfl, rfl, rfl⟩ := trodAll_nil r3
  obtain rfl : args = #[v0, v1, v2, v3] := by cases args; simp_all
  obtain ⟨n, rfl, rfl, rfl, hn⟩ := open_int Try.underlying3 (hval 0 3 v0 rfl rfl) h0
  obtain ⟨ao, len, cap, rfl⟩ := okWide_slice Try.underlying22 (hval 1 22 v1 rfl rfl)
  obtain ⟨ao2, len2, cap2, rfl⟩ := okWide_slice Try.underlying42 (hval 2 42 v2 rfl rfl)
  obtain ⟨r, rfl, hr⟩ := open_rng (hval 3 28 v3 rfl rfl) h3
  obtain ⟨fu, h1⟩ := h1
  obtain ⟨fu2, h2⟩ := h2
  obtain ⟨hlc, hm, f, hf, o⟩ := oldSl (size := 6) Try.underlying22 (by kernel_rfl) (by decide) h1 enAc.f enAc.ok (fun fuel cs y h => form_actR h)
  obtain ⟨hlc2, hm2, f2, hf2, o2⟩ := oldSl (size := 1) Try.underlying42 (by kernel_rfl) (by decide) h2 enU64.f enU64.ok (fun fuel cs y h => form_u64 h)
  unfold maxLen at hm hm2
  have hv := oldVw acTy o hf hlc
  have hv2 := oldVw uTy o2 hf2 hlc2
  have hb : -9223372036854775808 ≤ n ∧ n ≤ 9223372036854775807 := by
    simp [Lit.wf, IntKind.min, IntKind.max, IntKind.signed, IntKind.bits] at hn
    omega
  have hlen : ((List.range len).map f).length = len := by simp
  have hlen2 : ((List.range len2).map f2).length = len2 := by simp
  have key := (law (limit := n) hb (by rw [hlen]; omega) (by rw [hlen2]; omega) hv hv2 hr []).call
  rw [hlen, hlen2] at key
  exact key

theorem own : ownKnob Try.prog.godebug = none := by kernel_rfl
theorem laidOut : laidOutB Try.prog = true := by kernel_rfl
theorem reads : ∀ t ∈ Try.f5.params.toList, Try.prog.readableRec t = true ∧ t < Try.prog.types.size := by
  rw [Try.params5]
  intro t ht
  simp only [List.mem_cons, List.not_mem_nil, or_false] at ht
  rcases ht with rfl | rfl | rfl | rfl
  · exact ⟨by kernel_rfl, of_decide_eq_true (by kernel_rfl)⟩
  · exact ⟨by kernel_rfl, of_decide_eq_true (by kernel_rfl)⟩
  · exact ⟨by kernel_rfl, of_decide_eq_true (by kernel_rfl)⟩
  · exact ⟨by kernel_rfl, of_decide_eq_true (by kernel_rfl)⟩

set_option maxRecDepth 100000 in
theorem lifted (os : Os) (started : os.Started) (H : Type) (enc : TypeId × Value → H) :
    ReturnsInHanded {} Try.checked os 5 .any (Rows.spanPlaysSpec.pre6 enc Try.prog Try.f5 Rows.spanPlaysRow.domain false) (Rows.spanPlaysSpec.post enc Try.prog Try.f5 false true false false) := by
  refine returnsInHanded_of_change (C := Try.checked) own started (by kernel_rfl) Try.func5
    (ChangeSpec.witness6 (enc := enc) (C := Try.checked) false ⟨#[], #[.int .i64 0, .slice none 0 0, .slice none 0 0, .agg #[.int .u64 0, .int .u64 0]], []⟩ 8 (by kernel_rfl) (by kernel_rfl) (by kernel_rfl) (by kernel_rfl)) ?_
  intro W base args ds gs before hval hW _ _
  have hW' := hW
  obtain ⟨p, q, hA0, hV, rfl, _, _⟩ := hW
  obtain ⟨rfl, rfl⟩ := trodVars_none hV
  have hA : DataW.TrodAll enc Try.prog W 0 (fun _ => true) true Try.f5.params.toList args.toList ds p := hA0
  have hlen := trodAll_len hA
  refine (walk W base args ds p hval hA).mono fun e W' ⟨he, bel⟩ => ?_
  subst he
  rw [Try.params5] at hlen
  match ds, hlen.2, hA, hW' with
  | [d0, d1, d2, d3], _, hA, hW' => exact ⟨_, rfl, _, _, _, [], _, [], hW', trodAll_mk1 (shut_bool Try.underlying4 _), trodAll_stays laidOut bel reads hA, rfl, bel.frame _, fun h => by cases h⟩

theorem over : Rows.spanPlaysRow.holds Try.pinned (OpenSpec.ofChange Rows.spanPlaysSpec) :=
  OpenClaim.holds_of_wide 5 Try.f5 rfl rfl rfl rfl rfl rfl rfl ⟨rfl, rfl, rfl, rfl, rfl⟩ rfl rfl rfl rfl rfl (by kernel_rfl) Try.func5 (by kernel_rfl)
    (of_decide_eq_true (by kernel_rfl)) (by unfold Func.isWrapper; first | (rw [if_pos (by decide +kernel)]; kernel_rfl) | (rw [if_neg (by decide +kernel)]; exact ⟨rfl, rfl⟩))
    (fun os started H enc _ => lifted os started H enc)

theorem proved : Rows.SpanPlaysSaid := over

end Go.Proofs.Ytbpnnkkbaakdjaa.lawSpanPlays
