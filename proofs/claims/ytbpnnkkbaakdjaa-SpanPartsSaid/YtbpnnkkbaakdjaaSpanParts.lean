/- SpanParts: whatever the input it returns true, and the input reads as it did. Conditions: none. -/
import Derived.Test.YtbpnnkkbaakdjaaSpanLaw
namespace Go.Proofs.Ytbpnnkkbaakdjaa.lawSpanParts
open Go Go.Sl Go.Proofs Go.RowKit Go.ChangeShapes Go.WideShapes Go.ChangeAt Go.Proofs.Ytbpnnkkbaakdjaa
set_option maxRecDepth 20000
set_option linter.unusedVariables false
set_option linter.unusedSimpArgs false

structure Ix where
  i : Nat
  l : List Rg
  c : Hp
structure Jx where
  j : Nat
  l : List Rg
  c : Hp

theorem hi_low {l : List Rg} {n : Int} (hl : Good l) (hn : 0 ≤ n ∧ n ≤ 18446744073709551615) : ∀ r ∈ cutE l ⟨0, n⟩, n ≤ r.a := fun r hr => by
  obtain ⟨g1, g2, _⟩ := cutE_spec (r := ⟨0, n⟩) hl ⟨⟨by dsimp only; omega, by dsimp only; omega⟩, hn⟩
  have h1 := g1.1 r hr
  have h2 := (g2 r.a).1 ⟨r, hr, Int.le_refl _, h1.2.1⟩
  have := h1.1
  have h3 := h2.2
  dsimp only at h3
  omega
theorem inR_take {l : List Rg} {j : Nat} (h : j < l.length) (x : Int) : InR (l.take (j + 1)) x ↔ InR (l.take j) x ∨ ((l[j]).a ≤ x ∧ x < (l[j]).b) := by
  rw [List.take_succ_eq_append_getElem h, InR.append, InR.cons]
  have := @InR.nil x
  constructor
  · rintro (h | h | h)
    · exact .inl h
    · exact .inr h
    · exact absurd h this
  · rintro (h | h)
    · exact .inl h
    · exact .inr (.inl h)

set_option maxHeartbeats 8000000 in
theorem law {B : Nat} {w0 : World} {acts : List ActR} {n : Int} {aoA : Option Addr} {capA : Nat} (hn : 0 ≤ n ∧ n ≤ 18446744073709551615) (hl : acts.length ≤ 9223372036854775807) (hA : ∀ G, Vw enAc (St B w0 G) (.slice aoA acts.length capA) acts) :
    FnC Try.prog 3 #[.slice aoA acts.length capA, .int .u64 n] B w0 [] (R0 (.bool true)) := fun F => by
  refine fn_enter Try.func3 rfl (by kernel_rfl) Try.ntmps3 (by simp) ?_
  refine Go.Sl.cw_seq ?_
  refine Go.Sl.cw_region ?_
  refine Go.Sl.ow_val rfl rfl (Go.Sl.v_assign rfl) ?_
  refine Go.Sl.ow_nil ?_
  refine Go.Sl.xw_then ?_
  refine Go.Sl.cw_seq ?_
  refine Go.Sl.cw_seq ?_
  refine Go.Sl.cw_region ?_
  refine Go.Sl.ow_val rfl rfl (Go.Sl.v_call rfl rfl (spanAwake_c)) ?_
  refine Go.Sl.ow_val rfl rfl (Go.Sl.v_not_true rfl) ?_
  refine Go.Sl.ow_nil ?_
  refine Go.Sl.xw_then ?_
  refine Go.Sl.cw_false rfl ?_
  refine Go.Sl.cw_skip ?_
  refine Go.Sl.xw_then ?_
  refine Go.Sl.cw_seq ?_
  refine Go.Sl.cw_region ?_
  (refine Go.Sl.ow_call rfl rfl rfl rfl (newSet_c) ?_; rintro _ _ ⟨x19, rfl, hq19, rfl⟩)
  refine Go.Sl.ow_val rfl rfl (Go.Sl.v_assign rfl) ?_
  refine Go.Sl.ow_nil ?_
  refine Go.Sl.xw_then ?_
  refine Go.Sl.cw_seq ?_
  refine Go.Sl.cw_seq ?_
  refine Go.Sl.cw_region ?_
  refine Go.Sl.ow_val rfl rfl (Go.Sl.v_move rfl) ?_
  refine Go.Sl.ow_val rfl rfl (Go.Sl.v_len rfl Try.underlying22 rfl) ?_
  refine Go.Sl.ow_val rfl rfl (Go.Sl.v_move rfl) ?_
  refine Go.Sl.ow_nil ?_
  refine Go.Sl.xw_then ?_
  refine Go.Sl.cw_block ?_
  refine Go.Sl.cw_loop2 (ι := (Ix)) [(0, _), (1, _), (4, _), (5, _), (20, _), (21, _)] ⟨rfl, rfl, rfl, rfl, rfl, rfl, trivial⟩ ((fun x => [(22, .int .i64 x.i)])) ((fun x => x.i ≤ acts.length ∧ Good x.l ∧ x.l.length ≤ 60 ∧ x.l.length ≤ x.i ∧ SetAt ⟨1000, x.l⟩ x19.1 x.c)) ((fun x => acts.length - x.i)) ((fun x => x.c :: F)) ((⟨0, [], x19.2⟩ : Ix)) (by repeat (first | exact True.intro | refine And.intro rfl ?_)) (by first | exact Go.Sl.Cov.refl _ | (intro p; simp only [List.flatten_cons, List.flatten_nil, List.flatten_append, List.append_nil, List.nil_append, Go.Sl.cnt_append, Go.Sl.cnt_cons, Go.Sl.cnt_nil, List.set_cons_zero, List.set_cons_succ, List.length_nil, List.length_cons, Nat.zero_add, List.append]; omega)) ?_ ?_
  · exact ⟨Nat.zero_le _, Good.nil, by simp, by simp, hq19⟩
  rintro ⟨i, l, c⟩ ⟨hi, hg, hl60, hli, hO⟩
  dsimp only at hi hg hl60 hli hO ⊢
  have hw : (⟨1000, l⟩ : SetM).WF := ⟨hg, by dsimp only; omega, by dsimp only; omega⟩
  refine Go.Sl.cw_seq ?_
  refine Go.Sl.cw_region ?_
  refine Go.Sl.ow_val rfl rfl (Go.Sl.v_lss rfl rfl) ?_
  refine Go.Sl.ow_nil ?_
  refine Go.Sl.xw_then ?_
  refine Go.Sl.cw_seq ?_
  refine Go.Sl.cw_dec rfl (fun hc23 => ?_) (fun hc23 => ?_)
  refine Go.Sl.cw_skip ?_
  refine Go.Sl.xw_then ?_
  rotate_left
  refine Go.Sl.cw_exit ?_
  refine Go.Sl.xw_then_exit ?_
  refine Go.Sl.xw_round_exit ?_
  refine Go.Sl.xw_block_exit ?_
  refine Go.Sl.xw_then ?_
  rotate_left
  · have hi2 : i < acts.length := by omega
    have hao := (hA []).ok _ (List.getElem_mem hi2)
    have ha1 := acTy.len _ hao
    have ha2 := acTy.one _ hao
    have hrg := actRg_in hao
    obtain ⟨g1, g2, g3⟩ := addE_spec hg hrg
    refine Go.Sl.cw_seq ?_
    refine Go.Sl.cw_block ?_
    refine Go.Sl.cw_seq ?_
    refine Go.Sl.cw_region ?_
    refine Go.Sl.ow_val rfl rfl (Go.Sl.v_move rfl) ?_
    refine Go.Sl.ow_val rfl rfl (Go.Sl.v_indexAddr_vw Try.underlying22 (acTy) rfl rfl (hA []) rfl (by omega)) ?_
    refine Go.Sl.ow_val rfl rfl (Go.Sl.v_load rfl (Go.Sl.Vw.var (acTy) (hA _) (by omega))) ?_
    (refine Go.Sl.ow_alloc rfl rfl Ty.ze30 ?_; intro b7)
    refine Go.Sl.ow_val rfl rfl (Go.Sl.v_assign rfl) ?_
    refine Go.Sl.ow_storeE rfl (acTy) rfl rfl .here (by first | rfl | assumption) (by assumption) ?_
    refine Go.Sl.ow_nil ?_
    refine Go.Sl.xw_then ?_
    refine Go.Sl.cw_seq ?_
    refine Go.Sl.cw_region ?_
    refine Go.Sl.ow_val rfl rfl (Go.Sl.v_move rfl) ?_
    refine Go.Sl.ow_val rfl rfl (Go.Sl.v_lss rfl rfl) ?_
    refine Go.Sl.ow_nil ?_
    refine Go.Sl.xw_then ?_
    refine Go.Sl.cw_dec rfl (fun hc28 => ?_) (fun hc28 => ?_)
    refine Go.Sl.cw_region ?_
    refine Go.Sl.ow_val rfl rfl (Go.Sl.v_move rfl) ?_
    refine Go.Sl.ow_val rfl rfl (Go.Sl.v_load rfl (Go.Sl.Var.atN Ty.ag30 .here Go.Sl.GetN.all (by first | rfl | assumption))) ?_
    refine Go.Sl.ow_val rfl rfl (Go.Sl.v_call rfl rfl (range_c hao)) ?_
    (refine Go.Sl.ow_call rfl rfl rfl rfl (setAddOk_l (by repeat (first | exact Go.Sl.Sel.here | apply Go.Sl.Sel.there)) hO hw hrg (by omega)) ?_; rintro _ _ ⟨x32, rfl, hq32, rfl⟩)
    refine Go.Sl.ow_nil ?_
    refine Go.Sl.xw_block ?_
    refine Go.Sl.xw_then ?_
    refine Go.Sl.cw_region ?_
    refine Go.Sl.ow_val rfl rfl (Go.Sl.v_add rfl rfl (Go.Sl.nw_i64 (by omega) (by omega))) ?_
    refine Go.Sl.ow_val rfl rfl (Go.Sl.v_move rfl) ?_
    refine Go.Sl.ow_nil ?_
    rotate_left
    refine Go.Sl.cw_skip ?_
    refine Go.Sl.xw_block ?_
    refine Go.Sl.xw_then ?_
    refine Go.Sl.cw_region ?_
    refine Go.Sl.ow_val rfl rfl (Go.Sl.v_add rfl rfl (Go.Sl.nw_i64 (by omega) (by omega))) ?_
    refine Go.Sl.ow_val rfl rfl (Go.Sl.v_move rfl) ?_
    refine Go.Sl.ow_nil ?_
    rotate_left
    · exact xw_round (⟨i + 1, addE l (actRg acts[i]), x32⟩ : Ix) ⟨by dsimp only; omega, g1, by dsimp only; omega, by dsimp only; omega, hq32⟩ (by dsimp only; omega) (by first | exact Go.Sl.Cov.refl _ | (intro p; simp only [List.flatten_cons, List.flatten_nil, List.flatten_append, List.append_nil, List.nil_append, Go.Sl.cnt_append, Go.Sl.cnt_cons, Go.Sl.cnt_nil, List.set_cons_zero, List.set_cons_succ, List.length_nil, List.length_cons, Nat.zero_add, List.append]; omega)) (by repeat (first | exact True.intro | refine And.intro rfl ?_))
    · exact xw_round (⟨i + 1, l, c⟩ : Ix) ⟨by dsimp only; omega, hg, hl60, by dsimp only; omega, hO⟩ (by dsimp only; omega) (by first | exact Go.Sl.Cov.refl _ | (intro p; simp only [List.flatten_cons, List.flatten_nil, List.flatten_append, List.append_nil, List.nil_append, Go.Sl.cnt_append, Go.Sl.cnt_cons, Go.Sl.cnt_nil, List.set_cons_zero, List.set_cons_succ, List.length_nil, List.length_cons, Nat.zero_add, List.append]; omega)) (by repeat (first | exact True.intro | refine And.intro rfl ?_))
  · refine Go.Sl.cw_seq ?_
    refine Go.Sl.cw_region ?_
    refine Go.Sl.ow_val rfl rfl (Go.Sl.v_move rfl) ?_
    (refine Go.Sl.ow_call rfl rfl rfl rfl (setList_l hO (by repeat (first | exact Go.Sl.Sub.here | assumption | refine Go.Sl.Sub.there ?_)) hw) ?_; rintro _ _ ⟨x35, rfl, hq35, rfl⟩)
    refine Go.Sl.ow_val rfl rfl (Go.Sl.v_assign rfl) ?_
    refine Go.Sl.ow_nil ?_
    refine Go.Sl.xw_then ?_
    refine Go.Sl.cw_seq ?_
    refine Go.Sl.cw_seq ?_
    refine Go.Sl.cw_region ?_
    refine Go.Sl.ow_val rfl rfl (Go.Sl.v_move rfl) ?_
    refine Go.Sl.ow_val rfl rfl (Go.Sl.v_len rfl Try.underlying34 rfl) ?_
    refine Go.Sl.ow_val rfl rfl (Go.Sl.v_move rfl) ?_
    refine Go.Sl.ow_nil ?_
    refine Go.Sl.xw_then ?_
    refine Go.Sl.cw_block ?_
    refine Go.Sl.cw_loop2 (ι := (Nat)) [(0, _), (1, _), (5, _), (8, _), (36, _), (37, _)] ⟨rfl, rfl, rfl, rfl, rfl, rfl, trivial⟩ ((fun j => [(38, .int .i64 j)])) ((fun j => j ≤ l.length)) ((fun j => l.length - j)) ((fun j => x35.2.2 :: c :: F)) (0) (by repeat (first | exact True.intro | refine And.intro rfl ?_)) (by first | exact Go.Sl.Cov.refl _ | (intro p; simp only [List.flatten_cons, List.flatten_nil, List.flatten_append, List.append_nil, List.nil_append, Go.Sl.cnt_append, Go.Sl.cnt_cons, Go.Sl.cnt_nil, List.set_cons_zero, List.set_cons_succ, List.length_nil, List.length_cons, Nat.zero_add, List.append]; omega)) ?_ ?_
    · exact Nat.zero_le _
    rintro j hj
    refine Go.Sl.cw_seq ?_
    refine Go.Sl.cw_region ?_
    refine Go.Sl.ow_val rfl rfl (Go.Sl.v_lss rfl rfl) ?_
    refine Go.Sl.ow_nil ?_
    refine Go.Sl.xw_then ?_
    refine Go.Sl.cw_seq ?_
    refine Go.Sl.cw_dec rfl (fun hc39 => ?_) (fun hc39 => ?_)
    refine Go.Sl.cw_skip ?_
    refine Go.Sl.xw_then ?_
    rotate_left
    refine Go.Sl.cw_exit ?_
    refine Go.Sl.xw_then_exit ?_
    refine Go.Sl.xw_round_exit ?_
    refine Go.Sl.xw_block_exit ?_
    refine Go.Sl.xw_then ?_
    rotate_left
    · have hj2 : j < l.length := by omega
      have hokj := hq35.ok _ (List.getElem_mem hj2)
      have hgj := (hg.1 _ (List.getElem_mem hj2)).2.1
      have hpr : 0 < j → ∀ h : j - 1 < l.length, (l[j - 1]).b < (l[j]).a := fun h0 h => List.pairwise_iff_getElem.1 hg.2 (j - 1) j h hj2 (by omega)
      have hpr2 : 0 < (j : Int) → (l[((j : Int) - 1).toNat]!).b < (l[j]).a := fun h0 => by
        have h1 : ((j : Int) - 1).toNat = j - 1 := by omega
        have h2 : j - 1 < l.length := by omega
        rw [h1, getElem!_pos l _ h2]
        exact hpr (by omega) h2
      refine Go.Sl.cw_seq ?_
      refine Go.Sl.cw_block ?_
      refine Go.Sl.cw_seq ?_
      refine Go.Sl.cw_region ?_
      refine Go.Sl.ow_val rfl rfl (Go.Sl.v_move rfl) ?_
      refine Go.Sl.ow_val rfl rfl (Go.Sl.v_indexAddr_ls Try.underlying34 (rTy) rfl rfl (by assumption) rfl (by omega)) ?_
      refine Go.Sl.ow_val rfl rfl (Go.Sl.v_load rfl (Go.Sl.Vw.var (rTy) ((hq35.vw (by repeat (first | exact Go.Sl.Sub.here | assumption | refine Go.Sl.Sub.there ?_)))) (by omega))) ?_
      (refine Go.Sl.ow_alloc rfl rfl Ty.ze28 ?_; intro b10)
      refine Go.Sl.ow_val rfl rfl (Go.Sl.v_assign rfl) ?_
      refine Go.Sl.ow_storeE rfl (rTy) rfl rfl .here (by first | rfl | assumption) (by assumption) ?_
      refine Go.Sl.ow_nil ?_
      refine Go.Sl.xw_then ?_
      refine Go.Sl.cw_seq ?_
      refine Go.Sl.cw_quiet Ty.mixed (by decide +kernel) ?_
      refine Go.Sl.kw_val rfl rfl (Go.Sl.v_fieldAddr0 Ty.fd28_0 rfl) ?_
      refine Go.Sl.kw_val rfl rfl (Go.Sl.v_load rfl (Go.Sl.Var.at1 Ty.sc23 .here (Go.Sl.GetN.lit rfl))) ?_
      refine Go.Sl.kw_val rfl rfl (Go.Sl.v_fieldAddr0 Ty.fd28_1 rfl) ?_
      refine Go.Sl.kw_val rfl rfl (Go.Sl.v_load rfl (Go.Sl.Var.at1 Ty.sc23 .here (Go.Sl.GetN.lit rfl))) ?_
      refine Go.Sl.kw_val rfl rfl (Go.Sl.v_geq rfl rfl) ?_
      refine Go.Sl.kw_val rfl rfl (Go.Sl.v_move rfl) ?_
      refine Go.Sl.kw_dec 48 rfl (fun hc48 => ?_) (fun hc48 => ?_)
      (exfalso; omega)
      refine Go.Sl.kw_val rfl rfl (Go.Sl.v_move rfl) ?_
      refine Go.Sl.kw_val rfl rfl (Go.Sl.v_gtr rfl rfl) ?_
      refine Go.Sl.kw_val rfl rfl (Go.Sl.v_move rfl) ?_
      refine Go.Sl.kw_dec 51 rfl (fun hc51 => ?_) (fun hc51 => ?_)
      refine Go.Sl.kw_val rfl rfl (Go.Sl.v_move rfl) ?_
      refine Go.Sl.kw_val rfl rfl (Go.Sl.v_move rfl) ?_
      refine Go.Sl.kw_val rfl rfl (Go.Sl.v_sub rfl rfl (Go.Sl.nw_i64 (by omega) (by omega))) ?_
      refine Go.Sl.kw_val rfl rfl (Go.Sl.v_indexAddr_ls Try.underlying34 (rTy) rfl rfl (by assumption) (Int.toNat_of_nonneg (by omega)).symm (by omega)) ?_
      refine Go.Sl.kw_val rfl rfl (Go.Sl.v_fieldAddr Ty.fd28_1 rfl) ?_
      refine Go.Sl.kw_val rfl rfl (Go.Sl.v_load rfl (Go.Sl.Vw.fld1 (rTy) Ty.sc23 ((hq35.vw (by repeat (first | exact Go.Sl.Sub.here | assumption | refine Go.Sl.Sub.there ?_)))) (by omega) rfl)) ?_
      refine Go.Sl.kw_val rfl rfl (Go.Sl.v_fieldAddr0 Ty.fd28_0 rfl) ?_
      refine Go.Sl.kw_val rfl rfl (Go.Sl.v_load rfl (Go.Sl.Var.at1 Ty.sc23 .here (Go.Sl.GetN.lit rfl))) ?_
      refine Go.Sl.kw_val rfl rfl (Go.Sl.v_geq rfl rfl) ?_
      refine Go.Sl.kw_val rfl rfl (Go.Sl.v_pick_true rfl rfl) ?_
      refine Go.Sl.kw_val rfl rfl (Go.Sl.v_pick_false rfl rfl) ?_
      refine Go.Sl.kw_nil ?_
      refine Go.Sl.xw_then ?_
      refine Go.Sl.cw_dec rfl (fun hc62 => ?_) (fun hc62 => ?_)
      refine Go.Sl.cw_seq ?_
      refine Go.Sl.cw_region ?_
      refine Go.Sl.ow_val rfl rfl (Go.Sl.v_assign rfl) ?_
      refine Go.Sl.ow_nil ?_
      refine Go.Sl.xw_then ?_
      refine Go.Sl.cw_ret ?_
      refine Go.Sl.xw_block_ret ?_
      refine Go.Sl.xw_then_ret ?_
      refine Go.Sl.xw_round_ret ?_
      refine Go.Sl.xw_block_ret ?_
      refine Go.Sl.xw_then_ret ?_
      refine Go.Sl.ret1 rfl (Go.Sl.res_tmp rfl) ?_
      rotate_left
      refine Go.Sl.cw_skip ?_
      refine Go.Sl.xw_block ?_
      refine Go.Sl.xw_then ?_
      refine Go.Sl.cw_region ?_
      refine Go.Sl.ow_val rfl rfl (Go.Sl.v_add rfl rfl (Go.Sl.nw_i64 (by omega) (by omega))) ?_
      refine Go.Sl.ow_val rfl rfl (Go.Sl.v_move rfl) ?_
      refine Go.Sl.ow_nil ?_
      rotate_left
      refine Go.Sl.kw_skip rfl rfl ?_
      refine Go.Sl.kw_skip rfl rfl ?_
      refine Go.Sl.kw_skip rfl rfl ?_
      refine Go.Sl.kw_skip rfl rfl ?_
      refine Go.Sl.kw_skip rfl rfl ?_
      refine Go.Sl.kw_skip rfl rfl ?_
      refine Go.Sl.kw_skip rfl rfl ?_
      refine Go.Sl.kw_skip rfl rfl ?_
      refine Go.Sl.kw_skip rfl rfl ?_
      refine Go.Sl.kw_val rfl rfl (Go.Sl.v_pick_false rfl rfl) ?_
      refine Go.Sl.kw_val rfl rfl (Go.Sl.v_pick_false rfl rfl) ?_
      refine Go.Sl.kw_nil ?_
      refine Go.Sl.xw_then ?_
      refine Go.Sl.cw_false rfl ?_
      refine Go.Sl.cw_skip ?_
      refine Go.Sl.xw_block ?_
      refine Go.Sl.xw_then ?_
      refine Go.Sl.cw_region ?_
      refine Go.Sl.ow_val rfl rfl (Go.Sl.v_add rfl rfl (Go.Sl.nw_i64 (by omega) (by omega))) ?_
      refine Go.Sl.ow_val rfl rfl (Go.Sl.v_move rfl) ?_
      refine Go.Sl.ow_nil ?_
      rotate_left
      all_goals first
        | exact xw_round (j + 1) (by omega) (by omega) (by first | exact Go.Sl.Cov.refl _ | (intro p; simp only [List.flatten_cons, List.flatten_nil, List.flatten_append, List.append_nil, List.nil_append, Go.Sl.cnt_append, Go.Sl.cnt_cons, Go.Sl.cnt_nil, List.set_cons_zero, List.set_cons_succ, List.length_nil, List.length_cons, Nat.zero_add, List.append]; omega)) (by repeat (first | exact True.intro | refine And.intro rfl ?_))
        | (exfalso
           have h1 := hpr2 hc51
           rw [getElem!_pos l _ (by omega)] at h1
           omega)
    · obtain ⟨g1, g2, g3⟩ := cutE_spec (r := ⟨n, 18446744073709551615⟩) hg ⟨hn, by dsimp only; omega⟩
      obtain ⟨k1, k2, k3⟩ := cutE_spec (r := ⟨0, n⟩) hg ⟨⟨by dsimp only; omega, by dsimp only; omega⟩, hn⟩
      have hr1 : enR.ok ⟨n, 18446744073709551615⟩ := ⟨hn, by dsimp only; omega⟩
      have hr2 : enR.ok ⟨0, n⟩ := ⟨⟨by dsimp only; omega, by dsimp only; omega⟩, hn⟩
      have hwh : (⟨1000, cutE l ⟨0, n⟩⟩ : SetM).WF := ⟨k1, by dsimp only; omega, by dsimp only; omega⟩
      refine Go.Sl.cw_seq ?_
      refine Go.Sl.cw_region ?_
      refine Go.Sl.ow_val rfl rfl (Go.Sl.v_move rfl) ?_
      (refine Go.Sl.ow_call rfl rfl rfl rfl (setCopy_l hO (by repeat (first | exact Go.Sl.Sub.here | assumption | refine Go.Sl.Sub.there ?_)) hw) ?_; rintro _ _ ⟨x65, rfl, hq65, rfl⟩)
      refine Go.Sl.ow_val rfl rfl (Go.Sl.v_move rfl) ?_
      (refine Go.Sl.ow_call rfl rfl rfl rfl (setCopy_l hO (by repeat (first | exact Go.Sl.Sub.here | assumption | refine Go.Sl.Sub.there ?_)) hw) ?_; rintro _ _ ⟨x67, rfl, hq67, rfl⟩)
      refine Go.Sl.ow_val rfl rfl (Go.Sl.v_assign rfl) ?_
      refine Go.Sl.ow_val rfl rfl (Go.Sl.v_assign rfl) ?_
      refine Go.Sl.ow_nil ?_
      refine Go.Sl.xw_then ?_
      refine Go.Sl.cw_seq ?_
      refine Go.Sl.cw_region ?_
      refine Go.Sl.ow_val rfl rfl (Go.Sl.v_move rfl) ?_
      refine Go.Sl.ow_val rfl rfl (Go.Sl.v_move rfl) ?_
      refine Go.Sl.ow_val rfl rfl (Go.Sl.v_build rfl (b_rng)) ?_
      (refine Go.Sl.ow_call rfl rfl rfl rfl (setCutOk_l (r := ⟨n, 18446744073709551615⟩) (by repeat (first | exact Go.Sl.Sel.here | apply Go.Sl.Sel.there)) hq65 hw hr1 (by omega)) ?_; rintro _ _ ⟨x71, rfl, hq71, rfl⟩)
      refine Go.Sl.ow_nil ?_
      refine Go.Sl.xw_then ?_
      refine Go.Sl.cw_seq ?_
      refine Go.Sl.cw_region ?_
      refine Go.Sl.ow_val rfl rfl (Go.Sl.v_move rfl) ?_
      refine Go.Sl.ow_val rfl rfl (Go.Sl.v_move rfl) ?_
      refine Go.Sl.ow_val rfl rfl (Go.Sl.v_build rfl (b_rng)) ?_
      (refine Go.Sl.ow_call rfl rfl rfl rfl (setCutOk_l (r := ⟨0, n⟩) (by repeat (first | exact Go.Sl.Sel.here | apply Go.Sl.Sel.there)) hq67 hw hr2 (by omega)) ?_; rintro _ _ ⟨x75, rfl, hq75, rfl⟩)
      refine Go.Sl.ow_nil ?_
      refine Go.Sl.xw_then ?_
      refine Go.Sl.cw_seq ?_
      refine Go.Sl.cw_seq ?_
      refine Go.Sl.cw_region ?_
      refine Go.Sl.ow_val rfl rfl (Go.Sl.v_move rfl) ?_
      (refine Go.Sl.ow_call rfl rfl rfl rfl (setList_l hq75 (by repeat (first | exact Go.Sl.Sub.here | assumption | refine Go.Sl.Sub.there ?_)) hwh) ?_; rintro _ _ ⟨x77, rfl, hq77, rfl⟩)
      refine Go.Sl.ow_val rfl rfl (Go.Sl.v_len rfl Try.underlying34 rfl) ?_
      refine Go.Sl.ow_val rfl rfl (Go.Sl.v_move rfl) ?_
      refine Go.Sl.ow_nil ?_
      refine Go.Sl.xw_then ?_
      refine Go.Sl.cw_block ?_
      have hlow := hi_low hg hn
      refine Go.Sl.cw_loop2 (ι := (Jx)) [(1, _), (8, _), (11, _), (77, _), (78, _)] ⟨rfl, rfl, rfl, rfl, rfl, trivial⟩ ((fun x => [(79, .int .i64 x.j)])) ((fun x => x.j ≤ (cutE l ⟨0, n⟩).length ∧ Good x.l ∧ x.l.length ≤ 61 + x.j ∧ (∀ y, InR x.l y ↔ InR (cutE l ⟨n, 18446744073709551615⟩) y ∨ InR ((cutE l ⟨0, n⟩).take x.j) y) ∧ SetAt ⟨1000, x.l⟩ x65.1 x.c)) ((fun x => (cutE l ⟨0, n⟩).length - x.j)) ((fun x => x.c :: x77.2.2 :: x35.2.2 :: F)) ((⟨0, cutE l ⟨n, 18446744073709551615⟩, x71⟩ : Jx)) (by repeat (first | exact True.intro | refine And.intro rfl ?_)) (by first | exact Go.Sl.Cov.refl _ | (intro p; simp only [List.flatten_cons, List.flatten_nil, List.flatten_append, List.append_nil, List.nil_append, Go.Sl.cnt_append, Go.Sl.cnt_cons, Go.Sl.cnt_nil, List.set_cons_zero, List.set_cons_succ, List.length_nil, List.length_cons, Nat.zero_add, List.append]; omega)) ?_ ?_
      · exact ⟨Nat.zero_le _, g1, by dsimp only; omega, fun y => by simp [InR.nil], hq71⟩
      rintro ⟨j2, lo, clo⟩ ⟨hj2, hlog, hlol, hlom, hlo⟩
      dsimp only at hj2 hlog hlol hlom hlo ⊢
      have hwlo : (⟨1000, lo⟩ : SetM).WF := ⟨hlog, by dsimp only; omega, by dsimp only; omega⟩
      refine Go.Sl.cw_seq ?_
      refine Go.Sl.cw_region ?_
      refine Go.Sl.ow_val rfl rfl (Go.Sl.v_lss rfl rfl) ?_
      refine Go.Sl.ow_nil ?_
      refine Go.Sl.xw_then ?_
      refine Go.Sl.cw_seq ?_
      refine Go.Sl.cw_dec rfl (fun hc80 => ?_) (fun hc80 => ?_)
      refine Go.Sl.cw_skip ?_
      refine Go.Sl.xw_then ?_
      rotate_left
      refine Go.Sl.cw_exit ?_
      refine Go.Sl.xw_then_exit ?_
      refine Go.Sl.xw_round_exit ?_
      refine Go.Sl.xw_block_exit ?_
      refine Go.Sl.xw_then ?_
      rotate_left
      · have hj3 : j2 < (cutE l ⟨0, n⟩).length := by omega
        have hokj := hq77.ok _ (List.getElem_mem hj3)
        have hlj := hlow _ (List.getElem_mem hj3)
        obtain ⟨a1, a2, a3⟩ := addE_spec (r := (cutE l ⟨0, n⟩)[j2]) hlog hokj
        refine Go.Sl.cw_seq ?_
        refine Go.Sl.cw_block ?_
        refine Go.Sl.cw_seq ?_
        refine Go.Sl.cw_region ?_
        refine Go.Sl.ow_val rfl rfl (Go.Sl.v_indexAddr_ls Try.underlying34 (rTy) rfl rfl (by assumption) rfl (by omega)) ?_
        refine Go.Sl.ow_val rfl rfl (Go.Sl.v_load rfl (Go.Sl.Vw.var (rTy) ((hq77.vw (by repeat (first | exact Go.Sl.Sub.here | assumption | refine Go.Sl.Sub.there ?_)))) (by omega))) ?_
        (refine Go.Sl.ow_alloc rfl rfl Ty.ze28 ?_; intro b14)
        refine Go.Sl.ow_storeE rfl (rTy) rfl rfl .here (by first | rfl | assumption) (by assumption) ?_
        refine Go.Sl.ow_nil ?_
        refine Go.Sl.xw_then ?_
        refine Go.Sl.cw_seq ?_
        refine Go.Sl.cw_region ?_
        refine Go.Sl.ow_val rfl rfl (Go.Sl.v_fieldAddr0 Ty.fd28_0 rfl) ?_
        refine Go.Sl.ow_val rfl rfl (Go.Sl.v_load rfl (Go.Sl.Var.at1 Ty.sc23 .here (Go.Sl.GetN.lit rfl))) ?_
        refine Go.Sl.ow_val rfl rfl (Go.Sl.v_move rfl) ?_
        refine Go.Sl.ow_val rfl rfl (Go.Sl.v_lss rfl rfl) ?_
        refine Go.Sl.ow_val rfl rfl (Go.Sl.v_move rfl) ?_
        refine Go.Sl.ow_dec 87 rfl (fun hc87 => ?_) (fun hc87 => ?_)
        (exfalso; omega)
        refine Go.Sl.ow_skip rfl rfl ?_
        refine Go.Sl.ow_skip rfl rfl ?_
        refine Go.Sl.ow_val rfl rfl (Go.Sl.v_pick_false rfl rfl) ?_
        refine Go.Sl.ow_val rfl rfl (Go.Sl.v_move rfl) ?_
        refine Go.Sl.ow_val rfl rfl (Go.Sl.v_move rfl) ?_
        refine Go.Sl.ow_val rfl rfl (Go.Sl.v_load rfl (Go.Sl.Var.atN Ty.ag28 .here Go.Sl.GetN.all (by first | rfl | assumption))) ?_
        (refine Go.Sl.ow_call rfl rfl rfl rfl (setAddOk_l (by repeat (first | exact Go.Sl.Sel.here | apply Go.Sl.Sel.there)) hlo hwlo hokj (by omega)) ?_; rintro _ _ ⟨x94, rfl, hq94, rfl⟩)
        refine Go.Sl.ow_val rfl rfl (Go.Sl.v_neq rfl rfl) ?_
        refine Go.Sl.ow_val rfl rfl (Go.Sl.v_pick_false rfl rfl) ?_
        refine Go.Sl.ow_nil ?_
        refine Go.Sl.xw_then ?_
        refine Go.Sl.cw_false rfl ?_
        refine Go.Sl.cw_skip ?_
        refine Go.Sl.xw_block ?_
        refine Go.Sl.xw_then ?_
        refine Go.Sl.cw_region ?_
        refine Go.Sl.ow_val rfl rfl (Go.Sl.v_add rfl rfl (Go.Sl.nw_i64 (by omega) (by omega))) ?_
        refine Go.Sl.ow_val rfl rfl (Go.Sl.v_move rfl) ?_
        refine Go.Sl.ow_nil ?_
        exact xw_round (⟨j2 + 1, addE lo (cutE l ⟨0, n⟩)[j2], x94⟩ : Jx) ⟨by dsimp only; omega, a1, by dsimp only; omega, fun y => by rw [a2, hlom, inR_take hj3, or_assoc], hq94⟩ (by dsimp only; omega) (by first | exact Go.Sl.Cov.refl _ | (intro p; simp only [List.flatten_cons, List.flatten_nil, List.flatten_append, List.append_nil, List.nil_append, Go.Sl.cnt_append, Go.Sl.cnt_cons, Go.Sl.cnt_nil, List.set_cons_zero, List.set_cons_succ, List.length_nil, List.length_cons, Nat.zero_add, List.append]; omega)) (by repeat (first | exact True.intro | refine And.intro rfl ?_))
      · have hx : (cutE l ⟨0, n⟩).take j2 = cutE l ⟨0, n⟩ := List.take_of_length_le (by omega)
        rw [hx] at hlom
        obtain rfl : lo = l := parts_again hg hlog g2 k2 hlom
        refine Go.Sl.cw_seq ?_
        refine Go.Sl.cw_region ?_
        refine Go.Sl.ow_val rfl rfl (Go.Sl.v_move rfl) ?_
        (refine Go.Sl.ow_call rfl rfl rfl rfl (setList_l hlo (by repeat (first | exact Go.Sl.Sub.here | assumption | refine Go.Sl.Sub.there ?_)) hwlo) ?_; rintro _ _ ⟨x99, rfl, hq99, rfl⟩)
        refine Go.Sl.ow_val rfl rfl (Go.Sl.v_assign rfl) ?_
        refine Go.Sl.ow_nil ?_
        refine Go.Sl.xw_then ?_
        refine Go.Sl.cw_seq ?_
        refine Go.Sl.cw_seq ?_
        refine Go.Sl.cw_region ?_
        refine Go.Sl.ow_val rfl rfl (Go.Sl.v_move rfl) ?_
        refine Go.Sl.ow_val rfl rfl (Go.Sl.v_len rfl Try.underlying34 rfl) ?_
        refine Go.Sl.ow_val rfl rfl (Go.Sl.v_move rfl) ?_
        refine Go.Sl.ow_val rfl rfl (Go.Sl.v_len rfl Try.underlying34 rfl) ?_
        refine Go.Sl.ow_val rfl rfl (Go.Sl.v_neq rfl rfl) ?_
        refine Go.Sl.ow_nil ?_
        refine Go.Sl.xw_then ?_
        refine Go.Sl.cw_dec rfl (fun hc104 => ?_) (fun hc104 => ?_)
        (exfalso; omega)
        refine Go.Sl.cw_skip ?_
        refine Go.Sl.xw_then ?_
        refine Go.Sl.cw_seq ?_
        refine Go.Sl.cw_seq ?_
        refine Go.Sl.cw_region ?_
        refine Go.Sl.ow_val rfl rfl (Go.Sl.v_move rfl) ?_
        refine Go.Sl.ow_val rfl rfl (Go.Sl.v_len rfl Try.underlying34 rfl) ?_
        refine Go.Sl.ow_val rfl rfl (Go.Sl.v_move rfl) ?_
        refine Go.Sl.ow_nil ?_
        refine Go.Sl.xw_then ?_
        refine Go.Sl.cw_block ?_
        refine Go.Sl.cw_loop2 (ι := (Nat)) [(8, _), (15, _), (106, _)] ⟨rfl, rfl, rfl, trivial⟩ ((fun i => [(107, .int .i64 i)])) ((fun i => i ≤ lo.length)) ((fun i => lo.length - i)) ((fun i => x99.2.2 :: x35.2.2 :: F)) (0) (by repeat (first | exact True.intro | refine And.intro rfl ?_)) (by first | exact Go.Sl.Cov.refl _ | (intro p; simp only [List.flatten_cons, List.flatten_nil, List.flatten_append, List.append_nil, List.nil_append, Go.Sl.cnt_append, Go.Sl.cnt_cons, Go.Sl.cnt_nil, List.set_cons_zero, List.set_cons_succ, List.length_nil, List.length_cons, Nat.zero_add, List.append]; omega)) ?_ ?_
        · exact Nat.zero_le _
        rintro i hi
        refine Go.Sl.cw_seq ?_
        refine Go.Sl.cw_region ?_
        refine Go.Sl.ow_val rfl rfl (Go.Sl.v_lss rfl rfl) ?_
        refine Go.Sl.ow_nil ?_
        refine Go.Sl.xw_then ?_
        refine Go.Sl.cw_seq ?_
        refine Go.Sl.cw_dec rfl (fun hc108 => ?_) (fun hc108 => ?_)
        refine Go.Sl.cw_skip ?_
        refine Go.Sl.xw_then ?_
        rotate_left
        refine Go.Sl.cw_exit ?_
        refine Go.Sl.xw_then_exit ?_
        refine Go.Sl.xw_round_exit ?_
        refine Go.Sl.xw_block_exit ?_
        refine Go.Sl.xw_then ?_
        refine Go.Sl.cw_seq ?_
        refine Go.Sl.cw_region ?_
        refine Go.Sl.ow_val rfl rfl (Go.Sl.v_assign rfl) ?_
        refine Go.Sl.ow_nil ?_
        refine Go.Sl.xw_then ?_
        refine Go.Sl.cw_ret ?_
        refine Go.Sl.ret1 rfl (Go.Sl.res_tmp rfl) ?_
        rotate_left
        · have hi3 : i < lo.length := by omega
          have hoki := hq99.ok _ (List.getElem_mem hi3)
          refine Go.Sl.cw_seq ?_
          refine Go.Sl.cw_block ?_
          refine Go.Sl.cw_seq ?_
          refine Go.Sl.cw_region ?_
          refine Go.Sl.ow_val rfl rfl (Go.Sl.v_move rfl) ?_
          refine Go.Sl.ow_val rfl rfl (Go.Sl.v_assign rfl) ?_
          refine Go.Sl.ow_nil ?_
          refine Go.Sl.xw_then ?_
          refine Go.Sl.cw_seq ?_
          refine Go.Sl.cw_quiet Ty.mixed (by decide +kernel) ?_
          refine Go.Sl.kw_val rfl rfl (Go.Sl.v_move rfl) ?_
          refine Go.Sl.kw_val rfl rfl (Go.Sl.v_move rfl) ?_
          refine Go.Sl.kw_val rfl rfl (Go.Sl.v_indexAddr_ls Try.underlying34 (rTy) rfl rfl (by assumption) rfl (by omega)) ?_
          refine Go.Sl.kw_val rfl rfl (Go.Sl.v_load rfl (Go.Sl.Vw.var (rTy) ((hq99.vw (by repeat (first | exact Go.Sl.Sub.here | assumption | refine Go.Sl.Sub.there ?_)))) (by omega))) ?_
          refine Go.Sl.kw_val rfl rfl (Go.Sl.v_move rfl) ?_
          refine Go.Sl.kw_val rfl rfl (Go.Sl.v_move rfl) ?_
          refine Go.Sl.kw_val rfl rfl (Go.Sl.v_indexAddr_ls Try.underlying34 (rTy) rfl rfl (by assumption) rfl (by omega)) ?_
          refine Go.Sl.kw_val rfl rfl (Go.Sl.v_load rfl (Go.Sl.Vw.var (rTy) (Go.Sl.Ls.vw (by assumption) (by repeat (first | exact Go.Sl.Sub.here | assumption | refine Go.Sl.Sub.there ?_))) (by omega))) ?_
          refine Go.Sl.kw_val rfl rfl (Go.Sl.v_neqA rfl rfl Ty.gt28 (eqR)) ?_
          refine Go.Sl.kw_nil ?_
          refine Go.Sl.xw_then ?_
          refine Go.Sl.cw_dec rfl (fun hc118 => ?_) (fun hc118 => ?_)
          refine Go.Sl.cw_seq ?_
          refine Go.Sl.cw_region ?_
          refine Go.Sl.ow_val rfl rfl (Go.Sl.v_assign rfl) ?_
          refine Go.Sl.ow_nil ?_
          refine Go.Sl.xw_then ?_
          refine Go.Sl.cw_ret ?_
          refine Go.Sl.xw_block_ret ?_
          refine Go.Sl.xw_then_ret ?_
          refine Go.Sl.xw_round_ret ?_
          refine Go.Sl.xw_block_ret ?_
          refine Go.Sl.xw_then_ret ?_
          refine Go.Sl.ret1 rfl (Go.Sl.res_tmp rfl) ?_
          rotate_left
          refine Go.Sl.cw_skip ?_
          refine Go.Sl.xw_block ?_
          refine Go.Sl.xw_then ?_
          refine Go.Sl.cw_region ?_
          refine Go.Sl.ow_val rfl rfl (Go.Sl.v_add rfl rfl (Go.Sl.nw_i64 (by omega) (by omega))) ?_
          refine Go.Sl.ow_val rfl rfl (Go.Sl.v_move rfl) ?_
          refine Go.Sl.ow_nil ?_
          rotate_left
          all_goals first
            | exact absurd rfl hc118
            | exact xw_round (i + 1) (by omega) (by omega) (by first | exact Go.Sl.Cov.refl _ | (intro p; simp only [List.flatten_cons, List.flatten_nil, List.flatten_append, List.append_nil, List.nil_append, Go.Sl.cnt_append, Go.Sl.cnt_cons, Go.Sl.cnt_nil, List.set_cons_zero, List.set_cons_succ, List.length_nil, List.length_cons, Nat.zero_add, List.append]; omega)) (by repeat (first | exact True.intro | refine And.intro rfl ?_))
        · exact done0 rfl (by first | exact Go.Sl.Cov.refl _ | (intro p; simp only [List.flatten_cons, List.flatten_nil, List.flatten_append, List.append_nil, List.nil_append, Go.Sl.cnt_append, Go.Sl.cnt_cons, Go.Sl.cnt_nil, List.set_cons_zero, List.set_cons_succ, List.length_nil, List.length_cons, Nat.zero_add, List.append]; omega))

theorem walk {H : Type} {enc : TypeId × Value → H} (W : World) (base : Nat) (args : Array Value) (ds : List (DataW H)) (p : List MemPlace)
    (hval : ∀ (j : Nat) t v, Try.f3.params[j]? = some t → args[j]? = some v → Value.okWide Try.prog W .any base t v)
    (hA : DataW.TrodAll enc Try.prog W 0 (fun _ => true) true Try.f3.params.toList args.toList ds p) :
    Calls Try.prog 3 args W fun e w' => e = .returned (.bool true) ∧ Below W.heap.size W w' := by
  rw [Try.params3] at hA hval
  obtain ⟨v0, vs0, d0, ds0, p0, q0, hargs, rfl, rfl, h0, r0⟩ := trodAll_cons hA
  obtain ⟨v1, vs1, d1, ds1, p1, q1, rfl, rfl, rfl, h1, r1⟩ := trodAll_cons r0
  obtain ⟨rfl, rfl, rfl⟩ := trodAll_nil r1
  obtain rfl : args = #[v0, v1] := by cases args; simp_all
  obtain ⟨n, rfl, rfl, rfl, hn⟩ := open_int Try.underlying23 (hval 1 23 v1 rfl rfl) h1
  obtain ⟨ao, len, cap, rfl⟩ := okWide_slice Try.underlying22 (hval 0 22 v0 rfl rfl)
  obtain ⟨fu, h0⟩ := h0
  obtain ⟨hlc, hm, f, hf, o⟩ := oldSl (size := 6) Try.underlying22 (by kernel_rfl) (by decide) h0 enAc.f enAc.ok (fun fuel cs y h => form_actR h)
  unfold maxLen at hm
  have hv := oldVw acTy o hf hlc
  have hlen : ((List.range len).map f).length = len := by simp
  have key := (law (n := n) (bounds_u64 hn) (by rw [hlen]; omega) hv []).call
  rw [hlen] at key
  exact key

theorem own : ownKnob Try.prog.godebug = none := by kernel_rfl
theorem laidOut : laidOutB Try.prog = true := by kernel_rfl
theorem reads : ∀ t ∈ Try.f3.params.toList, Try.prog.readableRec t = true ∧ t < Try.prog.types.size := by
  rw [Try.params3]
  intro t ht
  simp only [List.mem_cons, List.not_mem_nil, or_false] at ht
  rcases ht with rfl | rfl
  · exact ⟨by kernel_rfl, of_decide_eq_true (by kernel_rfl)⟩
  · exact ⟨by kernel_rfl, of_decide_eq_true (by kernel_rfl)⟩

set_option maxRecDepth 100000 in
theorem lifted (os : Os) (started : os.Started) (H : Type) (enc : TypeId × Value → H) :
    ReturnsInHanded {} Try.checked os 3 .any (Rows.spanPartsSpec.pre6 enc Try.prog Try.f3 Rows.spanPartsRow.domain false) (Rows.spanPartsSpec.post enc Try.prog Try.f3 false true false false) := by
  refine returnsInHanded_of_change (C := Try.checked) own started (by kernel_rfl) Try.func3
    (ChangeSpec.witness6 (enc := enc) (C := Try.checked) false ⟨#[], #[.slice none 0 0, .int .u64 0], []⟩ 8 (by kernel_rfl) (by kernel_rfl) (by kernel_rfl) (by kernel_rfl)) ?_
  intro W base args ds gs before hval hW _ _
  have hW' := hW
  obtain ⟨p, q, hA0, hV, rfl, _, _⟩ := hW
  obtain ⟨rfl, rfl⟩ := trodVars_none hV
  have hA : DataW.TrodAll enc Try.prog W 0 (fun _ => true) true Try.f3.params.toList args.toList ds p := hA0
  have hlen := trodAll_len hA
  refine (walk W base args ds p hval hA).mono fun e W' ⟨he, bel⟩ => ?_
  subst he
  rw [Try.params3] at hlen
  match ds, hlen.2, hA, hW' with
  | [d0, d1], _, hA, hW' => exact ⟨_, rfl, _, _, _, [], _, [], hW', trodAll_mk1 (shut_bool Try.underlying4 _), trodAll_stays laidOut bel reads hA, rfl, bel.frame _, fun h => by cases h⟩

theorem over : Rows.spanPartsRow.holds Try.pinned (OpenSpec.ofChange Rows.spanPartsSpec) :=
  OpenClaim.holds_of_wide 3 Try.f3 rfl rfl rfl rfl rfl rfl rfl ⟨rfl, rfl, rfl, rfl, rfl⟩ rfl rfl rfl rfl rfl (by kernel_rfl) Try.func3 (by kernel_rfl)
    (of_decide_eq_true (by kernel_rfl)) (by unfold Func.isWrapper; first | (rw [if_pos (by decide +kernel)]; kernel_rfl) | (rw [if_neg (by decide +kernel)]; exact ⟨rfl, rfl⟩))
    (fun os started H enc _ => lifted os started H enc)

theorem proved : Rows.SpanPartsSaid := over

end Go.Proofs.Ytbpnnkkbaakdjaa.lawSpanParts
