/- FrameParts: whatever the input it returns true, and the input reads as it did. Conditions: none. -/
import Derived.Test.YtckdhelnafjddaaFrSm
namespace Go.Proofs.Ytckdhelnafjddaa.lawFrameParts
open Go Go.Sl Go.Proofs Go.RowKit Go.ChangeShapes Go.WideShapes Go.ChangeAt Go.Proofs.Ytckdhelnafjddaa
set_option maxRecDepth 20000
set_option linter.unusedVariables false
set_option linter.unusedSimpArgs false

structure FrG (B : Nat) (w0 : World) (G : List Hp) (D : Hp) (e : FrE) : Prop where
  can : CanF e.m
  ok : e.m.ok
  len : FrLen e.m
  in_ : FrIn (St B w0 (D :: G)) e.m e.p
set_option maxHeartbeats 8000000 in
theorem right_c {B : Nat} {w0 : World} {G : List Hp} {ao : Option Addr} {n cap : Nat} {ss : List SmE} (hV : Vw enS (St B w0 G) (.slice ao n cap) ss) (hI : ∀ s ∈ ss, s.In (St B w0 G)) (hn : ss.length ≤ 12) :
    Go.Sl.Fn Try.prog 16 #[.slice ao n cap] B w0 G fun u G' => ∃ x : List FrE × Option Addr × Nat × Hp × Hp, u = .slice x.2.1 x.1.length x.2.2.1 ∧ (x.1.length ≤ 12 ∧ Ls enF 30 (.slice x.2.1 x.1.length x.2.2.1) x.2.2.2.1 x.1 ∧ ∀ e ∈ x.1, FrG B w0 G x.2.2.2.2 e) ∧ G' = [x.2.2.2.1, x.2.2.2.2] ++ G := by
  refine Fn.new (V := fun x : List FrE × Option Addr × Nat × Hp × Hp => .slice x.2.1 x.1.length x.2.2.1) (Nw := fun x => [x.2.2.2.1, x.2.2.2.2]) ?_
  have hl := hV.len
  subst hl
  refine fn_enter Try.func16 rfl (by kernel_rfl) Try.ntmps16 (by simp) ?_
  refine cw_flat ([] :: [] :: G) (.of_eq (by simp)) ?_
  refine Go.Sl.cw_seq ?_
  refine Go.Sl.cw_region ?_
  refine Go.Sl.ow_val rfl rfl (Go.Sl.v_assign rfl) ?_
  refine Go.Sl.ow_nil ?_
  refine Go.Sl.xw_then ?_
  refine Go.Sl.cw_seq ?_
  refine Go.Sl.cw_region ?_
  refine Go.Sl.ow_val rfl rfl (Go.Sl.v_assign rfl) ?_
  refine Go.Sl.ow_nil ?_
  refine Go.Sl.xw_then ?_
  refine Go.Sl.cw_seq ?_
  refine Go.Sl.cw_seq ?_
  refine Go.Sl.cw_region ?_
  refine Go.Sl.ow_val rfl rfl (Go.Sl.v_move rfl) ?_
  refine Go.Sl.ow_val rfl rfl (Go.Sl.v_len rfl Try.underlying44 rfl) ?_
  refine Go.Sl.ow_val rfl rfl (Go.Sl.v_move rfl) ?_
  refine Go.Sl.ow_nil ?_
  refine Go.Sl.xw_then ?_
  refine Go.Sl.cw_block ?_
  refine Go.Sl.cw_loop2 (ι := ((Nat × List FrE × Option Addr × Nat × Hp × Hp))) [(0, _), (2, _), (9, _), (10, _)] ⟨rfl, rfl, rfl, rfl, trivial⟩ ((fun x => [(11, .int .i64 x.1), (3, .slice x.2.2.1 x.2.1.length x.2.2.2.1)])) ((fun x => x.1 ≤ ss.length ∧ x.2.1.length ≤ x.1 ∧ Ls enF 30 (.slice x.2.2.1 x.2.1.length x.2.2.2.1) x.2.2.2.2.1 x.2.1 ∧ ∀ e ∈ x.2.1, FrG B w0 G x.2.2.2.2.2 e)) ((fun x => ss.length - x.1)) ((fun x => x.2.2.2.2.1 :: x.2.2.2.2.2 :: G)) (((0, [], none, 0, [], []) : Nat × List FrE × Option Addr × Nat × Hp × Hp)) (by repeat (first | exact True.intro | refine And.intro rfl ?_)) (by first | exact Go.Sl.Cov.refl _ | (intro p; simp only [List.flatten_cons, List.flatten_nil, List.flatten_append, List.append_nil, List.nil_append, Go.Sl.cnt_append, Go.Sl.cnt_cons, Go.Sl.cnt_nil, List.set_cons_zero, List.set_cons_succ, List.length_nil, List.length_cons, Nat.zero_add, List.append]; omega)) ?_ ?_
  · exact ⟨Nat.zero_le _, Nat.zero_le _, Ls.nil, by simp⟩
  rintro ⟨j, es, ae, ke, ce, D⟩ ⟨hj, hel, hL, hG⟩
  dsimp only at hj hel hL hG ⊢
  refine Go.Sl.cw_seq ?_
  refine Go.Sl.cw_region ?_
  refine Go.Sl.ow_val rfl rfl (Go.Sl.v_lss rfl rfl) ?_
  refine Go.Sl.ow_nil ?_
  refine Go.Sl.xw_then ?_
  refine Go.Sl.cw_seq ?_
  refine Go.Sl.cw_dec rfl (fun hc12 => ?_) (fun hc12 => ?_)
  refine Go.Sl.cw_skip ?_
  refine Go.Sl.xw_then ?_
  rotate_left
  refine Go.Sl.cw_exit ?_
  refine Go.Sl.xw_then_exit ?_
  refine Go.Sl.xw_round_exit ?_
  refine Go.Sl.xw_block_exit ?_
  refine Go.Sl.xw_then ?_
  refine Go.Sl.cw_seq ?_
  refine Go.Sl.cw_region ?_
  refine Go.Sl.ow_val rfl rfl (Go.Sl.v_move rfl) ?_
  refine Go.Sl.ow_val rfl rfl (Go.Sl.v_assign rfl) ?_
  refine Go.Sl.ow_nil ?_
  refine Go.Sl.xw_then ?_
  refine Go.Sl.cw_ret ?_
  refine Go.Sl.ret1 rfl (Go.Sl.res_tmp rfl) ?_
  rotate_left
  · have hj2 : j < ss.length := by omega
    have hoks := hV.ok _ (List.getElem_mem hj2)
    have hIs := hI _ (List.getElem_mem hj2)
    have hcl : (ss[j]).cells.length = 72 := SmE.cells_len hoks
    have hco : ∀ u ∈ (ss[j]).cells, u.oneCell' = true := SmE.cells_one
    refine Go.Sl.cw_seq ?_
    refine Go.Sl.cw_block ?_
    refine Go.Sl.cw_seq ?_
    refine Go.Sl.cw_region ?_
    refine Go.Sl.ow_val rfl rfl (Go.Sl.v_indexAddr_vw Try.underlying44 (smTy) rfl rfl (by assumption) rfl (by omega)) ?_
    refine Go.Sl.ow_val rfl rfl (Go.Sl.v_load rfl (Go.Sl.Vw.var (smTy) (hV.cov (by first | exact Go.Sl.Cov.refl _ | (intro p; simp only [List.flatten_cons, List.flatten_nil, List.flatten_append, List.append_nil, List.nil_append, Go.Sl.cnt_append, Go.Sl.cnt_cons, Go.Sl.cnt_nil, List.set_cons_zero, List.set_cons_succ, List.length_nil, List.length_cons, Nat.zero_add, List.append]; omega))) (by omega))) ?_
    (refine Go.Sl.ow_alloc rfl rfl Ty.ze32 ?_; intro b5)
    refine Go.Sl.ow_storeE rfl (smTy) rfl rfl .here (by first | rfl | assumption) (by assumption) ?_
    refine Go.Sl.ow_nil ?_
    refine Go.Sl.xw_then ?_
    refine Go.Sl.cw_seq ?_
    refine Go.Sl.cw_region ?_
    refine Go.Sl.ow_val rfl rfl (Go.Sl.v_load rfl (Go.Sl.Var.atN Ty.ag32 .here Go.Sl.GetN.all (by first | rfl | assumption))) ?_
    (refine Go.Sl.ow_call rfl rfl rfl rfl (smallFrame_c hoks ⟨hIs.data.cov (by first | exact Go.Sl.Cov.refl _ | (intro p; simp only [List.flatten_cons, List.flatten_nil, List.flatten_append, List.append_nil, List.nil_append, Go.Sl.cnt_append, Go.Sl.cnt_cons, Go.Sl.cnt_nil, List.set_cons_zero, List.set_cons_succ, List.length_nil, List.length_cons, Nat.zero_add, List.append]; omega)), hIs.gaps.cov (by first | exact Go.Sl.Cov.refl _ | (intro p; simp only [List.flatten_cons, List.flatten_nil, List.flatten_append, List.append_nil, List.nil_append, Go.Sl.cnt_append, Go.Sl.cnt_cons, Go.Sl.cnt_nil, List.set_cons_zero, List.set_cons_succ, List.length_nil, List.length_cons, Nat.zero_add, List.append]; omega)), hIs.any.cov (by first | exact Go.Sl.Cov.refl _ | (intro p; simp only [List.flatten_cons, List.flatten_nil, List.flatten_append, List.append_nil, List.nil_append, Go.Sl.cnt_append, Go.Sl.cnt_cons, Go.Sl.cnt_nil, List.set_cons_zero, List.set_cons_succ, List.length_nil, List.length_cons, Nat.zero_add, List.append]; omega))⟩) ?_; rintro _ _ ⟨x16, rfl, hq16, rfl⟩)
    (refine Go.Sl.ow_alloc rfl rfl Ty.ze30 ?_; intro b6)
    obtain ⟨f, p, cn⟩ := x16
    obtain ⟨hfok, hfl, hfi⟩ := hq16
    dsimp only at hfok hfl hfi ⊢
    have hfc : (f.cells p).length = 39 := FrM.cells_len hfok
    have hfo : ∀ u ∈ f.cells p, u.oneCell' = true := FrM.cells_one
    have hokE : enF.ok ⟨f, p⟩ := hfok
    have hfG := hfi G hIs
    refine Go.Sl.ow_storeN rfl rfl rfl Ty.ag30 (by first | rfl | assumption) (by first | assumption | simp) .here ((SetN.all hfc)) ?_
    refine Go.Sl.ow_nil ?_
    refine Go.Sl.xw_then ?_
    refine Go.Sl.cw_seq ?_
    refine Go.Sl.cw_region ?_
    refine Go.Sl.ow_val rfl rfl (Go.Sl.v_load rfl (Go.Sl.Var.atN Ty.ag30 .here Go.Sl.GetN.all (by first | rfl | assumption))) ?_
    (refine Go.Sl.ow_call rfl rfl rfl rfl (put_c hfok (hfG.cov (by first | exact Go.Sl.Cov.refl _ | (intro p; simp only [List.flatten_cons, List.flatten_nil, List.flatten_append, List.append_nil, List.nil_append, Go.Sl.cnt_append, Go.Sl.cnt_cons, Go.Sl.cnt_nil, List.set_cons_zero, List.set_cons_succ, List.length_nil, List.length_cons, Nat.zero_add, List.append]; omega))) hfl.r hfl.d hfl.i) ?_; rintro _ _ ⟨x19, rfl, hq19, rfl⟩)
    refine Go.Sl.ow_val rfl rfl (Go.Sl.v_move rfl) ?_
    refine Go.Sl.ow_val rfl rfl (v_extractL rfl rfl) ?_
    refine Go.Sl.ow_val rfl rfl (v_extractL rfl rfl) ?_
    refine Go.Sl.ow_val rfl rfl (Go.Sl.v_assign rfl) ?_
    refine Go.Sl.ow_val rfl rfl (Go.Sl.v_assign rfl) ?_
    refine Go.Sl.ow_nil ?_
    refine Go.Sl.xw_then ?_
    obtain ⟨bs, e, a19, k19, h19⟩ := x19
    obtain ⟨q1, q2, q3, q4⟩ := hq19
    dsimp only at q1 q2 q3 q4 ⊢
    have hel2 : es.length ≤ 12 := by omega
    refine Go.Sl.cw_seq ?_
    refine Go.Sl.cw_region ?_
    refine Go.Sl.ow_val rfl rfl (Go.Sl.v_move rfl) ?_
    refine Go.Sl.ow_val rfl rfl (Go.Sl.v_eql rfl rfl) ?_
    refine Go.Sl.ow_val rfl rfl (Go.Sl.v_move rfl) ?_
    refine Go.Sl.ow_dec 24 rfl (fun hc24 => ?_) (fun hc24 => ?_)
    refine Go.Sl.ow_val rfl rfl (Go.Sl.v_load rfl (Go.Sl.Var.atN Ty.ag30 (.there .here) Go.Sl.GetN.all (by first | rfl | assumption))) ?_
    (refine Go.Sl.ow_buildL (es := [((⟨f, p⟩ : FrE))]) rfl rfl Try.underlying36 Ty.em36 (fTy) rfl rfl (by first | (simp [*]; done) | (repeat (first | exact List.forall_mem_nil _ | refine List.forall_mem_cons.2 ⟨?_, ?_⟩ | assumption | (show _ ∧ _; omega)))) (by simp only [List.length_cons, List.length_nil]; decide) ?_; intro ao26 c26 hL26)
    (refine Go.Sl.ow_call rfl rfl rfl rfl (light_c (l := [(⟨f, p⟩ : FrE)]) (Go.Sl.Ls.vw (by assumption) (by repeat (first | exact Go.Sl.Sub.here | assumption | refine Go.Sl.Sub.there ?_))) (by simp)) ?_; rintro _ _ ⟨x27, rfl, hq27, rfl⟩)
    refine Go.Sl.ow_val rfl rfl (Go.Sl.v_pick_true rfl rfl) ?_
    refine Go.Sl.ow_nil ?_
    refine Go.Sl.xw_then ?_
    refine Go.Sl.cw_bool rfl (fun hc28 => ?_) (fun hc28 => ?_)
    refine Go.Sl.cw_region ?_
    refine Go.Sl.ow_val rfl rfl (Go.Sl.v_move rfl) ?_
    refine Go.Sl.ow_val rfl rfl (Go.Sl.v_load rfl (Go.Sl.Var.atN Ty.ag30 (.there (.there .here)) Go.Sl.GetN.all (by first | rfl | assumption))) ?_
    (refine Go.Sl.ow_buildL (es := [((⟨f, p⟩ : FrE))]) rfl rfl Try.underlying36 Ty.em36 (fTy) rfl rfl (by first | (simp [*]; done) | (repeat (first | exact List.forall_mem_nil _ | refine List.forall_mem_cons.2 ⟨?_, ?_⟩ | assumption | (show _ ∧ _; omega)))) (by simp only [List.length_cons, List.length_nil]; decide) ?_; intro ao31 c31 hL31)
    (refine Go.Sl.ow_appendL rfl rfl Try.underlying36 Try.underlying36 Ty.em36 (fTy) rfl rfl (by assumption) (by repeat (first | exact Go.Sl.Sel.here | apply Go.Sl.Sel.there)) (Go.Sl.Ls.vw (by assumption) (by repeat (first | exact Go.Sl.Sub.here | assumption | refine Go.Sl.Sub.there ?_))) (by first | omega | (simp only [List.length_append, List.length_take, List.length_drop, List.length_nil, List.length_cons]; omega)) (by first | omega | (simp only [List.length_append, List.length_take, List.length_drop, List.length_nil, List.length_cons]; omega)) ?_; intro ao32 cap32 c32 hL32)
    refine Go.Sl.ow_val rfl rfl (Go.Sl.v_assign rfl) ?_
    refine Go.Sl.ow_nil ?_
    refine Go.Sl.xw_block ?_
    refine Go.Sl.xw_then ?_
    refine Go.Sl.cw_region ?_
    refine Go.Sl.ow_val rfl rfl (Go.Sl.v_add rfl rfl (Go.Sl.nw_i64 (by omega) (by omega))) ?_
    refine Go.Sl.ow_val rfl rfl (Go.Sl.v_move rfl) ?_
    refine Go.Sl.ow_nil ?_
    rotate_left
    refine Go.Sl.cw_skip ?_
    refine Go.Sl.xw_block ?_
    refine Go.Sl.xw_then ?_
    refine Go.Sl.cw_region ?_
    refine Go.Sl.ow_val rfl rfl (Go.Sl.v_add rfl rfl (Go.Sl.nw_i64 (by omega) (by omega))) ?_
    refine Go.Sl.ow_val rfl rfl (Go.Sl.v_move rfl) ?_
    refine Go.Sl.ow_nil ?_
    rotate_left
    refine Go.Sl.ow_skip rfl rfl ?_
    refine Go.Sl.ow_skip rfl rfl ?_
    refine Go.Sl.ow_skip rfl rfl ?_
    refine Go.Sl.ow_val rfl rfl (Go.Sl.v_pick_false rfl rfl) ?_
    refine Go.Sl.ow_nil ?_
    refine Go.Sl.xw_then ?_
    refine Go.Sl.cw_false rfl ?_
    refine Go.Sl.cw_skip ?_
    refine Go.Sl.xw_block ?_
    refine Go.Sl.xw_then ?_
    refine Go.Sl.cw_region ?_
    refine Go.Sl.ow_val rfl rfl (Go.Sl.v_add rfl rfl (Go.Sl.nw_i64 (by omega) (by omega))) ?_
    refine Go.Sl.ow_val rfl rfl (Go.Sl.v_move rfl) ?_
    refine Go.Sl.ow_nil ?_
    rotate_left
    · have hgf : FrG B w0 G (D ++ cn) ⟨f, p⟩ := ⟨q1.1 hc24, hfok, hfl, hfG.cov (by first | exact Go.Sl.Cov.refl _ | (intro p; simp only [List.flatten_cons, List.flatten_nil, List.flatten_append, List.append_nil, List.nil_append, Go.Sl.cnt_append, Go.Sl.cnt_cons, Go.Sl.cnt_nil, List.set_cons_zero, List.set_cons_succ, List.length_nil, List.length_cons, Nat.zero_add, List.append]; omega))⟩
      exact xw_round ((j + 1, es ++ [(⟨f, p⟩ : FrE)], ao32, cap32, c32, D ++ cn) : Nat × List FrE × Option Addr × Nat × Hp × Hp) ⟨by dsimp only; omega, by dsimp only; rw [List.length_append, List.length_singleton]; omega, hL32, fun y hy => by
        rcases List.mem_append.1 hy with hy | hy
        · have h1 := hG y hy
          exact ⟨h1.can, h1.ok, h1.len, h1.in_.cov (by first | exact Go.Sl.Cov.refl _ | (intro p; simp only [List.flatten_cons, List.flatten_nil, List.flatten_append, List.append_nil, List.nil_append, Go.Sl.cnt_append, Go.Sl.cnt_cons, Go.Sl.cnt_nil, List.set_cons_zero, List.set_cons_succ, List.length_nil, List.length_cons, Nat.zero_add, List.append]; omega))⟩
        · simp only [List.mem_cons, List.not_mem_nil, or_false] at hy
          subst hy
          exact hgf⟩ (by dsimp only; omega) (by first | exact Go.Sl.Cov.refl _ | (intro p; simp only [List.flatten_cons, List.flatten_nil, List.flatten_append, List.append_nil, List.nil_append, Go.Sl.cnt_append, Go.Sl.cnt_cons, Go.Sl.cnt_nil, List.set_cons_zero, List.set_cons_succ, List.length_nil, List.length_cons, Nat.zero_add, List.append]; omega)) (by repeat (first | exact True.intro | refine And.intro rfl ?_))
    · exact xw_round ((j + 1, es, ae, ke, ce, D) : Nat × List FrE × Option Addr × Nat × Hp × Hp) ⟨by dsimp only; omega, by dsimp only; omega, hL, hG⟩ (by dsimp only; omega) (by first | exact Go.Sl.Cov.refl _ | (intro p; simp only [List.flatten_cons, List.flatten_nil, List.flatten_append, List.append_nil, List.nil_append, Go.Sl.cnt_append, Go.Sl.cnt_cons, Go.Sl.cnt_nil, List.set_cons_zero, List.set_cons_succ, List.length_nil, List.length_cons, Nat.zero_add, List.append]; omega)) (by repeat (first | exact True.intro | refine And.intro rfl ?_))
    · exact xw_round ((j + 1, es, ae, ke, ce, D) : Nat × List FrE × Option Addr × Nat × Hp × Hp) ⟨by dsimp only; omega, by dsimp only; omega, hL, hG⟩ (by dsimp only; omega) (by first | exact Go.Sl.Cov.refl _ | (intro p; simp only [List.flatten_cons, List.flatten_nil, List.flatten_append, List.append_nil, List.nil_append, Go.Sl.cnt_append, Go.Sl.cnt_cons, Go.Sl.cnt_nil, List.set_cons_zero, List.set_cons_succ, List.length_nil, List.length_cons, Nat.zero_add, List.append]; omega)) (by repeat (first | exact True.intro | refine And.intro rfl ?_))
  exact ⟨(es, ae, ke, ce, D), rfl, ⟨by dsimp only; omega, hL, hG⟩, (by first | exact Go.Sl.Cov.refl _ | (intro p; simp only [List.flatten_cons, List.flatten_nil, List.flatten_append, List.append_nil, List.nil_append, Go.Sl.cnt_append, Go.Sl.cnt_cons, Go.Sl.cnt_nil, List.set_cons_zero, List.set_cons_succ, List.length_nil, List.length_cons, Nat.zero_add, List.append]; omega))⟩
theorem more_len : ∀ {n : Nat} {top less : Int} {acc : List Rg} {s : Rs}, (pMore n top less acc s).1.length ≤ acc.length + n + 1
  | 0, top, less, acc, s => by
    have h := one_len (s := s) (top := top) (less := less) (acc := acc)
    show (pOne top less acc s).1.2.reverse.length ≤ _
    rw [List.length_reverse]
    exact h
  | n + 1, top, less, acc, s => by
    have h := one_len (s := s) (top := top) (less := less) (acc := acc)
    show ((if (pOne top less acc s).1.1 = false then Pr.ret (pOne top less acc s).1.2 else _ : Pr (List Rg)) (pOne top less acc s).2).1.length ≤ _
    by_cases h2 : (pOne top less acc s).1.1 = false
    · rw [if_pos h2]
      show (pOne top less acc s).1.2.length ≤ _
      omega
    · rw [if_neg h2]
      show ((if top - less < (pInt (pOne top less acc s).2).1 + 2 then (pFail 10).bind fun _ => .ret (pOne top less acc s).1.2 else pMore n (top - less - (pInt (pOne top less acc s).2).1 - 2) (pInt (pInt (pOne top less acc s).2).2).1 (pOne top less acc s).1.2 : Pr (List Rg)) (pInt (pInt (pOne top less acc s).2).2).2).1.length ≤ _
      by_cases h3 : top - less < (pInt (pOne top less acc s).2).1 + 2
      · rw [if_pos h3]
        show (pOne top less acc s).1.2.length ≤ _
        omega
      · rw [if_neg h3]
        have h4 := more_len (n := n) (top := top - less - (pInt (pOne top less acc s).2).1 - 2) (less := (pInt (pInt (pOne top less acc s).2).2).1) (acc := (pOne top less acc s).1.2) (s := (pInt (pInt (pOne top less acc s).2).2).2)
        omega
theorem ack_len {k : Int} (s : Rs) : (pAck k s).1.rg.length ≤ 32 := by
  have h := more_len (n := (pCount 31 (pInt (pInt s).2).2).1.toNat) (top := (pInt s).1) (less := (pInt (pCount 31 (pInt (pInt s).2).2).2).1) (acc := []) (s := (pInt (pCount 31 (pInt (pInt s).2).2).2).2)
  have h2 := (countM_le (l := (pInt (pInt s).2).2.1) (e := (pInt (pInt s).2).2.2) (k := 31) (by decide)).2.2
  have h3 : (pCount 31 (pInt (pInt s).2).2).1 ≤ max 31 0 := h2
  show (pMore (pCount 31 (pInt (pInt s).2).2).1.toNat (pInt s).1 (pInt (pCount 31 (pInt (pInt s).2).2).2).1 [] (pInt (pCount 31 (pInt (pInt s).2).2).2).2).1.length ≤ 32
  rw [List.length_nil] at h
  omega
theorem fields_rg {k : Nat} (hk : k ≤ 30) (s : Rs) : (pFields k s).1.rg.length ≤ 32 := by
  by_cases h2 : k = 2
  · subst h2; exact ack_len s
  by_cases h3 : k = 3
  · subst h3; exact ack_len (k := 3) s
  have h : (pFields k s).1.rg = [] := by
    rcases (show k = 0 ∨ k = 1 ∨ k = 4 ∨ k = 5 ∨ k = 6 ∨ k = 7 ∨ k = 8 ∨ k = 9 ∨ k = 10 ∨ k = 11 ∨ k = 12 ∨ k = 13 ∨ k = 14 ∨ k = 15 ∨ k = 16 ∨ k = 17 ∨ k = 18 ∨ k = 19 ∨ k = 20 ∨ k = 21 ∨ k = 22 ∨ k = 23 ∨ k = 24 ∨ k = 25 ∨ k = 26 ∨ k = 27 ∨ k = 28 ∨ k = 29 ∨ k = 30 by omega) with rfl | rfl | rfl | rfl | rfl | rfl | rfl | rfl | rfl | rfl | rfl | rfl | rfl | rfl | rfl | rfl | rfl | rfl | rfl | rfl | rfl | rfl | rfl | rfl | rfl | rfl | rfl | rfl | rfl <;> rfl
  rw [h]
  simp
theorem take_rg (s : Rs) : (pTake s).1.rg.length ≤ 32 := by
  have h := least_in s
  rw [pTake_eq]
  by_cases h1 : 8 ≤ (pLeast s).1 ∧ (pLeast s).1 < 16
  · rw [if_pos h1]
    show ([] : List Rg).length ≤ 32
    simp
  · rw [if_neg h1]
    by_cases h2 : 30 < (pLeast s).1
    · rw [if_pos h2]
      show ([] : List Rg).length ≤ 32
      simp
    · rw [if_neg h2]; exact fields_rg (by omega) _
theorem ba_app (a b : List UInt8) : (⟨a.toArray⟩ : ByteArray) ++ ⟨b.toArray⟩ = ⟨(a ++ b).toArray⟩ := by
  apply ByteArray.ext
  simp
set_option maxHeartbeats 8000000 in
theorem law {B : Nat} {w0 : World} {ao bo : Option Addr} {ca cb : Nat} {xs ys : List SmE} (ha : xs.length ≤ 9223372036854775807) (hb : ys.length ≤ 9223372036854775807) (hA : ∀ G, Vw enS (St B w0 G) (.slice ao xs.length ca) xs) (hB : ∀ G, Vw enS (St B w0 G) (.slice bo ys.length cb) ys) (hAi : ∀ G, ∀ s ∈ xs, s.In (St B w0 G)) (hBi : ∀ G, ∀ s ∈ ys, s.In (St B w0 G)) :
    FnC Try.prog 4 #[.slice ao xs.length ca, .slice bo ys.length cb] B w0 [] (R0 (.bool true)) := fun F => by
  refine fn_enter Try.func4 rfl (by kernel_rfl) Try.ntmps4 (by simp) ?_
  refine Go.Sl.cw_seq ?_
  refine Go.Sl.cw_region ?_
  refine Go.Sl.ow_val rfl rfl (Go.Sl.v_assign rfl) ?_
  refine Go.Sl.ow_nil ?_
  refine Go.Sl.xw_then ?_
  refine Go.Sl.cw_seq ?_
  refine Go.Sl.cw_seq ?_
  refine Go.Sl.cw_region ?_
  refine Go.Sl.ow_val rfl rfl (Go.Sl.v_call rfl rfl (fr8Awake_c)) ?_
  refine Go.Sl.ow_val rfl rfl (Go.Sl.v_not_true rfl) ?_
  refine Go.Sl.ow_nil ?_
  refine Go.Sl.xw_then ?_
  refine Go.Sl.cw_false rfl ?_
  refine Go.Sl.cw_skip ?_
  refine Go.Sl.xw_then ?_
  refine Go.Sl.cw_seq ?_
  refine Go.Sl.cw_seq ?_
  refine Go.Sl.cw_region ?_
  refine Go.Sl.ow_val rfl rfl (Go.Sl.v_move rfl) ?_
  refine Go.Sl.ow_val rfl rfl (Go.Sl.v_len rfl Try.underlying44 rfl) ?_
  refine Go.Sl.ow_val rfl rfl (Go.Sl.v_gtr rfl rfl) ?_
  refine Go.Sl.ow_val rfl rfl (Go.Sl.v_move rfl) ?_
  refine Go.Sl.ow_dec 24 rfl (fun hc24 => ?_) (fun hc24 => ?_)
  refine Go.Sl.ow_skip rfl rfl ?_
  refine Go.Sl.ow_skip rfl rfl ?_
  refine Go.Sl.ow_skip rfl rfl ?_
  refine Go.Sl.ow_val rfl rfl (Go.Sl.v_pick_true rfl rfl) ?_
  refine Go.Sl.ow_nil ?_
  refine Go.Sl.xw_then ?_
  refine Go.Sl.cw_true rfl ?_
  refine Go.Sl.cw_seq ?_
  refine Go.Sl.cw_region ?_
  refine Go.Sl.ow_val rfl rfl (Go.Sl.v_assign rfl) ?_
  refine Go.Sl.ow_nil ?_
  refine Go.Sl.xw_then ?_
  refine Go.Sl.cw_ret ?_
  refine Go.Sl.xw_then_ret ?_
  refine Go.Sl.ret1 rfl (Go.Sl.res_tmp rfl) ?_
  rotate_left
  refine Go.Sl.ow_val rfl rfl (Go.Sl.v_move rfl) ?_
  refine Go.Sl.ow_val rfl rfl (Go.Sl.v_len rfl Try.underlying44 rfl) ?_
  refine Go.Sl.ow_val rfl rfl (Go.Sl.v_gtr rfl rfl) ?_
  refine Go.Sl.ow_val rfl rfl (Go.Sl.v_pick_false rfl rfl) ?_
  refine Go.Sl.ow_nil ?_
  refine Go.Sl.xw_then ?_
  refine Go.Sl.cw_dec rfl (fun hc28 => ?_) (fun hc28 => ?_)
  refine Go.Sl.cw_seq ?_
  refine Go.Sl.cw_region ?_
  refine Go.Sl.ow_val rfl rfl (Go.Sl.v_assign rfl) ?_
  refine Go.Sl.ow_nil ?_
  refine Go.Sl.xw_then ?_
  refine Go.Sl.cw_ret ?_
  refine Go.Sl.xw_then_ret ?_
  refine Go.Sl.ret1 rfl (Go.Sl.res_tmp rfl) ?_
  rotate_left
  refine Go.Sl.cw_skip ?_
  refine Go.Sl.xw_then ?_
  rotate_left
  · exact done0 rfl (by first | exact Go.Sl.Cov.refl _ | (intro p; simp only [List.flatten_cons, List.flatten_nil, List.flatten_append, List.append_nil, List.nil_append, Go.Sl.cnt_append, Go.Sl.cnt_cons, Go.Sl.cnt_nil, List.set_cons_zero, List.set_cons_succ, List.length_nil, List.length_cons, Nat.zero_add, List.append]; omega))
  · exact done0 rfl (by first | exact Go.Sl.Cov.refl _ | (intro p; simp only [List.flatten_cons, List.flatten_nil, List.flatten_append, List.append_nil, List.nil_append, Go.Sl.cnt_append, Go.Sl.cnt_cons, Go.Sl.cnt_nil, List.set_cons_zero, List.set_cons_succ, List.length_nil, List.length_cons, Nat.zero_add, List.append]; omega))
  refine Go.Sl.cw_seq ?_
  refine Go.Sl.cw_region ?_
  refine Go.Sl.ow_val rfl rfl (Go.Sl.v_assign rfl) ?_
  refine Go.Sl.ow_nil ?_
  refine Go.Sl.xw_then ?_
  refine Go.Sl.cw_seq ?_
  refine Go.Sl.cw_region ?_
  refine Go.Sl.ow_val rfl rfl (Go.Sl.v_move rfl) ?_
  refine Go.Sl.ow_val rfl rfl (Go.Sl.v_move rfl) ?_
  (refine Go.Sl.ow_call rfl rfl rfl rfl (right_c (hA _) (hAi _) (by omega)) ?_; rintro _ _ ⟨x31, rfl, hq31, rfl⟩)
  refine Go.Sl.ow_val rfl rfl (Go.Sl.v_move rfl) ?_
  refine Go.Sl.ow_val rfl rfl (Go.Sl.v_move rfl) ?_
  (refine Go.Sl.ow_call rfl rfl rfl rfl (right_c (hB _) (hBi _) (by omega)) ?_; rintro _ _ ⟨x34, rfl, hq34, rfl⟩)
  refine Go.Sl.ow_val rfl rfl (Go.Sl.v_assign rfl) ?_
  refine Go.Sl.ow_val rfl rfl (Go.Sl.v_assign rfl) ?_
  refine Go.Sl.ow_nil ?_
  refine Go.Sl.xw_then ?_
  obtain ⟨e1, a1, k1, c1, D1⟩ := x31
  obtain ⟨e2, a2, k2, c2, D2⟩ := x34
  obtain ⟨n1, L1, G1⟩ := hq31
  obtain ⟨n2, L2, G2⟩ := hq34
  dsimp only at n1 L1 G1 n2 L2 G2 ⊢
  have I1 : ∀ e ∈ e1, FrIn (St B w0 (c2 :: D2 :: c1 :: D1 :: F)) e.m e.p := fun e he => (G1 e he).in_.cov (by first | exact Go.Sl.Cov.refl _ | (intro p; simp only [List.flatten_cons, List.flatten_nil, List.flatten_append, List.append_nil, List.nil_append, Go.Sl.cnt_append, Go.Sl.cnt_cons, Go.Sl.cnt_nil, List.set_cons_zero, List.set_cons_succ, List.length_nil, List.length_cons, Nat.zero_add, List.append]; omega))
  have I2 : ∀ e ∈ e2, FrIn (St B w0 (c2 :: D2 :: c1 :: D1 :: F)) e.m e.p := fun e he => (G2 e he).in_.cov (by first | exact Go.Sl.Cov.refl _ | (intro p; simp only [List.flatten_cons, List.flatten_nil, List.flatten_append, List.append_nil, List.nil_append, Go.Sl.cnt_append, Go.Sl.cnt_cons, Go.Sl.cnt_nil, List.set_cons_zero, List.set_cons_succ, List.length_nil, List.length_cons, Nat.zero_add, List.append]; omega))
  have C1 : ∀ e ∈ e1, CanF e.m ∧ (e.m.rg.length ≤ 9223372036854775807 ∧ e.m.data.length ≤ 9223372036854775807 ∧ e.m.id.length ≤ 9223372036854775807) := fun e he => ⟨(G1 e he).can, (G1 e he).len.r, (G1 e he).len.d, (G1 e he).len.i⟩
  have C2 : ∀ e ∈ e2, CanF e.m ∧ (e.m.rg.length ≤ 9223372036854775807 ∧ e.m.data.length ≤ 9223372036854775807 ∧ e.m.id.length ≤ 9223372036854775807) := fun e he => ⟨(G2 e he).can, (G2 e he).len.r, (G2 e he).len.d, (G2 e he).len.i⟩
  have K1 : ∀ f ∈ e1.map (·.m), CanF f ∧ f.ok := fun f hf => by
    obtain ⟨e, he, rfl⟩ := List.mem_map.1 hf
    exact ⟨(G1 e he).can, (G1 e he).ok⟩
  have K2 : ∀ f ∈ e2.map (·.m), CanF f ∧ f.ok := fun f hf => by
    obtain ⟨e, he, rfl⟩ := List.mem_map.1 hf
    exact ⟨(G2 e he).can, (G2 e he).ok⟩
  have B1 := encs_len K1
  have B2 := encs_len K2
  rw [List.length_map] at B1 B2
  refine cw_cov (c2 :: D2 :: c1 :: D1 :: F) (by first | exact Go.Sl.Cov.refl _ | (intro p; simp only [List.flatten_cons, List.flatten_nil, List.flatten_append, List.append_nil, List.nil_append, Go.Sl.cnt_append, Go.Sl.cnt_cons, Go.Sl.cnt_nil, List.set_cons_zero, List.set_cons_succ, List.length_nil, List.length_cons, Nat.zero_add, List.append]; omega)) ?_
  have I12 : ∀ e ∈ [] ++ e1 ++ e2, FrIn (St B w0 (c2 :: D2 :: c1 :: D1 :: F)) e.m e.p := fun e he => by
    rcases List.mem_append.1 he with h | h
    · exact I1 e (by simpa using h)
    · exact I2 e h
  have C12 : ∀ e ∈ [] ++ e1 ++ e2, CanF e.m ∧ (e.m.rg.length ≤ 9223372036854775807 ∧ e.m.data.length ≤ 9223372036854775807 ∧ e.m.id.length ≤ 9223372036854775807) := fun e he => by
    rcases List.mem_append.1 he with h | h
    · exact C1 e (by simpa using h)
    · exact C2 e h
  have hn12 : ([] ++ e1 ++ e2).length = e1.length + e2.length := by simp
  have E12 : encs (([] ++ e1 ++ e2).map (fun x : FrE => x.m)) = encs (e1.map (·.m)) ++ encs (e2.map (·.m)) := by
    simp [encs]
  have K12 : ∀ f ∈ ([] ++ e1 ++ e2).map (fun x : FrE => x.m), CanF f ∧ f.ok := fun f hf => by
    rw [List.nil_append, List.map_append] at hf
    rcases List.mem_append.1 hf with h | h
    · exact K1 f h
    · exact K2 f h
  have hbl : (encs (([] ++ e1 ++ e2).map (fun x : FrE => x.m))).length ≤ 48000 := by rw [E12, List.length_append]; omega
  have hsz : (⟨(encs (e1.map (·.m))).toArray⟩ : ByteArray).size + (⟨(encs (e2.map (·.m))).toArray⟩ : ByteArray).size ≤ 9223372036854775807 := by
    show (encs (e1.map (·.m))).toArray.size + (encs (e2.map (·.m))).toArray.size ≤ _
    rw [List.size_toArray, List.size_toArray]
    omega
  have T12 := takes_encs K12
  have T1 := takes_encs K1
  refine Go.Sl.cw_seq ?_
  refine Go.Sl.cw_region ?_
  refine Go.Sl.ow_val rfl rfl (Go.Sl.v_move rfl) ?_
  (refine Go.Sl.ow_call rfl rfl rfl rfl (all_c (l := e1) (L1.vw (by repeat (first | exact Go.Sl.Sub.here | assumption | refine Go.Sl.Sub.there ?_))) (fun e he => (I1 e he).cov (by first | exact Go.Sl.Cov.refl _ | (intro p; simp only [List.flatten_cons, List.flatten_nil, List.flatten_append, List.append_nil, List.nil_append, Go.Sl.cnt_append, Go.Sl.cnt_cons, Go.Sl.cnt_nil, List.set_cons_zero, List.set_cons_succ, List.length_nil, List.length_cons, Nat.zero_add, List.append]; omega))) C1 (by omega)) ?_; rintro _ _ ⟨x37, rfl, hq37, rfl⟩)
  refine Go.Sl.ow_val rfl rfl (Go.Sl.v_move rfl) ?_
  refine Go.Sl.ow_val rfl rfl (v_extractL rfl rfl) ?_
  refine Go.Sl.ow_val rfl rfl (v_extractL rfl rfl) ?_
  refine Go.Sl.ow_val rfl rfl (Go.Sl.v_assign rfl) ?_
  refine Go.Sl.ow_val rfl rfl (Go.Sl.v_assign rfl) ?_
  refine Go.Sl.ow_nil ?_
  refine Go.Sl.xw_then ?_
  refine Go.Sl.cw_seq ?_
  refine Go.Sl.cw_region ?_
  refine Go.Sl.ow_val rfl rfl (Go.Sl.v_move rfl) ?_
  (refine Go.Sl.ow_call rfl rfl rfl rfl (all_c (l := e2) (L2.vw (by repeat (first | exact Go.Sl.Sub.here | assumption | refine Go.Sl.Sub.there ?_))) (fun e he => (I2 e he).cov (by first | exact Go.Sl.Cov.refl _ | (intro p; simp only [List.flatten_cons, List.flatten_nil, List.flatten_append, List.append_nil, List.nil_append, Go.Sl.cnt_append, Go.Sl.cnt_cons, Go.Sl.cnt_nil, List.set_cons_zero, List.set_cons_succ, List.length_nil, List.length_cons, Nat.zero_add, List.append]; omega))) C2 (by omega)) ?_; rintro _ _ ⟨x42, rfl, hq42, rfl⟩)
  refine Go.Sl.ow_val rfl rfl (Go.Sl.v_move rfl) ?_
  refine Go.Sl.ow_val rfl rfl (v_extractL rfl rfl) ?_
  refine Go.Sl.ow_val rfl rfl (v_extractL rfl rfl) ?_
  refine Go.Sl.ow_val rfl rfl (Go.Sl.v_assign rfl) ?_
  refine Go.Sl.ow_val rfl rfl (Go.Sl.v_assign rfl) ?_
  refine Go.Sl.ow_nil ?_
  refine Go.Sl.xw_then ?_
  refine Go.Sl.cw_seq ?_
  refine Go.Sl.cw_region ?_
  (refine Go.Sl.ow_buildL (es := []) rfl rfl Try.underlying36 Ty.em36 (fTy) rfl rfl (by first | (simp [*]; done) | (repeat (first | exact List.forall_mem_nil _ | refine List.forall_mem_cons.2 ⟨?_, ?_⟩ | assumption | (show _ ∧ _; omega)))) (by simp only [List.length_cons, List.length_nil]; decide) ?_; intro ao46 c46 hL46)
  refine Go.Sl.ow_val rfl rfl (Go.Sl.v_move rfl) ?_
  (refine Go.Sl.ow_appendL rfl rfl Try.underlying36 Try.underlying36 Ty.em36 (fTy) rfl rfl (by assumption) (by repeat (first | exact Go.Sl.Sel.here | apply Go.Sl.Sel.there)) ((L1.vw (by repeat (first | exact Go.Sl.Sub.here | assumption | refine Go.Sl.Sub.there ?_)))) (by first | omega | (simp only [List.length_append, List.length_take, List.length_drop, List.length_nil, List.length_cons]; omega)) (by first | omega | (simp only [List.length_append, List.length_take, List.length_drop, List.length_nil, List.length_cons]; omega)) ?_; intro ao48 cap48 c48 hL48)
  refine Go.Sl.ow_val rfl rfl (Go.Sl.v_move rfl) ?_
  (refine Go.Sl.ow_appendL rfl rfl Try.underlying36 Try.underlying36 Ty.em36 (fTy) rfl rfl (by assumption) (by repeat (first | exact Go.Sl.Sel.here | apply Go.Sl.Sel.there)) (Go.Sl.Ls.vw (by assumption) (by repeat (first | exact Go.Sl.Sub.here | assumption | refine Go.Sl.Sub.there ?_))) (by first | omega | (simp only [List.length_append, List.length_take, List.length_drop, List.length_nil, List.length_cons]; omega)) (by first | omega | (simp only [List.length_append, List.length_take, List.length_drop, List.length_nil, List.length_cons]; omega)) ?_; intro ao50 cap50 c50 hL50)
  (refine Go.Sl.ow_call rfl rfl rfl rfl (all_c (l := [] ++ e1 ++ e2) (Go.Sl.Ls.vw hL50 (by repeat (first | exact Go.Sl.Sub.here | assumption | refine Go.Sl.Sub.there ?_))) (fun e he => (I12 e he).cov (by first | exact Go.Sl.Cov.refl _ | (intro p; simp only [List.flatten_cons, List.flatten_nil, List.flatten_append, List.append_nil, List.nil_append, Go.Sl.cnt_append, Go.Sl.cnt_cons, Go.Sl.cnt_nil, List.set_cons_zero, List.set_cons_succ, List.length_nil, List.length_cons, Nat.zero_add, List.append]; omega))) C12 (by omega)) ?_; rintro _ _ ⟨x51, rfl, hq51, rfl⟩)
  refine Go.Sl.ow_val rfl rfl (Go.Sl.v_move rfl) ?_
  refine Go.Sl.ow_val rfl rfl (v_extractL rfl rfl) ?_
  refine Go.Sl.ow_val rfl rfl (v_extractL rfl rfl) ?_
  refine Go.Sl.ow_val rfl rfl (Go.Sl.v_assign rfl) ?_
  refine Go.Sl.ow_val rfl rfl (Go.Sl.v_assign rfl) ?_
  refine Go.Sl.ow_nil ?_
  refine Go.Sl.xw_then ?_
  obtain ⟨a37, k37, c37⟩ := x37
  obtain ⟨a42, k42, c42⟩ := x42
  obtain ⟨a51, k51, c51⟩ := x51
  dsimp only at hq37 hq42 hq51 ⊢
  refine Go.Sl.cw_seq ?_
  refine Go.Sl.cw_seq ?_
  refine Go.Sl.cw_region ?_
  refine Go.Sl.ow_val rfl rfl (Go.Sl.v_move rfl) ?_
  refine Go.Sl.ow_val rfl rfl (Go.Sl.v_neq rfl rfl) ?_
  refine Go.Sl.ow_val rfl rfl (Go.Sl.v_move rfl) ?_
  refine Go.Sl.ow_dec 56 rfl (fun hc56 => ?_) (fun hc56 => ?_)
  (exfalso; omega)
  refine Go.Sl.ow_val rfl rfl (Go.Sl.v_move rfl) ?_
  refine Go.Sl.ow_val rfl rfl (Go.Sl.v_neq rfl rfl) ?_
  refine Go.Sl.ow_val rfl rfl (Go.Sl.v_pick_false rfl rfl) ?_
  refine Go.Sl.ow_val rfl rfl (Go.Sl.v_move rfl) ?_
  refine Go.Sl.ow_dec 60 rfl (fun hc60 => ?_) (fun hc60 => ?_)
  (exfalso; omega)
  refine Go.Sl.ow_val rfl rfl (Go.Sl.v_move rfl) ?_
  refine Go.Sl.ow_val rfl rfl (Go.Sl.v_neq rfl rfl) ?_
  refine Go.Sl.ow_val rfl rfl (Go.Sl.v_pick_false rfl rfl) ?_
  refine Go.Sl.ow_val rfl rfl (Go.Sl.v_move rfl) ?_
  refine Go.Sl.ow_dec 64 rfl (fun hc64 => ?_) (fun hc64 => ?_)
  (exfalso; omega)
  refine Go.Sl.ow_val rfl rfl (Go.Sl.v_move rfl) ?_
  refine Go.Sl.ow_val rfl rfl (Go.Sl.v_str Try.underlying9 Try.underlying23 Try.underlying5 rfl ((hq51.vw (by repeat (first | exact Go.Sl.Sub.here | assumption | refine Go.Sl.Sub.there ?_))))) ?_
  refine Go.Sl.ow_val rfl rfl (Go.Sl.v_move rfl) ?_
  refine Go.Sl.ow_val rfl rfl (Go.Sl.v_str Try.underlying9 Try.underlying23 Try.underlying5 rfl ((hq37.vw (by repeat (first | exact Go.Sl.Sub.here | assumption | refine Go.Sl.Sub.there ?_))))) ?_
  refine Go.Sl.ow_val rfl rfl (Go.Sl.v_move rfl) ?_
  refine Go.Sl.ow_val rfl rfl (Go.Sl.v_str Try.underlying9 Try.underlying23 Try.underlying5 rfl ((hq42.vw (by repeat (first | exact Go.Sl.Sub.here | assumption | refine Go.Sl.Sub.there ?_))))) ?_
  refine Go.Sl.ow_val rfl rfl (Go.Sl.v_addS rfl rfl (by omega)) ?_
  refine Go.Sl.ow_val rfl rfl (Go.Sl.v_neqS rfl rfl) ?_
  refine Go.Sl.ow_val rfl rfl (Go.Sl.v_pick_false rfl rfl) ?_
  refine Go.Sl.ow_nil ?_
  refine Go.Sl.xw_then ?_
  refine Go.Sl.cw_dec rfl (fun hc73 => ?_) (fun hc73 => ?_)
  refine Go.Sl.cw_seq ?_
  refine Go.Sl.cw_region ?_
  refine Go.Sl.ow_val rfl rfl (Go.Sl.v_assign rfl) ?_
  refine Go.Sl.ow_nil ?_
  refine Go.Sl.xw_then ?_
  refine Go.Sl.cw_ret ?_
  refine Go.Sl.xw_then_ret ?_
  refine Go.Sl.ret1 rfl (Go.Sl.res_tmp rfl) ?_
  rotate_left
  refine Go.Sl.cw_skip ?_
  refine Go.Sl.xw_then ?_
  rotate_left
  · exact absurd (by rw [E12, ba_app]) hc73
  refine Go.Sl.cw_seq ?_
  refine Go.Sl.cw_seq ?_
  refine Go.Sl.cw_region ?_
  refine Go.Sl.ow_val rfl rfl (Go.Sl.v_move rfl) ?_
  refine Go.Sl.ow_val rfl rfl (Go.Sl.v_len rfl Try.underlying36 rfl) ?_
  refine Go.Sl.ow_val rfl rfl (Go.Sl.v_move rfl) ?_
  refine Go.Sl.ow_val rfl rfl (Go.Sl.v_len rfl Try.underlying36 rfl) ?_
  refine Go.Sl.ow_val rfl rfl (Go.Sl.v_add rfl rfl (Go.Sl.nw_i64 (by omega) (by omega))) ?_
  refine Go.Sl.ow_val rfl rfl (Go.Sl.v_eql rfl rfl) ?_
  refine Go.Sl.ow_nil ?_
  refine Go.Sl.xw_then ?_
  refine Go.Sl.cw_dec rfl (fun hc79 => ?_) (fun hc79 => ?_)
  refine Go.Sl.cw_seq ?_
  refine Go.Sl.cw_region ?_
  refine Go.Sl.ow_val rfl rfl (Go.Sl.v_assign rfl) ?_
  refine Go.Sl.ow_nil ?_
  refine Go.Sl.xw_then ?_
  refine Go.Sl.cw_ret ?_
  refine Go.Sl.xw_then_ret ?_
  refine Go.Sl.ret1 rfl (Go.Sl.res_tmp rfl) ?_
  rotate_left
  refine Go.Sl.cw_skip ?_
  refine Go.Sl.xw_then ?_
  rotate_left
  · exact done0 rfl (by first | exact Go.Sl.Cov.refl _ | (intro p; simp only [List.flatten_cons, List.flatten_nil, List.flatten_append, List.append_nil, List.nil_append, Go.Sl.cnt_append, Go.Sl.cnt_cons, Go.Sl.cnt_nil, List.set_cons_zero, List.set_cons_succ, List.length_nil, List.length_cons, Nat.zero_add, List.append]; omega))
  have hlen12 : 0 < e1.length + e2.length := by omega
  have hne12 : (([] ++ e1 ++ e2).map (fun x : FrE => x.m)).map decF ≠ [] := fun h => by
    have h2 := congrArg List.length h
    rw [List.length_map, List.length_map, hn12, List.length_nil] at h2
    omega
  refine Go.Sl.cw_seq ?_
  refine Go.Sl.cw_region ?_
  refine Go.Sl.ow_val rfl rfl (Go.Sl.v_move rfl) ?_
  (refine Go.Sl.ow_call rfl rfl rfl rfl (takeAll_c (l := encs (([] ++ e1 ++ e2).map (fun x : FrE => x.m))) (hq51.vw (by repeat (first | exact Go.Sl.Sub.here | assumption | refine Go.Sl.Sub.there ?_))) (by omega)) ?_; rintro _ _ ⟨x82, rfl, hq82, rfl⟩)
  refine Go.Sl.ow_val rfl rfl (Go.Sl.v_move rfl) ?_
  refine Go.Sl.ow_val rfl rfl (v_extractL rfl rfl) ?_
  refine Go.Sl.ow_val rfl rfl (v_extractL rfl rfl) ?_
  refine Go.Sl.ow_val rfl rfl (Go.Sl.v_assign rfl) ?_
  refine Go.Sl.ow_val rfl rfl (Go.Sl.v_assign rfl) ?_
  refine Go.Sl.ow_nil ?_
  refine Go.Sl.xw_then ?_
  obtain ⟨e3, r3, a3, k3, c3, D3⟩ := x82
  obtain ⟨T3, L3⟩ := hq82
  dsimp only at T3 L3 ⊢
  obtain ⟨h0, hm3⟩ := T3.good T12 hne12
  subst h0
  have hl3 : e3.length = e1.length + e2.length := by
    have h2 := congrArg List.length hm3
    rw [List.length_map, List.length_map, List.length_map, hn12] at h2
    exact h2
  refine Go.Sl.cw_seq ?_
  refine Go.Sl.cw_seq ?_
  refine Go.Sl.cw_region ?_
  refine Go.Sl.ow_val rfl rfl (Go.Sl.v_move rfl) ?_
  refine Go.Sl.ow_val rfl rfl (Go.Sl.v_neq rfl rfl) ?_
  refine Go.Sl.ow_val rfl rfl (Go.Sl.v_move rfl) ?_
  refine Go.Sl.ow_dec 87 rfl (fun hc87 => ?_) (fun hc87 => ?_)
  (exfalso; omega)
  refine Go.Sl.ow_val rfl rfl (Go.Sl.v_move rfl) ?_
  refine Go.Sl.ow_val rfl rfl (Go.Sl.v_len rfl Try.underlying36 rfl) ?_
  refine Go.Sl.ow_val rfl rfl (Go.Sl.v_move rfl) ?_
  refine Go.Sl.ow_val rfl rfl (Go.Sl.v_len rfl Try.underlying36 rfl) ?_
  refine Go.Sl.ow_val rfl rfl (Go.Sl.v_move rfl) ?_
  refine Go.Sl.ow_val rfl rfl (Go.Sl.v_len rfl Try.underlying36 rfl) ?_
  refine Go.Sl.ow_val rfl rfl (Go.Sl.v_add rfl rfl (Go.Sl.nw_i64 (by omega) (by omega))) ?_
  refine Go.Sl.ow_val rfl rfl (Go.Sl.v_neq rfl rfl) ?_
  refine Go.Sl.ow_val rfl rfl (Go.Sl.v_pick_false rfl rfl) ?_
  refine Go.Sl.ow_nil ?_
  refine Go.Sl.xw_then ?_
  refine Go.Sl.cw_dec rfl (fun hc96 => ?_) (fun hc96 => ?_)
  (exfalso; omega)
  refine Go.Sl.cw_skip ?_
  refine Go.Sl.xw_then ?_
  refine Go.Sl.cw_seq ?_
  refine Go.Sl.cw_seq ?_
  refine Go.Sl.cw_region ?_
  refine Go.Sl.ow_val rfl rfl (Go.Sl.v_move rfl) ?_
  refine Go.Sl.ow_val rfl rfl (Go.Sl.v_len rfl Try.underlying36 rfl) ?_
  refine Go.Sl.ow_val rfl rfl (Go.Sl.v_eql rfl rfl) ?_
  refine Go.Sl.ow_nil ?_
  refine Go.Sl.xw_then ?_
  refine Go.Sl.cw_dec rfl (fun hc99 => ?_) (fun hc99 => ?_)
  refine Go.Sl.cw_seq ?_
  refine Go.Sl.cw_region ?_
  refine Go.Sl.ow_val rfl rfl (Go.Sl.v_assign rfl) ?_
  refine Go.Sl.ow_nil ?_
  refine Go.Sl.xw_then ?_
  refine Go.Sl.cw_ret ?_
  refine Go.Sl.xw_then_ret ?_
  refine Go.Sl.ret1 rfl (Go.Sl.res_tmp rfl) ?_
  rotate_left
  refine Go.Sl.cw_skip ?_
  refine Go.Sl.xw_then ?_
  rotate_left
  · exact done0 rfl (by first | exact Go.Sl.Cov.refl _ | (intro p; simp only [List.flatten_cons, List.flatten_nil, List.flatten_append, List.append_nil, List.nil_append, Go.Sl.cnt_append, Go.Sl.cnt_cons, Go.Sl.cnt_nil, List.set_cons_zero, List.set_cons_succ, List.length_nil, List.length_cons, Nat.zero_add, List.append]; omega))
  have hne1 : (e1.map (fun x : FrE => x.m)).map decF ≠ [] := fun h => by
    have h2 := congrArg List.length h
    rw [List.length_map, List.length_map, List.length_nil] at h2
    omega
  refine Go.Sl.cw_seq ?_
  refine Go.Sl.cw_region ?_
  refine Go.Sl.ow_val rfl rfl (Go.Sl.v_move rfl) ?_
  (refine Go.Sl.ow_call rfl rfl rfl rfl (takeAll_c (l := encs (e1.map (fun x : FrE => x.m))) (hq37.vw (by repeat (first | exact Go.Sl.Sub.here | assumption | refine Go.Sl.Sub.there ?_))) (by omega)) ?_; rintro _ _ ⟨x102, rfl, hq102, rfl⟩)
  refine Go.Sl.ow_val rfl rfl (Go.Sl.v_move rfl) ?_
  refine Go.Sl.ow_val rfl rfl (v_extractL rfl rfl) ?_
  refine Go.Sl.ow_val rfl rfl (v_extractL rfl rfl) ?_
  refine Go.Sl.ow_val rfl rfl (Go.Sl.v_assign rfl) ?_
  refine Go.Sl.ow_val rfl rfl (Go.Sl.v_assign rfl) ?_
  refine Go.Sl.ow_nil ?_
  refine Go.Sl.xw_then ?_
  obtain ⟨e4, r4, a4, k4, c4, D4⟩ := x102
  obtain ⟨T4, L4⟩ := hq102
  dsimp only at T4 L4 ⊢
  obtain ⟨h0, hm4⟩ := T4.good T1 hne1
  subst h0
  have hl4 : e4.length = e1.length := by
    have h2 := congrArg List.length hm4
    rw [List.length_map, List.length_map, List.length_map] at h2
    exact h2
  refine Go.Sl.cw_seq ?_
  refine Go.Sl.cw_seq ?_
  refine Go.Sl.cw_region ?_
  refine Go.Sl.ow_val rfl rfl (Go.Sl.v_move rfl) ?_
  refine Go.Sl.ow_val rfl rfl (Go.Sl.v_neq rfl rfl) ?_
  refine Go.Sl.ow_val rfl rfl (Go.Sl.v_move rfl) ?_
  refine Go.Sl.ow_dec 107 rfl (fun hc107 => ?_) (fun hc107 => ?_)
  (exfalso; omega)
  refine Go.Sl.ow_val rfl rfl (Go.Sl.v_move rfl) ?_
  refine Go.Sl.ow_val rfl rfl (Go.Sl.v_len rfl Try.underlying36 rfl) ?_
  refine Go.Sl.ow_val rfl rfl (Go.Sl.v_move rfl) ?_
  refine Go.Sl.ow_val rfl rfl (Go.Sl.v_len rfl Try.underlying36 rfl) ?_
  refine Go.Sl.ow_val rfl rfl (Go.Sl.v_neq rfl rfl) ?_
  refine Go.Sl.ow_val rfl rfl (Go.Sl.v_pick_false rfl rfl) ?_
  refine Go.Sl.ow_nil ?_
  refine Go.Sl.xw_then ?_
  refine Go.Sl.cw_dec rfl (fun hc113 => ?_) (fun hc113 => ?_)
  (exfalso; omega)
  refine Go.Sl.cw_skip ?_
  refine Go.Sl.xw_then ?_
  have hsame : ∀ i (h : i < e4.length) (h' : i < e3.length), (e4[i]).m = (e3[i]).m := by
    intro i h h'
    have h5 : (e4.map (fun x : FrE => x.m))[i]? = (e3.map (fun x : FrE => x.m))[i]? := by
      rw [hm4, hm3, List.nil_append, List.map_append, List.map_append, List.getElem?_append_left (by rw [List.length_map, List.length_map]; omega)]
    rw [List.getElem?_map, List.getElem?_map, List.getElem?_eq_getElem h, List.getElem?_eq_getElem h'] at h5
    simpa using h5
  refine Go.Sl.cw_seq ?_
  refine Go.Sl.cw_seq ?_
  refine Go.Sl.cw_region ?_
  refine Go.Sl.ow_val rfl rfl (Go.Sl.v_move rfl) ?_
  refine Go.Sl.ow_val rfl rfl (Go.Sl.v_len rfl Try.underlying36 rfl) ?_
  refine Go.Sl.ow_val rfl rfl (Go.Sl.v_move rfl) ?_
  refine Go.Sl.ow_nil ?_
  refine Go.Sl.xw_then ?_
  refine Go.Sl.cw_block ?_
  refine cw_cov (c4 :: D4 :: c3 :: D3 :: F) (by first | exact Go.Sl.Cov.refl _ | (intro p; simp only [List.flatten_cons, List.flatten_nil, List.flatten_append, List.append_nil, List.nil_append, Go.Sl.cnt_append, Go.Sl.cnt_cons, Go.Sl.cnt_nil, List.set_cons_zero, List.set_cons_succ, List.length_nil, List.length_cons, Nat.zero_add, List.append]; omega)) ?_
  refine Go.Sl.cw_loop2 (ι := (Nat)) [(14, _), (16, _), (115, _)] ⟨rfl, rfl, rfl, trivial⟩ ((fun j => [(116, .int .i64 j)])) ((fun j => j ≤ e4.length)) ((fun j => e4.length - j)) ((fun _ => c4 :: D4 :: c3 :: D3 :: F)) (0) (by repeat (first | exact True.intro | refine And.intro rfl ?_)) (by first | exact Go.Sl.Cov.refl _ | (intro p; simp only [List.flatten_cons, List.flatten_nil, List.flatten_append, List.append_nil, List.nil_append, Go.Sl.cnt_append, Go.Sl.cnt_cons, Go.Sl.cnt_nil, List.set_cons_zero, List.set_cons_succ, List.length_nil, List.length_cons, Nat.zero_add, List.append]; omega)) ?_ ?_
  · exact Nat.zero_le _
  rintro j hj
  refine Go.Sl.cw_seq ?_
  refine Go.Sl.cw_region ?_
  refine Go.Sl.ow_val rfl rfl (Go.Sl.v_lss rfl rfl) ?_
  refine Go.Sl.ow_nil ?_
  refine Go.Sl.xw_then ?_
  refine Go.Sl.cw_seq ?_
  refine Go.Sl.cw_dec rfl (fun hc117 => ?_) (fun hc117 => ?_)
  refine Go.Sl.cw_skip ?_
  refine Go.Sl.xw_then ?_
  rotate_left
  refine Go.Sl.cw_exit ?_
  refine Go.Sl.xw_then_exit ?_
  refine Go.Sl.xw_round_exit ?_
  refine Go.Sl.xw_block_exit ?_
  refine Go.Sl.xw_then ?_
  refine Go.Sl.cw_seq ?_
  refine Go.Sl.cw_region ?_
  refine Go.Sl.ow_val rfl rfl (Go.Sl.v_assign rfl) ?_
  refine Go.Sl.ow_nil ?_
  refine Go.Sl.xw_then ?_
  refine Go.Sl.cw_ret ?_
  refine Go.Sl.ret1 rfl (Go.Sl.res_tmp rfl) ?_
  rotate_left
  · have hj4 : j < e4.length := by omega
    have hj3 : j < e3.length := by omega
    have ok4 := L4.ok _ (List.getElem_mem hj4)
    have ok3 := L3.ok _ (List.getElem_mem hj3)
    have d4 := T4.deep _ (List.getElem_mem hj4) B w0 (c4 :: D4 :: c3 :: D3 :: F) (by repeat (first | exact Go.Sl.Sub.here | assumption | refine Go.Sl.Sub.there ?_))
    have d3 := T3.deep _ (List.getElem_mem hj3) B w0 (c4 :: D4 :: c3 :: D3 :: F) (by repeat (first | exact Go.Sl.Sub.here | assumption | refine Go.Sl.Sub.there ?_))
    have hs := hsame j hj4 hj3
    have hsf : sameF (e4[j]).m (e3[j]).m = true := sameF_iff.2 hs
    have hrl : (e4[j]).m.rg.length ≤ 9223372036854775807 := by
      have h5 : (e4[j]).m ∈ (e1.map (fun x : FrE => x.m)).map decF := by
        rw [← hm4]
        exact List.mem_map.2 ⟨_, List.getElem_mem hj4, rfl⟩
      obtain ⟨g, _, hg⟩ := List.mem_map.1 h5
      rw [← hg]
      exact Nat.le_trans (take_rg _) (by decide)
    refine Go.Sl.cw_seq ?_
    refine Go.Sl.cw_block ?_
    refine Go.Sl.cw_seq ?_
    refine Go.Sl.cw_region ?_
    refine Go.Sl.ow_val rfl rfl (Go.Sl.v_move rfl) ?_
    refine Go.Sl.ow_val rfl rfl (Go.Sl.v_assign rfl) ?_
    refine Go.Sl.ow_nil ?_
    refine Go.Sl.xw_then ?_
    refine Go.Sl.cw_seq ?_
    refine Go.Sl.cw_quiet Ty.mixed (by decide +kernel) ?_
    refine Go.Sl.kw_val rfl rfl (Go.Sl.v_move rfl) ?_
    refine Go.Sl.kw_val rfl rfl (Go.Sl.v_move rfl) ?_
    refine Go.Sl.kw_val rfl rfl (Go.Sl.v_indexAddr_ls Try.underlying36 (fTy) rfl rfl (by assumption) rfl (by omega)) ?_
    refine Go.Sl.kw_val rfl rfl (Go.Sl.v_load rfl (Go.Sl.Vw.var (fTy) ((L4.vw (by repeat (first | exact Go.Sl.Sub.here | assumption | refine Go.Sl.Sub.there ?_)))) (by omega))) ?_
    refine Go.Sl.kw_val rfl rfl (Go.Sl.v_move rfl) ?_
    refine Go.Sl.kw_val rfl rfl (Go.Sl.v_move rfl) ?_
    refine Go.Sl.kw_val rfl rfl (Go.Sl.v_indexAddr_ls Try.underlying36 (fTy) rfl rfl (by assumption) rfl (by omega)) ?_
    refine Go.Sl.kw_val rfl rfl (Go.Sl.v_load rfl (Go.Sl.Vw.var (fTy) (Go.Sl.Ls.vw (by assumption) (by repeat (first | exact Go.Sl.Sub.here | assumption | refine Go.Sl.Sub.there ?_))) (by omega))) ?_
    refine Go.Sl.kw_val rfl rfl (Go.Sl.v_call rfl rfl (same_c ok4 ok3 d4 d3 hrl)) ?_
    refine Go.Sl.kw_val rfl rfl (Go.Sl.v_not_bool rfl) ?_
    refine Go.Sl.kw_nil ?_
    refine Go.Sl.xw_then ?_
    refine Go.Sl.cw_bool rfl (fun hc128 => ?_) (fun hc128 => ?_)
    refine Go.Sl.cw_seq ?_
    refine Go.Sl.cw_region ?_
    refine Go.Sl.ow_val rfl rfl (Go.Sl.v_assign rfl) ?_
    refine Go.Sl.ow_nil ?_
    refine Go.Sl.xw_then ?_
    refine Go.Sl.cw_ret ?_
    refine Go.Sl.xw_block_ret ?_
    refine Go.Sl.xw_then_ret ?_
    refine Go.Sl.xw_round_ret ?_
    refine Go.Sl.xw_block_ret ?_
    refine Go.Sl.xw_then_ret ?_
    refine Go.Sl.ret1 rfl (Go.Sl.res_tmp rfl) ?_
    rotate_left
    refine Go.Sl.cw_skip ?_
    refine Go.Sl.xw_block ?_
    refine Go.Sl.xw_then ?_
    refine Go.Sl.cw_region ?_
    refine Go.Sl.ow_val rfl rfl (Go.Sl.v_add rfl rfl (Go.Sl.nw_i64 (by omega) (by omega))) ?_
    refine Go.Sl.ow_val rfl rfl (Go.Sl.v_move rfl) ?_
    refine Go.Sl.ow_nil ?_
    rotate_left
    · rw [hsf] at hc128
      exact Bool.noConfusion hc128
    · exact xw_round (j + 1) (by omega) (by omega) (by first | exact Go.Sl.Cov.refl _ | (intro p; simp only [List.flatten_cons, List.flatten_nil, List.flatten_append, List.append_nil, List.nil_append, Go.Sl.cnt_append, Go.Sl.cnt_cons, Go.Sl.cnt_nil, List.set_cons_zero, List.set_cons_succ, List.length_nil, List.length_cons, Nat.zero_add, List.append]; omega)) (by repeat (first | exact True.intro | refine And.intro rfl ?_))
  exact done0 rfl (by first | exact Go.Sl.Cov.refl _ | (intro p; simp only [List.flatten_cons, List.flatten_nil, List.flatten_append, List.append_nil, List.nil_append, Go.Sl.cnt_append, Go.Sl.cnt_cons, Go.Sl.cnt_nil, List.set_cons_zero, List.set_cons_succ, List.length_nil, List.length_cons, Nat.zero_add, List.append]; omega))

theorem walk {H : Type} {enc : TypeId × Value → H} (W : World) (base : Nat) (args : Array Value) (ds : List (DataW H)) (p : List MemPlace)
    (hval : ∀ (j : Nat) t v, Try.f4.params[j]? = some t → args[j]? = some v → Value.okWide Try.prog W .any base t v)
    (hA : DataW.TrodAll enc Try.prog W 0 (fun _ => true) true Try.f4.params.toList args.toList ds p) :
    Calls Try.prog 4 args W fun e w' => e = .returned (.bool true) ∧ Below W.heap.size W w' := by
  rw [Try.params4] at hA hval
  obtain ⟨v0, vs0, d0, ds0, p0, q0, hargs, rfl, rfl, h0, r0⟩ := trodAll_cons hA
  obtain ⟨v1, vs1, d1, ds1, p1, q1, rfl, rfl, rfl, h1, r1⟩ := trodAll_cons r0
  obtain ⟨rfl, rfl, rfl⟩ := trodAll_nil r1
  obtain rfl : args = #[v0, v1] := by cases args; simp_all
  have opens : ∀ {v : Value} {d : DataW H} {p : List MemPlace}, Value.okWide Try.prog W .any base 44 v → DataW.Trod enc Try.prog W 0 (fun _ => true) true 44 v d p → ∃ (l : List SmE) (ao : Option Addr) (cap : Nat), v = .slice ao l.length cap ∧ l.length ≤ 9223372036854775807 ∧ (∀ G, Vw enS (St W.heap.size W G) (.slice ao l.length cap) l) ∧ ∀ G, ∀ s ∈ l, s.In (St W.heap.size W G) := by
    intro v d p hv h
    obtain ⟨ao, len, cap, rfl⟩ := okWide_slice Try.underlying44 hv
    obtain ⟨fu, h2⟩ := h
    obtain ⟨hlc, hm, f, hf, o⟩ := oldSl (size := 72) Try.underlying44 (by kernel_rfl) (by decide) h2 enS.f (fun s => s.ok ∧ ∀ G, s.In (St W.heap.size W G)) (fun fuel cs y h => form_small h)
    unfold maxLen at hm
    have hlen : ((List.range len).map f).length = len := by simp
    refine ⟨(List.range len).map f, ao, cap, by rw [hlen], by omega, fun G => oldVw smTy o (fun i hi => (hf i hi).1) hlc G, fun G s hs => ?_⟩
    obtain ⟨i, hi, rfl⟩ := List.mem_map.1 hs
    exact (hf i (List.mem_range.1 hi)).2 G
  obtain ⟨xs, ao, ca, rfl, hx, hX, hXi⟩ := opens (hval 0 44 v0 rfl rfl) h0
  obtain ⟨ys, bo, cb, rfl, hy, hY, hYi⟩ := opens (hval 1 44 v1 rfl rfl) h1
  exact (law hx hy hX hY hXi hYi []).call

theorem own : ownKnob Try.prog.godebug = none := by kernel_rfl
theorem laidOut : laidOutB Try.prog = true := by kernel_rfl
theorem reads : ∀ t ∈ Try.f4.params.toList, Try.prog.readableRec t = true ∧ t < Try.prog.types.size := by
  rw [Try.params4]
  intro t ht
  simp only [List.mem_cons, List.not_mem_nil, or_false] at ht
  rcases ht with rfl | rfl
  · exact ⟨by kernel_rfl, of_decide_eq_true (by kernel_rfl)⟩
  · exact ⟨by kernel_rfl, of_decide_eq_true (by kernel_rfl)⟩

set_option maxRecDepth 100000 in
theorem lifted (os : Os) (started : os.Started) (H : Type) (enc : TypeId × Value → H) :
    ReturnsInHanded {} Try.checked os 4 .any (Rows.framePartsSpec.pre6 enc Try.prog Try.f4 Rows.framePartsRow.domain false) (Rows.framePartsSpec.post enc Try.prog Try.f4 false true false false) := by
  refine returnsInHanded_of_change (C := Try.checked) own started (by kernel_rfl) Try.func4
    (ChangeSpec.witness6 (enc := enc) (C := Try.checked) false ⟨#[], #[.slice none 0 0, .slice none 0 0], []⟩ 8 (by kernel_rfl) (by kernel_rfl) (by kernel_rfl) (by kernel_rfl)) ?_
  intro W base args ds gs before hval hW _ _
  have hW' := hW
  obtain ⟨p, q, hA0, hV, rfl, _, _⟩ := hW
  obtain ⟨rfl, rfl⟩ := trodVars_none hV
  have hA : DataW.TrodAll enc Try.prog W 0 (fun _ => true) true Try.f4.params.toList args.toList ds p := hA0
  have hlen := trodAll_len hA
  refine (walk W base args ds p hval hA).mono fun e W' ⟨he, bel⟩ => ?_
  subst he
  rw [Try.params4] at hlen
  match ds, hlen.2, hA, hW' with
  | [d0, d1], _, hA, hW' => exact ⟨_, rfl, _, _, _, [], _, [], hW', trodAll_mk1 (shut_bool Try.underlying4 _), trodAll_stays laidOut bel reads hA, rfl, bel.frame _, fun h => by cases h⟩

theorem over : Rows.framePartsRow.holds Try.pinned (OpenSpec.ofChange Rows.framePartsSpec) :=
  OpenClaim.holds_of_wide 4 Try.f4 rfl rfl rfl rfl rfl rfl rfl ⟨rfl, rfl, rfl, rfl, rfl⟩ rfl rfl rfl rfl rfl (by kernel_rfl) Try.func4 (by kernel_rfl)
    (of_decide_eq_true (by kernel_rfl)) (by unfold Func.isWrapper; first | (rw [if_pos (by decide +kernel)]; kernel_rfl) | (rw [if_neg (by decide +kernel)]; exact ⟨rfl, rfl⟩))
    (fun os started H enc _ => lifted os started H enc)

theorem proved : Rows.FramePartsSaid := over

end Go.Proofs.Ytckdhelnafjddaa.lawFrameParts
