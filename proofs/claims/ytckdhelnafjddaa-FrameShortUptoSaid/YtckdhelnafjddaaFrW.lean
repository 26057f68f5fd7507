/- What writes a frame, each as a contract. Conditions: numbers fit their types; lists are short where they are written. -/
import Derived.Test.YtckdhelnafjddaaFr
namespace Go.Proofs.Ytckdhelnafjddaa
open Go Go.Sl Go.Proofs Go.RowKit Go.ChangeShapes Go.WideShapes Go.ChangeAt
set_option maxRecDepth 20000
set_option linter.unusedVariables false
set_option linter.unusedSimpArgs false

def enU : Enc Int := ⟨fun n => [.int .u64 n], 1, fun n => .int .u64 n, fun n => 0 ≤ n ∧ n ≤ 18446744073709551615⟩
theorem uTy : EncTy Try.prog 22 enU := EncTy.scalar Ty.sc22 rfl (fun _ => rfl) (fun _ => rfl)
@[simp] theorem enU_ok (n : Int) : enU.ok n = (0 ≤ n ∧ n ≤ 18446744073709551615) := rfl
theorem wGo_drop {l : List UInt8} {ns : List Int} {j : Nat} (h : j < ns.length) : wGo l (ns.drop j) = if vlen ns[j] = 0 then (l, 2) else wGo (l ++ encV ns[j] (vlen ns[j])) (ns.drop (j + 1)) := by
  rw [List.drop_eq_getElem_cons h, wGo]
set_option maxHeartbeats 4000000 in
theorem wrNums_c {B : Nat} {w0 : World} {G : List Hp} {R : Hp → List Hp} {s : Rs} {ns : List Int} {b n cap2 : Nat} {ao2 : Option Addr} {c : Hp} (hsel : Sel G c R) (hO : WrAt s.1 s.2 b c) (hb : s.1.length ≤ 50000000) (hd : ns.length ≤ 1000000) (hV : ∀ c', Vw enU (St B w0 (R c')) (.slice ao2 n cap2) ns) :
    Go.Sl.Fn Try.prog 87 #[.pointer (some ⟨b, 0, none⟩), .slice ao2 n cap2] B w0 G fun u G' => ∃ c' : Hp, u = .tuple #[] ∧ WrAt (wI s ns).1 (wI s ns).2 b c' ∧ G' = R c' := by
  refine Fn.sel0 hsel fun F hR hF => ?_
  have hnl := (hV c).len
  subst hnl
  have hVF : ∀ x, Vw enU (St B w0 (x :: F)) (.slice ao2 ns.length cap2) ns := fun x => (hV x).mono fun w h => h.perm (hR x).symm
  have hok := (hV c).ok
  obtain ⟨l, e⟩ := s
  dsimp only at hO hb ⊢
  obtain ⟨ao, cap, cd, rfl, hL⟩ := hO
  refine fn_enter Try.func87 rfl (by kernel_rfl) Try.ntmps87 (by simp) ?_
  refine cw_split ?_
  by_cases he : e = 0
  rotate_left
  · have hw : wI (l, e) ns = (l, e) := if_pos he
    rw [hw]
    refine Go.Sl.cw_seq ?_
    refine Go.Sl.cw_seq ?_
    refine Go.Sl.cw_region ?_
    refine Go.Sl.ow_val rfl rfl (Go.Sl.v_move rfl) ?_
    refine Go.Sl.ow_val rfl rfl (Go.Sl.v_eql_nil_some Try.underlying138 rfl) ?_
    refine Go.Sl.ow_val rfl rfl (Go.Sl.v_move rfl) ?_
    refine Go.Sl.ow_val rfl rfl (Go.Sl.v_move rfl) ?_
    refine Go.Sl.ow_val rfl rfl (Go.Sl.v_nilCheck rfl) ?_
    refine Go.Sl.ow_val rfl rfl (Go.Sl.v_fieldAddr0 Ty.fd136_1 rfl) ?_
    refine Go.Sl.ow_val rfl rfl (Go.Sl.v_load rfl (Go.Sl.Var.at1 Ty.sc37 .here (Go.Sl.GetN.lit rfl))) ?_
    refine Go.Sl.ow_val rfl rfl (Go.Sl.v_neq rfl rfl) ?_
    refine Go.Sl.ow_val rfl rfl (Go.Sl.v_pick_false rfl rfl) ?_
    refine Go.Sl.ow_nil ?_
    refine Go.Sl.xw_then ?_
    refine Go.Sl.cw_dec rfl (fun hc15 => ?_) (fun hc15 => ?_)
    rotate_left; (exfalso; omega); rotate_right
    refine Go.Sl.cw_ret ?_
    refine Go.Sl.xw_then_ret ?_
    refine Go.Sl.ret0 rfl ?_
    exact ⟨_, rfl, WrAt.of hL, (by first | exact Go.Sl.Cov.refl _ | (intro p; simp only [List.flatten_cons, List.flatten_nil, List.flatten_append, List.append_nil, List.nil_append, Go.Sl.cnt_append, Go.Sl.cnt_cons, Go.Sl.cnt_nil, List.set_cons_zero, List.set_cons_succ, List.length_nil, List.length_cons, Nat.zero_add, List.append]; omega))⟩
  subst he
  have hw : wI (l, 0) ns = wGo l ns := if_neg (by simp)
  rw [hw]
  refine Go.Sl.cw_seq ?_
  refine Go.Sl.cw_seq ?_
  refine Go.Sl.cw_region ?_
  refine Go.Sl.ow_val rfl rfl (Go.Sl.v_move rfl) ?_
  refine Go.Sl.ow_val rfl rfl (Go.Sl.v_eql_nil_some Try.underlying138 rfl) ?_
  refine Go.Sl.ow_val rfl rfl (Go.Sl.v_move rfl) ?_
  refine Go.Sl.ow_val rfl rfl (Go.Sl.v_move rfl) ?_
  refine Go.Sl.ow_val rfl rfl (Go.Sl.v_nilCheck rfl) ?_
  refine Go.Sl.ow_val rfl rfl (Go.Sl.v_fieldAddr0 Ty.fd136_1 rfl) ?_
  refine Go.Sl.ow_val rfl rfl (Go.Sl.v_load rfl (Go.Sl.Var.at1 Ty.sc37 .here (Go.Sl.GetN.lit rfl))) ?_
  refine Go.Sl.ow_val rfl rfl (Go.Sl.v_neq rfl rfl) ?_
  refine Go.Sl.ow_val rfl rfl (Go.Sl.v_pick_false rfl rfl) ?_
  refine Go.Sl.ow_nil ?_
  refine Go.Sl.xw_then ?_
  refine Go.Sl.cw_false rfl ?_
  refine Go.Sl.cw_skip ?_
  refine Go.Sl.xw_then ?_
  refine Go.Sl.cw_seq ?_
  refine Go.Sl.cw_region ?_
  refine Go.Sl.ow_val rfl rfl (Go.Sl.v_move rfl) ?_
  refine Go.Sl.ow_val rfl rfl (Go.Sl.v_len rfl Try.underlying60 rfl) ?_
  refine Go.Sl.ow_val rfl rfl (Go.Sl.v_move rfl) ?_
  refine Go.Sl.ow_nil ?_
  refine Go.Sl.xw_then ?_
  refine Go.Sl.cw_block ?_
  refine Go.Sl.cw_loop2 (ι := ((Nat × List UInt8 × Option Addr × Nat × Hp))) [(0, _), (16, _), (17, _)] ⟨rfl, rfl, rfl, trivial⟩ ((fun x => [(18, .int .i64 x.1)])) ((fun x => x.1 ≤ ns.length ∧ wGo l ns = wGo x.2.1 (ns.drop x.1) ∧ x.2.1.length ≤ l.length + 8 * x.1 ∧ Ls enB 5 (.slice x.2.2.1 x.2.1.length x.2.2.2.1) x.2.2.2.2 x.2.1)) ((fun x => ns.length - x.1)) ((fun x => [(b, .cells [.slice x.2.2.1 x.2.1.length x.2.2.2.1, .int .i64 0].toArray 136 (0, 0))] :: x.2.2.2.2 :: F)) (((0, l, ao, cap, cd) : Nat × List UInt8 × Option Addr × Nat × Hp)) (by repeat (first | exact True.intro | refine And.intro rfl ?_)) (by first | exact Go.Sl.Cov.refl _ | (intro p; simp only [List.flatten_cons, List.flatten_nil, List.flatten_append, List.append_nil, List.nil_append, Go.Sl.cnt_append, Go.Sl.cnt_cons, Go.Sl.cnt_nil, List.set_cons_zero, List.set_cons_succ, List.length_nil, List.length_cons, Nat.zero_add, List.append]; omega)) ?_ ?_
  · exact ⟨Nat.zero_le _, rfl, by dsimp only; omega, hL⟩
  rintro ⟨j, L, aj, cj, cL⟩ ⟨hj, hE, hLl, hLj⟩
  dsimp only at hj hE hLl hLj ⊢
  refine Go.Sl.cw_seq ?_
  refine Go.Sl.cw_region ?_
  refine Go.Sl.ow_val rfl rfl (Go.Sl.v_lss rfl rfl) ?_
  refine Go.Sl.ow_nil ?_
  refine Go.Sl.xw_then ?_
  refine Go.Sl.cw_seq ?_
  refine Go.Sl.cw_dec rfl (fun hc19 => ?_) (fun hc19 => ?_)
  refine Go.Sl.cw_skip ?_
  refine Go.Sl.xw_then ?_
  rotate_left
  refine Go.Sl.cw_exit ?_
  refine Go.Sl.xw_then_exit ?_
  refine Go.Sl.xw_round_exit ?_
  refine Go.Sl.xw_block_exit ?_
  refine Go.Sl.ret0n rfl ?_
  rotate_left
  · have hj2 : j < ns.length := by omega
    have hoj : 0 ≤ ns[j] ∧ ns[j] ≤ 18446744073709551615 := hok _ (List.getElem_mem hj2)
    rw [wGo_drop hj2] at hE
    have hv := (hVF ([(b, .cells [.slice aj L.length cj, .int .i64 0].toArray 136 (0, 0))] ++ cL)).cov (G' := [(b, .cells [.slice aj L.length cj, .int .i64 0].toArray 136 (0, 0))] :: cL :: F) (by first | exact Go.Sl.Cov.refl _ | (intro p; simp only [List.flatten_cons, List.flatten_nil, List.flatten_append, List.append_nil, List.nil_append, Go.Sl.cnt_append, Go.Sl.cnt_cons, Go.Sl.cnt_nil, List.set_cons_zero, List.set_cons_succ, List.length_nil, List.length_cons, Nat.zero_add, List.append]; omega))
    refine Go.Sl.cw_seq ?_
    refine Go.Sl.cw_block ?_
    refine Go.Sl.cw_seq ?_
    refine Go.Sl.cw_region ?_
    refine Go.Sl.ow_val rfl rfl (Go.Sl.v_indexAddr_vw Try.underlying60 (uTy) rfl rfl (by assumption) rfl (by omega)) ?_
    refine Go.Sl.ow_val rfl rfl (Go.Sl.v_load rfl (Go.Sl.Vw.var (uTy) (hv) (by omega))) ?_
    refine Go.Sl.ow_val rfl rfl (Go.Sl.v_assign rfl) ?_
    refine Go.Sl.ow_nil ?_
    refine Go.Sl.xw_then ?_
    refine Go.Sl.cw_seq ?_
    refine Go.Sl.cw_region ?_
    refine Go.Sl.ow_val rfl rfl (Go.Sl.v_move rfl) ?_
    refine Go.Sl.ow_val rfl rfl (Go.Sl.v_call rfl rfl (vintLen_c)) ?_
    refine Go.Sl.ow_val rfl rfl (Go.Sl.v_assign rfl) ?_
    refine Go.Sl.ow_nil ?_
    refine Go.Sl.xw_then ?_
    refine Go.Sl.cw_seq ?_
    refine Go.Sl.cw_seq ?_
    refine Go.Sl.cw_region ?_
    refine Go.Sl.ow_val rfl rfl (Go.Sl.v_move rfl) ?_
    refine Go.Sl.ow_val rfl rfl (Go.Sl.v_eql rfl rfl) ?_
    refine Go.Sl.ow_nil ?_
    refine Go.Sl.xw_then ?_
    refine Go.Sl.cw_dec rfl (fun hc25 => ?_) (fun hc25 => ?_)
    rotate_left
    refine Go.Sl.cw_skip ?_
    refine Go.Sl.xw_then ?_
    refine Go.Sl.cw_region ?_
    refine Go.Sl.ow_val rfl rfl (Go.Sl.v_move rfl) ?_
    refine Go.Sl.ow_val rfl rfl (Go.Sl.v_move rfl) ?_
    refine Go.Sl.ow_val rfl rfl (Go.Sl.v_nilCheck rfl) ?_
    refine Go.Sl.ow_val rfl rfl (Go.Sl.v_fieldAddr0 Ty.fd136_0 rfl) ?_
    refine Go.Sl.ow_val rfl rfl (Go.Sl.v_load rfl (Go.Sl.Var.at1 Ty.sc23 .here (Go.Sl.GetN.lit rfl))) ?_
    refine Go.Sl.ow_val rfl rfl (Go.Sl.v_move rfl) ?_
    refine Go.Sl.ow_val rfl rfl (Go.Sl.v_move rfl) ?_
    rotate_left
    · have h0 : vlen ns[j] = 0 := by omega
      rw [if_pos h0] at hE
      rw [hE]
      refine Go.Sl.cw_seq ?_
      refine Go.Sl.cw_region ?_
      refine Go.Sl.ow_val rfl rfl (Go.Sl.v_move rfl) ?_
      refine Go.Sl.ow_val rfl rfl (Go.Sl.v_nilCheck rfl) ?_
      refine Go.Sl.ow_val rfl rfl (Go.Sl.v_fieldAddr0 Ty.fd136_1 rfl) ?_
      refine Go.Sl.ow_store1 rfl rfl rfl rfl Ty.sc37 .here (Go.Sl.SetN.one (by first | decide | exact Nat.le_of_ble_eq_true rfl)) ?_
      refine Go.Sl.ow_nil ?_
      refine Go.Sl.xw_then ?_
      refine Go.Sl.cw_ret ?_
      refine Go.Sl.xw_then_ret ?_
      refine Go.Sl.xw_block_ret ?_
      refine Go.Sl.xw_then_ret ?_
      refine Go.Sl.xw_round_ret ?_
      refine Go.Sl.xw_block_ret ?_
      refine Go.Sl.ret0 rfl ?_
      exact ⟨[(b, .cells [.slice aj L.length cj, .int .i64 2].toArray 136 (0, 0))] ++ cL, rfl, WrAt.of hLj, (by first | exact Go.Sl.Cov.refl _ | (intro p; simp only [List.flatten_cons, List.flatten_nil, List.flatten_append, List.append_nil, List.nil_append, Go.Sl.cnt_append, Go.Sl.cnt_cons, Go.Sl.cnt_nil, List.set_cons_zero, List.set_cons_succ, List.length_nil, List.length_cons, Nat.zero_add, List.append]; omega))⟩
    · have h0 : vlen ns[j] ≠ 0 := by omega
      rw [if_neg h0] at hE
      have hv0 := vlen_ok (vlen_lt h0)
      (refine Go.Sl.ow_call rfl rfl rfl rfl (attach_c (by repeat (first | exact Go.Sl.Sel.here | apply Go.Sl.Sel.there)) hLj (by omega) (by omega) hv0) ?_; rintro _ _ ⟨x36, rfl, hq36, rfl⟩)
      refine Go.Sl.ow_val rfl rfl (Go.Sl.v_nilCheck rfl) ?_
      refine Go.Sl.ow_val rfl rfl (Go.Sl.v_fieldAddr0 Ty.fd136_0 rfl) ?_
      refine Go.Sl.ow_store1 rfl rfl rfl rfl Ty.sc23 .here (Go.Sl.SetN.one (by first | decide | exact Nat.le_of_ble_eq_true rfl)) ?_
      refine Go.Sl.ow_nil ?_
      refine Go.Sl.xw_block ?_
      refine Go.Sl.xw_then ?_
      refine Go.Sl.cw_region ?_
      refine Go.Sl.ow_val rfl rfl (Go.Sl.v_add rfl rfl (Go.Sl.nw_i64 (by omega) (by omega))) ?_
      refine Go.Sl.ow_val rfl rfl (Go.Sl.v_move rfl) ?_
      refine Go.Sl.ow_nil ?_
      exact xw_round (j + 1, L ++ encV ns[j] (vlen ns[j]), x36.1, x36.2.1, x36.2.2) ⟨by omega, hE, by dsimp only; rw [List.length_append, encV_len]; omega, hq36⟩ (by dsimp only; omega) (by first | exact Go.Sl.Cov.refl _ | (intro p; simp only [List.flatten_cons, List.flatten_nil, List.flatten_append, List.append_nil, List.nil_append, Go.Sl.cnt_append, Go.Sl.cnt_cons, Go.Sl.cnt_nil, List.set_cons_zero, List.set_cons_succ, List.length_nil, List.length_cons, Nat.zero_add, List.append]; omega)) (by repeat (first | exact True.intro | refine And.intro rfl ?_))
  · have hjn : ns.drop j = [] := List.drop_eq_nil_of_le (by omega)
    rw [hjn] at hE
    rw [hE, show wGo L [] = (L, 0) from rfl]
    exact ⟨[(b, .cells [.slice aj L.length cj, .int .i64 0].toArray 136 (0, 0))] ++ cL, rfl, WrAt.of hLj, (by first | exact Go.Sl.Cov.refl _ | (intro p; simp only [List.flatten_cons, List.flatten_nil, List.flatten_append, List.append_nil, List.nil_append, Go.Sl.cnt_append, Go.Sl.cnt_cons, Go.Sl.cnt_nil, List.set_cons_zero, List.set_cons_succ, List.length_nil, List.length_cons, Nat.zero_add, List.append]; omega))⟩

theorem wrBytesM_c {B : Nat} {w0 : World} {G : List Hp} {R : Hp → List Hp} {s : Rs} {d : List UInt8} {b n cap2 : Nat} {ao2 : Option Addr} {c : Hp} (hsel : Sel G c R) (hO : WrAt s.1 s.2 b c) (hb : s.1.length ≤ 50000000) (hd : d.length ≤ 50000000) (hV : Vw enB (St B w0 G) (.slice ao2 n cap2) d) :
    Go.Sl.Fn Try.prog 90 #[.pointer (some ⟨b, 0, none⟩), .slice ao2 n cap2] B w0 G fun u G' => ∃ c' : Hp, u = .tuple #[] ∧ WrAt (wB s d).1 (wB s d).2 b c' ∧ G' = R c' := by
  have h := wrBytes_c hsel hO (by omega) (by omega) hV
  have e1 : (wB s d).1 = (if s.2 = 0 then s.1 ++ d else s.1) := by unfold wB; split <;> rfl
  have e2 : (wB s d).2 = s.2 := by unfold wB; split <;> rfl
  rw [e1, e2]
  exact h
theorem wr1_c {B : Nat} {w0 : World} {G : List Hp} {R : Hp → List Hp} {s : Rs} {a : Int} {b n cap2 : Nat} {ao2 : Option Addr} {c : Hp} (hsel : Sel G c R) (hO : WrAt s.1 s.2 b c) (hb : s.1.length ≤ 50000000) (hV : ∀ c', Vw enU (St B w0 (R c')) (.slice ao2 n cap2) [a]) :
    Go.Sl.Fn Try.prog 87 #[.pointer (some ⟨b, 0, none⟩), .slice ao2 n cap2] B w0 G fun u G' => ∃ c' : Hp, u = .tuple #[] ∧ WrAt (wI s [a]).1 (wI s [a]).2 b c' ∧ G' = R c' := wrNums_c (ns := [a]) hsel hO hb (by simp) hV
theorem wr2_c {B : Nat} {w0 : World} {G : List Hp} {R : Hp → List Hp} {s : Rs} {a d : Int} {b n cap2 : Nat} {ao2 : Option Addr} {c : Hp} (hsel : Sel G c R) (hO : WrAt s.1 s.2 b c) (hb : s.1.length ≤ 50000000) (hV : ∀ c', Vw enU (St B w0 (R c')) (.slice ao2 n cap2) [a, d]) :
    Go.Sl.Fn Try.prog 87 #[.pointer (some ⟨b, 0, none⟩), .slice ao2 n cap2] B w0 G fun u G' => ∃ c' : Hp, u = .tuple #[] ∧ WrAt (wI s [a, d]).1 (wI s [a, d]).2 b c' ∧ G' = R c' := wrNums_c (ns := [a, d]) hsel hO hb (by simp) hV
theorem wr3_c {B : Nat} {w0 : World} {G : List Hp} {R : Hp → List Hp} {s : Rs} {a d e : Int} {b n cap2 : Nat} {ao2 : Option Addr} {c : Hp} (hsel : Sel G c R) (hO : WrAt s.1 s.2 b c) (hb : s.1.length ≤ 50000000) (hV : ∀ c', Vw enU (St B w0 (R c')) (.slice ao2 n cap2) [a, d, e]) :
    Go.Sl.Fn Try.prog 87 #[.pointer (some ⟨b, 0, none⟩), .slice ao2 n cap2] B w0 G fun u G' => ∃ c' : Hp, u = .tuple #[] ∧ WrAt (wI s [a, d, e]).1 (wI s [a, d, e]).2 b c' ∧ G' = R c' := wrNums_c (ns := [a, d, e]) hsel hO hb (by simp) hV
theorem wr4_c {B : Nat} {w0 : World} {G : List Hp} {R : Hp → List Hp} {s : Rs} {a d e f : Int} {b n cap2 : Nat} {ao2 : Option Addr} {c : Hp} (hsel : Sel G c R) (hO : WrAt s.1 s.2 b c) (hb : s.1.length ≤ 50000000) (hV : ∀ c', Vw enU (St B w0 (R c')) (.slice ao2 n cap2) [a, d, e, f]) :
    Go.Sl.Fn Try.prog 87 #[.pointer (some ⟨b, 0, none⟩), .slice ao2 n cap2] B w0 G fun u G' => ∃ c' : Hp, u = .tuple #[] ∧ WrAt (wI s [a, d, e, f]).1 (wI s [a, d, e, f]).2 b c' ∧ G' = R c' := wrNums_c (ns := [a, d, e, f]) hsel hO hb (by simp) hV
theorem wrLong_c {B : Nat} {w0 : World} {G : List Hp} {R : Hp → List Hp} {s : Rs} {d : List UInt8} {b n cap2 : Nat} {ao2 : Option Addr} {c : Hp} (hsel : Sel G c R) (hO : WrAt s.1 s.2 b c) (hb : s.1.length ≤ 40000000) (hd : d.length ≤ 40000000) (hV : ∀ c', Vw enB (St B w0 (R c')) (.slice ao2 n cap2) d) :
    Go.Sl.Fn Try.prog 89 #[.pointer (some ⟨b, 0, none⟩), .slice ao2 n cap2] B w0 G fun u G' => ∃ c' : Hp, u = .tuple #[] ∧ WrAt (wL s d).1 (wL s d).2 b c' ∧ G' = R c' := by
  refine Fn.sel0 hsel fun F hR hF => ?_
  have hnl := (hV c).len
  subst hnl
  have hVF : ∀ x, Vw enB (St B w0 (x :: F)) (.slice ao2 d.length cap2) d := fun x => (hV x).mono fun w h => h.perm (hR x).symm
  have hle := wI_le (s := s) (ns := [(d.length : Int)])
  simp only [List.length_cons, List.length_nil] at hle
  refine fn_enter Try.func89 rfl (by kernel_rfl) Try.ntmps89 (by simp) ?_
  refine Go.Sl.cw_seq ?_
  refine Go.Sl.cw_region ?_
  refine Go.Sl.ow_val rfl rfl (Go.Sl.v_move rfl) ?_
  refine Go.Sl.ow_val rfl rfl (Go.Sl.v_move rfl) ?_
  refine Go.Sl.ow_val rfl rfl (Go.Sl.v_len rfl Try.underlying23 rfl) ?_
  refine Go.Sl.ow_val rfl rfl (Go.Sl.v_convert Try.underlying3 Try.underlying22 rfl (Go.Sl.nw_u64 (by omega) (by omega))) ?_
  (refine Go.Sl.ow_buildL (es := [((d.length : Int))]) rfl rfl Try.underlying60 Ty.em60 (uTy) rfl rfl (by first | (simp [*]; done) | (repeat (first | exact List.forall_mem_nil _ | refine List.forall_mem_cons.2 ⟨?_, ?_⟩ | assumption | (show _ ∧ _; omega)))) (by simp only [List.length_cons, List.length_nil]; decide) ?_; intro ao8 c8 hL8)
  (refine Go.Sl.ow_call rfl rfl rfl rfl (wr1_c (s := s) (by repeat (first | exact Go.Sl.Sel.here | apply Go.Sl.Sel.there)) hO (by omega) (fun c' => Go.Sl.Ls.vw (by assumption) (by repeat (first | exact Go.Sl.Sub.here | assumption | refine Go.Sl.Sub.there ?_)))) ?_; rintro _ _ ⟨x9, rfl, hq9, rfl⟩)
  refine Go.Sl.ow_nil ?_
  refine Go.Sl.xw_then ?_
  refine Go.Sl.cw_region ?_
  refine Go.Sl.ow_val rfl rfl (Go.Sl.v_move rfl) ?_
  refine Go.Sl.ow_val rfl rfl (Go.Sl.v_move rfl) ?_
  (refine Go.Sl.ow_call rfl rfl rfl rfl (wrBytesM_c (s := wI s [(d.length : Int)]) (by repeat (first | exact Go.Sl.Sel.here | apply Go.Sl.Sel.there)) hq9 (by omega) (by omega) ((hVF x9).cov (by first | exact Go.Sl.Cov.refl _ | (intro p; simp only [List.flatten_cons, List.flatten_nil, List.flatten_append, List.append_nil, List.nil_append, Go.Sl.cnt_append, Go.Sl.cnt_cons, Go.Sl.cnt_nil, List.set_cons_zero, List.set_cons_succ, List.length_nil, List.length_cons, Nat.zero_add, List.append]; omega)))) ?_; rintro _ _ ⟨x12, rfl, hq12, rfl⟩)
  refine Go.Sl.ow_nil ?_
  refine Go.Sl.ret0n rfl ?_
  exact ⟨x12, rfl, hq12, (by first | exact Go.Sl.Cov.refl _ | (intro p; simp only [List.flatten_cons, List.flatten_nil, List.flatten_append, List.append_nil, List.nil_append, Go.Sl.cnt_append, Go.Sl.cnt_cons, Go.Sl.cnt_nil, List.set_cons_zero, List.set_cons_succ, List.length_nil, List.length_cons, Nat.zero_add, List.append]; omega))⟩

/-! ### A frame's own lists -/
theorem Vw.part {B : Nat} {w0 : World} {G : List Hp} {α : Type} {En : Enc α} {b off cap : Nat} {cs pre xs post : List Value} {T : TypeId} {fr : Nat × Nat} {l : List α} (hs : Sub [(b, .cells cs.toArray T fr)] G) (hcs : cs = pre ++ (xs ++ post)) (hoff : off = pre.length) (hx : xs = l.flatMap En.f) (hok : ∀ a ∈ l, En.ok a) (hc : l.length ≤ cap) : Vw En (St B w0 G) (.slice (some ⟨b, off, none⟩) l.length cap) l := by
  subst hcs hoff
  refine ⟨⟨_, _, rfl, hc⟩, hok, fun ao n cap' hv hl => ?_⟩
  injection hv with g1 g2 g3
  subst g1
  refine ⟨rfl, fun i u hu => ?_⟩
  rw [← hx] at hu
  have hi : i < xs.length := (List.getElem?_eq_some_iff.1 hu).1
  refine Cell.sub hs (.head _) ?_
  simp only [oOf_some, List.getElem?_toArray]
  rw [List.getElem?_append_right (by omega), Nat.add_sub_cancel_left, List.getElem?_append_left hi]
  exact hu
theorem fm_u8V (l : List UInt8) : l.map u8V = l.flatMap enB.f := (fm_enB l).symm
def FrM.head (f : FrM) (p : FrP) : List Value := [.int .u8 f.k, .int .u64 f.st, .int .u64 f.off, .int .u64 f.lim, .int .u64 f.cod, .slice p.da f.data.length p.dc, .bool f.fin, .slice p.ra f.rg.length p.rc, .int .u64 f.dl, .int .u64 f.e0, .int .u64 f.e1, .int .u64 f.e2, .int .u64 f.sq, .int .u64 f.pr, .slice p.ia f.id.length p.ic]
theorem tok_vw {B : Nat} {w0 : World} {G : List Hp} {b : Nat} {T : TypeId} {fr : Nat × Nat} {f : FrM} {p : FrP} (hok : f.ok) (hs : Sub [(b, .cells (f.cells p).toArray T fr)] G) : Vw enB (St B w0 G) (.slice (some ⟨b, 15, none⟩) 16 16) f.tok := by
  have h := Vw.part (B := B) (w0 := w0) (En := enB) (off := 15) (cap := 16) (pre := f.head p) (xs := f.tok.map u8V) (post := f.wd.map u8V) (l := f.tok) hs (by simp [FrM.cells, FrM.head, FrM.tail]) rfl (fm_u8V _) (fun _ _ => trivial) (by rw [hok.tok]; exact Nat.le_refl _)
  rw [hok.tok] at h
  exact h
theorem wd_vw {B : Nat} {w0 : World} {G : List Hp} {b : Nat} {T : TypeId} {fr : Nat × Nat} {f : FrM} {p : FrP} (hok : f.ok) (hs : Sub [(b, .cells (f.cells p).toArray T fr)] G) : Vw enB (St B w0 G) (.slice (some ⟨b, 31, none⟩) 8 8) f.wd := by
  have h := Vw.part (B := B) (w0 := w0) (En := enB) (off := 31) (cap := 8) (pre := f.head p ++ f.tok.map u8V) (xs := f.wd.map u8V) (post := []) (l := f.wd) hs (by simp [FrM.cells, FrM.head, FrM.tail]) (by simp [FrM.head, hok.tok]) (fm_u8V _) (fun _ _ => trivial) (by rw [hok.wd]; exact Nat.le_refl _)
  rw [hok.wd] at h
  exact h
theorem ecn_vw {B : Nat} {w0 : World} {G : List Hp} {b : Nat} {T : TypeId} {fr : Nat × Nat} {f : FrM} {p : FrP} (hok : f.ok) (hs : Sub [(b, .cells (f.cells p).toArray T fr)] G) : Vw enU (St B w0 G) (.slice (some ⟨b, 9, none⟩) 3 3) [f.e0, f.e1, f.e2] := by
  have h0 := hok.e0
  have h1 := hok.e1
  have h2 := hok.e2
  exact Vw.part (B := B) (w0 := w0) (En := enU) (off := 9) (cap := 3) (pre := (f.head p).take 9) (xs := [.int .u64 f.e0, .int .u64 f.e1, .int .u64 f.e2]) (post := [.int .u64 f.sq, .int .u64 f.pr, .slice p.ia f.id.length p.ic] ++ f.tail) (l := [f.e0, f.e1, f.e2]) hs rfl rfl rfl (fun a ha => by
    simp only [List.mem_cons, List.not_mem_nil, or_false] at ha
    rcases ha with rfl | rfl | rfl
    · exact h0
    · exact h1
    · exact h2) (Nat.le_refl _)

theorem writeRanges_c {B : Nat} {w0 : World} {G : List Hp} {R : Hp → List Hp} {s : Rs} {f : FrM} {p : FrP} {b : Nat} {c : Hp} (hsel : Sel G c R) (hO : WrAt s.1 s.2 b c) (hb : s.1.length ≤ 100000) (hok : f.ok) (hc : RgUp f.rg) (hV : ∀ c', FrIn (St B w0 (R c')) f p) :
    Go.Sl.Fn Try.prog 88 #[.agg (f.cells p).toArray, .pointer (some ⟨b, 0, none⟩)] B w0 G fun u G' => ∃ c' : Hp, u = .tuple #[] ∧ WrAt (wAck s f).1 (wAck s f).2 b c' ∧ G' = R c' := by
  refine Fn.sel0 hsel fun F hR hF => ?_
  have hVF : ∀ x, FrIn (St B w0 (x :: F)) f p := fun x => (hV x).mono fun w h => h.perm (hR x).symm
  have hpos := hc.pos
  have hlen := hc.len
  have hdl := hok.dl
  unfold inU at hdl
  have hlast : ((f.rg.length : Int) - 1).toNat < f.rg.length := by omega
  have hrl : 0 ≤ (f.rg[((f.rg.length : Int) - 1).toNat]).a ∧ (f.rg[((f.rg.length : Int) - 1).toNat]).a < (f.rg[((f.rg.length : Int) - 1).toNat]).b ∧ (f.rg[((f.rg.length : Int) - 1).toNat]).b ≤ 18446744073709551615 := ⟨(hok.rg _ (List.getElem_mem hlast)).1.1, hc.lt _ hlast, (hok.rg _ (List.getElem_mem hlast)).2.2⟩
  have hcell := one2 _ (hok.rg _ (List.getElem_mem hlast))
  have hrow : ∀ r, r + 1 < f.rg.length → (f.rg.take (r + 1)).reverse = f.rg[r]! :: (f.rg.take r).reverse := by
    intro r hr
    rw [List.take_succ_eq_append_getElem (by omega), List.reverse_append, getElem!_pos f.rg r (by omega)]
    rfl
  have hack : wAck s f = wRg (wI s [(f.rg[((f.rg.length : Int) - 1).toNat]).b - 1, f.dl, ((f.rg.length : Int) - 1), (f.rg[((f.rg.length : Int) - 1).toNat]).b - (f.rg[((f.rg.length : Int) - 1).toNat]).a - 1]) (f.rg[((f.rg.length : Int) - 1).toNat]) (f.rg.take (f.rg.length - 1)).reverse := by
    have h1 : f.rg.reverse = f.rg[((f.rg.length : Int) - 1).toNat] :: (f.rg.take (f.rg.length - 1)).reverse := by
      have e : ((f.rg.length : Int) - 1).toNat = f.rg.length - 1 := by omega
      simp only [e]
      have h2 := List.take_succ_eq_append_getElem (l := f.rg) (i := f.rg.length - 1) (by omega)
      rw [List.take_of_length_le (by omega)] at h2
      have h3 := congrArg List.reverse h2
      rw [List.reverse_append] at h3
      exact h3
    unfold wAck
    rw [h1]
  generalize htop : f.rg[((f.rg.length : Int) - 1).toNat] = top at *
  rw [hack]
  refine fn_enter Try.func88 rfl (by kernel_rfl) Try.ntmps88 (by simp) ?_
  refine Go.Sl.cw_seq ?_
  refine Go.Sl.cw_region ?_
  (refine Go.Sl.ow_box rfl rfl rfl rfl ?_; intro b2)
  refine Go.Sl.ow_nil ?_
  refine Go.Sl.xw_then ?_
  refine Go.Sl.cw_seq ?_
  refine Go.Sl.cw_region ?_
  refine Go.Sl.ow_val rfl rfl (Go.Sl.v_fieldAddr0 Ty.fd30_7 rfl) ?_
  refine Go.Sl.ow_val rfl rfl (Go.Sl.v_load rfl (Go.Sl.Var.at1 Ty.sc27 .here (Go.Sl.GetN.lit rfl))) ?_
  refine Go.Sl.ow_val rfl rfl (Go.Sl.v_len rfl Try.underlying27 rfl) ?_
  refine Go.Sl.ow_val rfl rfl (Go.Sl.v_sub rfl rfl (Go.Sl.nw_i64 (by omega) (by omega))) ?_
  refine Go.Sl.ow_val rfl rfl (Go.Sl.v_assign rfl) ?_
  refine Go.Sl.ow_nil ?_
  refine Go.Sl.xw_then ?_
  refine Go.Sl.cw_seq ?_
  refine Go.Sl.cw_region ?_
  refine Go.Sl.ow_val rfl rfl (Go.Sl.v_fieldAddr0 Ty.fd30_7 rfl) ?_
  refine Go.Sl.ow_val rfl rfl (Go.Sl.v_load rfl (Go.Sl.Var.at1 Ty.sc27 .here (Go.Sl.GetN.lit rfl))) ?_
  refine Go.Sl.ow_val rfl rfl (Go.Sl.v_move rfl) ?_
  refine Go.Sl.ow_val rfl rfl (Go.Sl.v_indexAddr_vw Try.underlying27 (rTy) rfl rfl ((hVF c).r.cov (by first | exact Go.Sl.Cov.refl _ | (intro p; simp only [List.flatten_cons, List.flatten_nil, List.flatten_append, List.append_nil, List.nil_append, Go.Sl.cnt_append, Go.Sl.cnt_cons, Go.Sl.cnt_nil, List.set_cons_zero, List.set_cons_succ, List.length_nil, List.length_cons, Nat.zero_add, List.append]; omega))) (Int.toNat_of_nonneg (by omega)).symm (by omega)) ?_
  refine Go.Sl.ow_val rfl rfl (Go.Sl.v_load rfl (Go.Sl.Vw.var (rTy) ((hVF c).r.cov (by first | exact Go.Sl.Cov.refl _ | (intro p; simp only [List.flatten_cons, List.flatten_nil, List.flatten_append, List.append_nil, List.nil_append, Go.Sl.cnt_append, Go.Sl.cnt_cons, Go.Sl.cnt_nil, List.set_cons_zero, List.set_cons_succ, List.length_nil, List.length_cons, Nat.zero_add, List.append]; omega))) (by omega))) ?_
  (refine Go.Sl.ow_alloc rfl rfl Ty.ze102 ?_; intro b5)
  refine Go.Sl.ow_storeE rfl (rTy) rfl rfl .here (by first | rfl | assumption) (hok.rg _ (List.getElem_mem hlast)) ?_
  refine Go.Sl.ow_nil ?_
  refine Go.Sl.xw_then ?_
  rw [htop]
  refine Go.Sl.cw_seq ?_
  refine Go.Sl.cw_region ?_
  refine Go.Sl.ow_val rfl rfl (Go.Sl.v_move rfl) ?_
  refine Go.Sl.ow_val rfl rfl (Go.Sl.v_fieldAddr0 Ty.fd102_1 rfl) ?_
  refine Go.Sl.ow_val rfl rfl (Go.Sl.v_load rfl (Go.Sl.Var.at1 Ty.sc22 .here (Go.Sl.GetN.lit rfl))) ?_
  refine Go.Sl.ow_val rfl rfl (Go.Sl.v_sub rfl rfl (Go.Sl.nw_u64 (by omega) (by omega))) ?_
  refine Go.Sl.ow_val rfl rfl (Go.Sl.v_fieldAddr0 Ty.fd30_8 rfl) ?_
  refine Go.Sl.ow_val rfl rfl (Go.Sl.v_load rfl (Go.Sl.Var.at1 Ty.sc22 (.there .here) (Go.Sl.GetN.lit rfl))) ?_
  refine Go.Sl.ow_val rfl rfl (Go.Sl.v_move rfl) ?_
  refine Go.Sl.ow_val rfl rfl (Go.Sl.v_convert Try.underlying3 Try.underlying22 rfl (Go.Sl.nw_u64 (by omega) (by omega))) ?_
  refine Go.Sl.ow_val rfl rfl (Go.Sl.v_fieldAddr0 Ty.fd102_1 rfl) ?_
  refine Go.Sl.ow_val rfl rfl (Go.Sl.v_load rfl (Go.Sl.Var.at1 Ty.sc22 .here (Go.Sl.GetN.lit rfl))) ?_
  refine Go.Sl.ow_val rfl rfl (Go.Sl.v_fieldAddr0 Ty.fd102_0 rfl) ?_
  refine Go.Sl.ow_val rfl rfl (Go.Sl.v_load rfl (Go.Sl.Var.at1 Ty.sc22 .here (Go.Sl.GetN.lit rfl))) ?_
  refine Go.Sl.ow_val rfl rfl (Go.Sl.v_sub rfl rfl (Go.Sl.nw_u64 (by omega) (by omega))) ?_
  refine Go.Sl.ow_val rfl rfl (Go.Sl.v_sub rfl rfl (Go.Sl.nw_u64 (by omega) (by omega))) ?_
  (refine Go.Sl.ow_buildL (es := ([top.b - 1, f.dl, ((f.rg.length : Int) - 1), top.b - top.a - 1])) rfl rfl Try.underlying60 Ty.em60 (uTy) rfl rfl (by first | (simp [*]; done) | (repeat (first | exact List.forall_mem_nil _ | refine List.forall_mem_cons.2 ⟨?_, ?_⟩ | assumption | (show _ ∧ _; omega)))) (by simp only [List.length_cons, List.length_nil]; decide) ?_; intro ao31 c31 hL31)
  (refine Go.Sl.ow_call rfl rfl rfl rfl (wr4_c (s := s) (by repeat (first | exact Go.Sl.Sel.here | apply Go.Sl.Sel.there)) hO (by omega) (fun c' => Go.Sl.Ls.vw (by assumption) (by repeat (first | exact Go.Sl.Sub.here | assumption | refine Go.Sl.Sub.there ?_)))) ?_; rintro _ _ ⟨x32, rfl, hq32, rfl⟩)
  refine Go.Sl.ow_nil ?_
  refine Go.Sl.xw_then ?_
  refine Go.Sl.cw_seq ?_
  refine Go.Sl.cw_region ?_
  refine Go.Sl.ow_val rfl rfl (Go.Sl.v_move rfl) ?_
  refine Go.Sl.ow_val rfl rfl (Go.Sl.v_sub rfl rfl (Go.Sl.nw_i64 (by omega) (by omega))) ?_
  refine Go.Sl.ow_val rfl rfl (Go.Sl.v_assign rfl) ?_
  refine Go.Sl.ow_nil ?_
  refine Go.Sl.xw_then ?_
  refine Go.Sl.cw_block ?_
  have htop2 : top = f.rg[f.rg.length - 1]! := by
    rw [getElem!_pos f.rg (f.rg.length - 1) (by omega), ← htop]
    congr 1
    omega
  have hs0 := wI_le (s := s) (ns := [top.b - 1, f.dl, ((f.rg.length : Int) - 1), top.b - top.a - 1])
  simp only [List.length_cons, List.length_nil] at hs0
  have e0 : ((f.rg.length : Int) - 1 - 1) = (((f.rg.length - 1 : Nat) : Int) - 1) := by omega
  rw [e0]
  generalize hS : wI s [top.b - 1, f.dl, ((f.rg.length : Int) - 1), top.b - top.a - 1] = S at *
  refine Go.Sl.cw_loop2 (ι := ((Nat × Rs × Hp))) [(0, _), (1, _), (2, _)] ⟨rfl, rfl, rfl, trivial⟩ ((fun x => [(6, .int .i64 ((x.1 : Int) - 1))])) ((fun x => x.1 ≤ f.rg.length - 1 ∧ x.2.1.1.length ≤ 100040 + 16 * (f.rg.length - 1 - x.1) ∧ wRg S top (f.rg.take (f.rg.length - 1)).reverse = wRg x.2.1 f.rg[x.1]! (f.rg.take x.1).reverse ∧ WrAt x.2.1.1 x.2.1.2 b x.2.2)) ((fun x => x.1)) ((fun x => [(b2, .cells (f.cells p).toArray 30 (0, 0))] :: x.2.2 :: F)) (((f.rg.length - 1, S, x32) : Nat × Rs × Hp)) (by repeat (first | exact True.intro | refine And.intro rfl ?_)) (by first | exact Go.Sl.Cov.refl _ | (intro p; simp only [List.flatten_cons, List.flatten_nil, List.flatten_append, List.append_nil, List.nil_append, Go.Sl.cnt_append, Go.Sl.cnt_cons, Go.Sl.cnt_nil, List.set_cons_zero, List.set_cons_succ, List.length_nil, List.length_cons, Nat.zero_add, List.append]; omega)) ?_ ?_
  · exact ⟨Nat.le_refl _, by dsimp only; omega, by rw [← htop2], hq32⟩
  rintro ⟨r, s1, c1⟩ ⟨hr, hs1, hE, hO1⟩
  dsimp only at hr hs1 hE hO1 ⊢
  refine Go.Sl.cw_seq ?_
  refine Go.Sl.cw_seq ?_
  refine Go.Sl.cw_region ?_
  refine Go.Sl.ow_val rfl rfl (Go.Sl.v_move rfl) ?_
  refine Go.Sl.ow_val rfl rfl (Go.Sl.v_geq rfl rfl) ?_
  refine Go.Sl.ow_nil ?_
  refine Go.Sl.xw_then ?_
  refine Go.Sl.cw_dec rfl (fun hc36 => ?_) (fun hc36 => ?_)
  refine Go.Sl.cw_skip ?_
  refine Go.Sl.xw_then ?_
  rotate_left
  refine Go.Sl.cw_exit ?_
  refine Go.Sl.xw_then_exit ?_
  refine Go.Sl.xw_round_exit ?_
  refine Go.Sl.xw_block_exit ?_
  refine Go.Sl.ret0n rfl ?_
  rotate_left
  · have e1 : ((r : Int) - 1).toNat < f.rg.length := by omega
    have e2 : ((r : Int) - 1 + 1).toNat < f.rg.length := by omega
    have i1 := hok.rg _ (List.getElem_mem e1)
    have i2 := hok.rg _ (List.getElem_mem e2)
    have l1 := hc.lt _ e1
    have l2 := hc.lt _ e2
    have l3 : (f.rg[((r : Int) - 1).toNat]).b < (f.rg[((r : Int) - 1 + 1).toNat]).a := by
      have h := hc.up ((r : Int) - 1).toNat (by omega)
      have e : ((r : Int) - 1 + 1).toNat = ((r : Int) - 1).toNat + 1 := by omega
      simp only [e]
      exact h
    obtain ⟨⟨i11, i12⟩, ⟨i13, i14⟩⟩ := i1
    obtain ⟨⟨i21, i22⟩, ⟨i23, i24⟩⟩ := i2
    have hcell1 := one2 _ (hok.rg _ (List.getElem_mem e1))
    have hstep : wRg S top (f.rg.take (f.rg.length - 1)).reverse = wRg (wI s1 [(f.rg[((r : Int) - 1 + 1).toNat]).a - (f.rg[((r : Int) - 1).toNat]).b - 1, (f.rg[((r : Int) - 1).toNat]).b - (f.rg[((r : Int) - 1).toNat]).a - 1]) f.rg[r - 1]! (f.rg.take (r - 1)).reverse := by
      have e : ((r : Int) - 1 + 1).toNat = r := by omega
      have e' : ((r : Int) - 1).toNat = r - 1 := by omega
      obtain ⟨q, rfl⟩ : ∃ q, r = q + 1 := ⟨r - 1, by omega⟩
      rw [hE, hrow q (by omega)]
      simp only [e, e', Nat.add_sub_cancel]
      rw [wRg, getElem!_pos f.rg (q + 1) (by omega), getElem!_pos f.rg q (by omega)]
    have hsl := wI_le (s := s1) (ns := [(f.rg[((r : Int) - 1 + 1).toNat]).a - (f.rg[((r : Int) - 1).toNat]).b - 1, (f.rg[((r : Int) - 1).toNat]).b - (f.rg[((r : Int) - 1).toNat]).a - 1])
    simp only [List.length_cons, List.length_nil] at hsl
    refine Go.Sl.cw_seq ?_
    refine Go.Sl.cw_block ?_
    refine Go.Sl.cw_seq ?_
    refine Go.Sl.cw_region ?_
    refine Go.Sl.ow_val rfl rfl (Go.Sl.v_fieldAddr0 Ty.fd30_7 rfl) ?_
    refine Go.Sl.ow_val rfl rfl (Go.Sl.v_load rfl (Go.Sl.Var.at1 Ty.sc27 .here (Go.Sl.GetN.lit rfl))) ?_
    refine Go.Sl.ow_val rfl rfl (Go.Sl.v_move rfl) ?_
    refine Go.Sl.ow_val rfl rfl (Go.Sl.v_indexAddr_vw Try.underlying27 (rTy) rfl rfl ((hVF c1).r.cov (by first | exact Go.Sl.Cov.refl _ | (intro p; simp only [List.flatten_cons, List.flatten_nil, List.flatten_append, List.append_nil, List.nil_append, Go.Sl.cnt_append, Go.Sl.cnt_cons, Go.Sl.cnt_nil, List.set_cons_zero, List.set_cons_succ, List.length_nil, List.length_cons, Nat.zero_add, List.append]; omega))) (Int.toNat_of_nonneg (by omega)).symm (by omega)) ?_
    refine Go.Sl.ow_val rfl rfl (Go.Sl.v_load rfl (Go.Sl.Vw.var (rTy) ((hVF c1).r.cov (by first | exact Go.Sl.Cov.refl _ | (intro p; simp only [List.flatten_cons, List.flatten_nil, List.flatten_append, List.append_nil, List.nil_append, Go.Sl.cnt_append, Go.Sl.cnt_cons, Go.Sl.cnt_nil, List.set_cons_zero, List.set_cons_succ, List.length_nil, List.length_cons, Nat.zero_add, List.append]; omega))) (by omega))) ?_
    (refine Go.Sl.ow_alloc rfl rfl Ty.ze102 ?_; intro b7)
    refine Go.Sl.ow_storeE rfl (rTy) rfl rfl .here (by first | rfl | assumption) (hok.rg _ (List.getElem_mem e1)) ?_
    refine Go.Sl.ow_nil ?_
    refine Go.Sl.xw_then ?_
    refine Go.Sl.cw_mix [18] [19] [0, 1, 2, 3, 4, 5, 6, 7, 8, 9, 10, 11, 12, 13, 14, 15, 16, 17] Ty.mixed rfl rfl rfl rfl (by decide +kernel) ?_
    refine Go.Sl.hw_pure rfl rfl (Go.Sl.v_move rfl) rfl ?_
    refine Go.Sl.hw_pure rfl rfl (Go.Sl.v_fieldAddr0 Ty.fd30_7 rfl) rfl ?_
    refine Go.Sl.hw_read rfl rfl rfl (Go.Sl.v_load rfl (Go.Sl.Var.at1 Ty.sc27 (.there .here) (Go.Sl.GetN.lit rfl))) ?_
    refine Go.Sl.hw_pure rfl rfl (Go.Sl.v_move rfl) rfl ?_
    refine Go.Sl.hw_pure rfl rfl (Go.Sl.v_add rfl rfl (Go.Sl.nw_i64 (by omega) (by omega))) rfl ?_
    refine Go.Sl.hw_pure rfl rfl (Go.Sl.v_indexAddr_vw Try.underlying27 (rTy) rfl rfl ((hVF c1).r.cov (by first | exact Go.Sl.Cov.refl _ | (intro p; simp only [List.flatten_cons, List.flatten_nil, List.flatten_append, List.append_nil, List.nil_append, Go.Sl.cnt_append, Go.Sl.cnt_cons, Go.Sl.cnt_nil, List.set_cons_zero, List.set_cons_succ, List.length_nil, List.length_cons, Nat.zero_add, List.append]; omega))) (Int.toNat_of_nonneg (by omega)).symm (by omega)) rfl ?_
    refine Go.Sl.hw_pure rfl rfl (Go.Sl.v_fieldAddr Ty.fd102_0 rfl) rfl ?_
    refine Go.Sl.hw_read rfl rfl rfl (Go.Sl.v_load rfl (Go.Sl.Vw.fld1 (rTy) Ty.sc22 ((hVF c1).r.cov (by first | exact Go.Sl.Cov.refl _ | (intro p; simp only [List.flatten_cons, List.flatten_nil, List.flatten_append, List.append_nil, List.nil_append, Go.Sl.cnt_append, Go.Sl.cnt_cons, Go.Sl.cnt_nil, List.set_cons_zero, List.set_cons_succ, List.length_nil, List.length_cons, Nat.zero_add, List.append]; omega))) (by omega) rfl)) ?_
    refine Go.Sl.hw_pure rfl rfl (Go.Sl.v_fieldAddr0 Ty.fd102_1 rfl) rfl ?_
    refine Go.Sl.hw_read rfl rfl rfl (Go.Sl.v_load rfl (Go.Sl.Var.at1 Ty.sc22 .here (Go.Sl.GetN.lit rfl))) ?_
    refine Go.Sl.hw_pure rfl rfl (Go.Sl.v_sub rfl rfl (Go.Sl.nw_u64 (by omega) (by omega))) rfl ?_
    refine Go.Sl.hw_pure rfl rfl (Go.Sl.v_sub rfl rfl (Go.Sl.nw_u64 (by omega) (by omega))) rfl ?_
    refine Go.Sl.hw_pure rfl rfl (Go.Sl.v_fieldAddr0 Ty.fd102_1 rfl) rfl ?_
    refine Go.Sl.hw_read rfl rfl rfl (Go.Sl.v_load rfl (Go.Sl.Var.at1 Ty.sc22 .here (Go.Sl.GetN.lit rfl))) ?_
    refine Go.Sl.hw_pure rfl rfl (Go.Sl.v_fieldAddr0 Ty.fd102_0 rfl) rfl ?_
    refine Go.Sl.hw_read rfl rfl rfl (Go.Sl.v_load rfl (Go.Sl.Var.at1 Ty.sc22 .here (Go.Sl.GetN.lit rfl))) ?_
    refine Go.Sl.hw_pure rfl rfl (Go.Sl.v_sub rfl rfl (Go.Sl.nw_u64 (by omega) (by omega))) rfl ?_
    refine Go.Sl.hw_pure rfl rfl (Go.Sl.v_sub rfl rfl (Go.Sl.nw_u64 (by omega) (by omega))) rfl ?_
    refine Go.Sl.hw_nil ?_
    (refine Go.Sl.sw_buildL (es := ([(f.rg[((r : Int) - 1 + 1).toNat]).a - (f.rg[((r : Int) - 1).toNat]).b - 1, (f.rg[((r : Int) - 1).toNat]).b - (f.rg[((r : Int) - 1).toNat]).a - 1])) rfl rfl Try.underlying60 Ty.em60 (uTy) rfl rfl (by first | (simp [*]; done) | (repeat (first | exact List.forall_mem_nil _ | refine List.forall_mem_cons.2 ⟨?_, ?_⟩ | assumption | (show _ ∧ _; omega)))) (by simp only [List.length_cons, List.length_nil]; decide) ?_; intro ao62 c62 hL62)
    refine Go.Sl.sw_nil ?_
    (refine Go.Sl.ow_call rfl rfl rfl rfl (wr2_c (s := s1) (by repeat (first | exact Go.Sl.Sel.here | apply Go.Sl.Sel.there)) hO1 (by omega) (fun c' => Go.Sl.Ls.vw (by assumption) (by repeat (first | exact Go.Sl.Sub.here | assumption | refine Go.Sl.Sub.there ?_)))) ?_; rintro _ _ ⟨x63, rfl, hq63, rfl⟩)
    refine Go.Sl.ow_nil ?_
    refine Go.Sl.xw_np ?_
    refine Go.Sl.xw_block ?_
    refine Go.Sl.xw_then ?_
    refine Go.Sl.cw_region ?_
    refine Go.Sl.ow_val rfl rfl (Go.Sl.v_move rfl) ?_
    refine Go.Sl.ow_val rfl rfl (Go.Sl.v_sub rfl rfl (Go.Sl.nw_i64 (by omega) (by omega))) ?_
    refine Go.Sl.ow_val rfl rfl (Go.Sl.v_assign rfl) ?_
    refine Go.Sl.ow_nil ?_
    exact xw_round ((r - 1, wI s1 [(f.rg[((r : Int) - 1 + 1).toNat]).a - (f.rg[((r : Int) - 1).toNat]).b - 1, (f.rg[((r : Int) - 1).toNat]).b - (f.rg[((r : Int) - 1).toNat]).a - 1], x63) : Nat × Rs × Hp) ⟨by dsimp only; omega, by dsimp only; omega, hstep, hq63⟩ (by dsimp only; omega) (by first | exact Go.Sl.Cov.refl _ | (intro p; simp only [List.flatten_cons, List.flatten_nil, List.flatten_append, List.append_nil, List.nil_append, Go.Sl.cnt_append, Go.Sl.cnt_cons, Go.Sl.cnt_nil, List.set_cons_zero, List.set_cons_succ, List.length_nil, List.length_cons, Nat.zero_add, List.append]; omega)) ⟨congrArg (fun z => some (Value.int .i64 z)) (by show (r : Int) - 1 - 1 = (((r - 1 : Nat) : Int) - 1); omega), (by repeat (first | exact True.intro | refine And.intro rfl ?_))⟩
  · have hr0 : r = 0 := by omega
    subst hr0
    have hE2 : wRg S top (f.rg.take (f.rg.length - 1)).reverse = s1 := hE
    rw [hE2]
    exact ⟨c1, rfl, hO1, (by first | exact Go.Sl.Cov.refl _ | (intro p; simp only [List.flatten_cons, List.flatten_nil, List.flatten_append, List.append_nil, List.nil_append, Go.Sl.cnt_append, Go.Sl.cnt_cons, Go.Sl.cnt_nil, List.set_cons_zero, List.set_cons_succ, List.length_nil, List.length_cons, Nat.zero_add, List.append]; omega))⟩
end Go.Proofs.Ytckdhelnafjddaa
