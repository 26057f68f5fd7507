/- A frame written whole; all kinds. Conditions: numbers fit their types. -/
import Derived.Test.YtckdhelnafjddaaFrW
namespace Go.Proofs.Ytckdhelnafjddaa
open Go Go.Sl Go.Proofs Go.RowKit Go.ChangeShapes Go.WideShapes Go.ChangeAt
set_option maxRecDepth 20000
set_option linter.unusedVariables false
set_option linter.unusedSimpArgs false

theorem wBody_2 {s : Rs} {f : FrM} (h : f.k = 2) : wBody s f = wAck s f := by unfold wBody; rw [show f.k.toNat = 2 from by omega]; rfl
theorem wBody_3 {s : Rs} {f : FrM} (h : f.k = 3) : wBody s f = wI (wAck s f) [f.e0, f.e1, f.e2] := by unfold wBody; rw [show f.k.toNat = 3 from by omega]; rfl
theorem wBody_4 {s : Rs} {f : FrM} (h : f.k = 4) : wBody s f = wI s [f.st, f.cod, f.lim] := by unfold wBody; rw [show f.k.toNat = 4 from by omega]; rfl
theorem wBody_5 {s : Rs} {f : FrM} (h : f.k = 5) : wBody s f = wI s [f.st, f.cod] := by unfold wBody; rw [show f.k.toNat = 5 from by omega]; rfl
theorem wBody_6 {s : Rs} {f : FrM} (h : f.k = 6) : wBody s f = wL (wI s [f.off]) f.data := by unfold wBody; rw [show f.k.toNat = 6 from by omega]; rfl
theorem wBody_7 {s : Rs} {f : FrM} (h : f.k = 7) : wBody s f = wL s f.data := by unfold wBody; rw [show f.k.toNat = 7 from by omega]; rfl
theorem wBody_8 {s : Rs} {f : FrM} (h : f.k = 8) : wBody s f = wL (wI s [f.st, f.off]) f.data := by unfold wBody; rw [show f.k.toNat = 8 from by omega]; rfl
theorem wBody_16 {s : Rs} {f : FrM} (h : f.k = 16) : wBody s f = wI s [f.lim] := by unfold wBody; rw [show f.k.toNat = 16 from by omega]; rfl
theorem wBody_18 {s : Rs} {f : FrM} (h : f.k = 18) : wBody s f = wI s [f.lim] := by unfold wBody; rw [show f.k.toNat = 18 from by omega]; rfl
theorem wBody_19 {s : Rs} {f : FrM} (h : f.k = 19) : wBody s f = wI s [f.lim] := by unfold wBody; rw [show f.k.toNat = 19 from by omega]; rfl
theorem wBody_20 {s : Rs} {f : FrM} (h : f.k = 20) : wBody s f = wI s [f.lim] := by unfold wBody; rw [show f.k.toNat = 20 from by omega]; rfl
theorem wBody_22 {s : Rs} {f : FrM} (h : f.k = 22) : wBody s f = wI s [f.lim] := by unfold wBody; rw [show f.k.toNat = 22 from by omega]; rfl
theorem wBody_23 {s : Rs} {f : FrM} (h : f.k = 23) : wBody s f = wI s [f.lim] := by unfold wBody; rw [show f.k.toNat = 23 from by omega]; rfl
theorem wBody_17 {s : Rs} {f : FrM} (h : f.k = 17) : wBody s f = wI s [f.st, f.lim] := by unfold wBody; rw [show f.k.toNat = 17 from by omega]; rfl
theorem wBody_21 {s : Rs} {f : FrM} (h : f.k = 21) : wBody s f = wI s [f.st, f.lim] := by unfold wBody; rw [show f.k.toNat = 21 from by omega]; rfl
theorem wBody_24 {s : Rs} {f : FrM} (h : f.k = 24) : wBody s f = wB (wB (wB (wI s [f.sq, f.pr]) [toB (f.id.length : Int)]) f.id) f.tok := by unfold wBody; rw [show f.k.toNat = 24 from by omega]; rfl
theorem wBody_25 {s : Rs} {f : FrM} (h : f.k = 25) : wBody s f = wI s [f.sq] := by unfold wBody; rw [show f.k.toNat = 25 from by omega]; rfl
theorem wBody_26 {s : Rs} {f : FrM} (h : f.k = 26) : wBody s f = wB s f.wd := by unfold wBody; rw [show f.k.toNat = 26 from by omega]; rfl
theorem wBody_27 {s : Rs} {f : FrM} (h : f.k = 27) : wBody s f = wB s f.wd := by unfold wBody; rw [show f.k.toNat = 27 from by omega]; rfl
theorem wBody_28 {s : Rs} {f : FrM} (h : f.k = 28) : wBody s f = wL (wI s [f.cod, f.lim]) f.data := by unfold wBody; rw [show f.k.toNat = 28 from by omega]; rfl
theorem wBody_29 {s : Rs} {f : FrM} (h : f.k = 29) : wBody s f = wL (wI s [f.cod]) f.data := by unfold wBody; rw [show f.k.toNat = 29 from by omega]; rfl
theorem wBody_none {s : Rs} {f : FrM} (h : f.k = 0 ∨ f.k = 1 ∨ f.k = 30) : wBody s f = s := by
  rcases h with h | h | h
  · unfold wBody; rw [show f.k.toNat = 0 from by omega]; rfl
  · unfold wBody; rw [show f.k.toNat = 1 from by omega]; rfl
  · unfold wBody; rw [show f.k.toNat = 30 from by omega]; rfl

theorem or_8_6 : bitsOf .or .u64 8 6 = 14 := by decide +kernel
theorem or_14_1 : bitsOf .or .u64 14 1 = 15 := by decide +kernel
set_option maxHeartbeats 8000000 in
theorem write_c {B : Nat} {w0 : World} {G : List Hp} {R : Hp → List Hp} {f : FrM} {p : FrP} {b : Nat} {c : Hp} (hsel : Sel G c R) (hO : WrAt [] 0 b c) (hok : f.ok) (hc : Chk f) (hV : ∀ c', FrIn (St B w0 (R c')) f p) :
    Go.Sl.Fn Try.prog 63 #[.agg (f.cells p).toArray, .pointer (some ⟨b, 0, none⟩)] B w0 G fun u G' => ∃ c' : Hp, u = .tuple #[] ∧ WrAt (wAll ([], 0) f).1 (wAll ([], 0) f).2 b c' ∧ G' = R c' := by
  refine Fn.sel0 hsel fun F hR hF => ?_
  have hVF : ∀ x, FrIn (St B w0 (x :: F)) f p := fun x => (hV x).mono fun w h => h.perm (hR x).symm
  have hk := hc.k
  have hst := hok.st
  have hoff := hok.off
  have hlim := hok.lim
  have hcod := hok.cod
  have hsq := hok.sq
  have hpr := hok.pr
  have hdl := hok.dl
  have hcs := hc.str
  have hct := hc.tok
  have hci := hc.id
  have hcc := hc.cls
  have htl := hok.tok
  have hwl := hok.wd
  unfold inU at hst hoff hlim hcod hsq hpr hdl
  have hw : wAll ([], 0) f = wBody (wI ([], 0) [kindOf f]) f := rfl
  rw [hw]
  have hkk := kindOf_ok hc
  have hl1 := wI_le (s := (([] : List UInt8), (0 : Int))) (ns := [kindOf f])
  simp only [List.length_cons, List.length_nil] at hl1
  have hlen : (f.cells p).length = 39 := FrM.cells_len hok
  refine fn_enter Try.func63 rfl (by kernel_rfl) Try.ntmps63 (by simp) ?_
  refine Go.Sl.cw_seq ?_
  refine Go.Sl.cw_region ?_
  (refine Go.Sl.ow_box rfl rfl rfl rfl ?_; intro b2)
  refine Go.Sl.ow_nil ?_
  refine Go.Sl.xw_then ?_
  refine Go.Sl.cw_seq ?_
  refine Go.Sl.cw_region ?_
  refine Go.Sl.ow_val rfl rfl (Go.Sl.v_fieldAddr0 Ty.fd30_0 rfl) ?_
  refine Go.Sl.ow_val rfl rfl (Go.Sl.v_load rfl (Go.Sl.Var.at1 Ty.sc26 .here (Go.Sl.GetN.lit rfl))) ?_
  refine Go.Sl.ow_val rfl rfl (Go.Sl.v_convert Try.underlying26 Try.underlying22 rfl (Go.Sl.nw_u64 (by omega) (by omega))) ?_
  refine Go.Sl.ow_val rfl rfl (Go.Sl.v_assign rfl) ?_
  refine Go.Sl.ow_nil ?_
  refine Go.Sl.xw_then ?_
  refine Go.Sl.cw_cut2 (ι := (Unit)) [(0, _), (1, _), (2, _)] ⟨rfl, rfl, rfl, trivial⟩ ((fun _ => [(4, .int .u64 (kindOf f))])) ((fun _ => True)) ((fun _ => [(b2, .cells (f.cells p).toArray 30 (0, 0))] :: c :: F)) ?_ ?_
  · refine Go.Sl.cw_seq ?_
    refine Go.Sl.cw_region ?_
    refine Go.Sl.ow_val rfl rfl (Go.Sl.v_fieldAddr0 Ty.fd30_0 rfl) ?_
    refine Go.Sl.ow_val rfl rfl (Go.Sl.v_load rfl (Go.Sl.Var.at1 Ty.sc26 .here (Go.Sl.GetN.lit rfl))) ?_
    refine Go.Sl.ow_val rfl rfl (Go.Sl.v_eql rfl rfl) ?_
    refine Go.Sl.ow_nil ?_
    refine Go.Sl.xw_then ?_
    refine Go.Sl.cw_dec rfl (fun hc10 => ?_) (fun hc10 => ?_)
    refine Go.Sl.cw_seq ?_
    refine Go.Sl.cw_region ?_
    refine Go.Sl.ow_val rfl rfl (Go.Sl.v_move rfl) ?_
    refine Go.Sl.ow_val rfl rfl (Go.Sl.v_or rfl rfl rfl) ?_
    refine Go.Sl.ow_val rfl rfl (Go.Sl.v_assign rfl) ?_
    refine Go.Sl.ow_nil ?_
    refine Go.Sl.xw_then ?_
    refine Go.Sl.cw_seq ?_
    refine Go.Sl.cw_region ?_
    refine Go.Sl.ow_val rfl rfl (Go.Sl.v_fieldAddr0 Ty.fd30_6 rfl) ?_
    refine Go.Sl.ow_val rfl rfl (Go.Sl.v_load rfl (Go.Sl.Var.at1 Ty.sc4 .here (Go.Sl.GetN.lit rfl))) ?_
    refine Go.Sl.ow_nil ?_
    refine Go.Sl.xw_then ?_
    refine Go.Sl.cw_bool rfl (fun hc14 => ?_) (fun hc14 => ?_)
    refine Go.Sl.cw_region ?_
    refine Go.Sl.ow_val rfl rfl (Go.Sl.v_move rfl) ?_
    refine Go.Sl.ow_val rfl rfl (Go.Sl.v_or rfl rfl rfl) ?_
    refine Go.Sl.ow_val rfl rfl (Go.Sl.v_assign rfl) ?_
    refine Go.Sl.ow_nil ?_
    rotate_left
    refine Go.Sl.cw_skip ?_
    rotate_left
    refine Go.Sl.cw_skip ?_
    rotate_left
    · have e : bitsOf .or .u64 (bitsOf .or .u64 f.k 6) 1 = kindOf f := by unfold kindOf; rw [if_pos hc10, if_pos hc14, hc10, or_8_6, or_14_1]
      rw [e]
      exact xw_joint () trivial (by first | exact Go.Sl.Cov.refl _ | (intro p; simp only [List.flatten_cons, List.flatten_nil, List.flatten_append, List.append_nil, List.nil_append, Go.Sl.cnt_append, Go.Sl.cnt_cons, Go.Sl.cnt_nil, List.set_cons_zero, List.set_cons_succ, List.length_nil, List.length_cons, Nat.zero_add, List.append]; omega)) (by repeat (first | exact True.intro | refine And.intro rfl ?_))
    · have e : bitsOf .or .u64 f.k 6 = kindOf f := by unfold kindOf; rw [if_pos hc10, if_neg (by rw [hc14]; simp), hc10, or_8_6]
      rw [e]
      exact xw_joint () trivial (by first | exact Go.Sl.Cov.refl _ | (intro p; simp only [List.flatten_cons, List.flatten_nil, List.flatten_append, List.append_nil, List.nil_append, Go.Sl.cnt_append, Go.Sl.cnt_cons, Go.Sl.cnt_nil, List.set_cons_zero, List.set_cons_succ, List.length_nil, List.length_cons, Nat.zero_add, List.append]; omega)) (by repeat (first | exact True.intro | refine And.intro rfl ?_))
    · have e : f.k = kindOf f := by unfold kindOf; rw [if_neg hc10]
      exact xw_joint () trivial (by first | exact Go.Sl.Cov.refl _ | (intro p; simp only [List.flatten_cons, List.flatten_nil, List.flatten_append, List.append_nil, List.nil_append, Go.Sl.cnt_append, Go.Sl.cnt_cons, Go.Sl.cnt_nil, List.set_cons_zero, List.set_cons_succ, List.length_nil, List.length_cons, Nat.zero_add, List.append]; omega)) ⟨congrArg (fun z => some (Value.int .u64 z)) e, (by repeat (first | exact True.intro | refine And.intro rfl ?_))⟩
  rintro _ _
  generalize hS : wI ([], 0) [kindOf f] = S at *
  refine Go.Sl.cw_seq ?_
  refine Go.Sl.cw_region ?_
  refine Go.Sl.ow_val rfl rfl (Go.Sl.v_move rfl) ?_
  refine Go.Sl.ow_val rfl rfl (Go.Sl.v_move rfl) ?_
  (refine Go.Sl.ow_buildL (es := [(kindOf f)]) rfl rfl Try.underlying60 Ty.em60 (uTy) rfl rfl (by first | (simp [*]; done) | (repeat (first | exact List.forall_mem_nil _ | refine List.forall_mem_cons.2 ⟨?_, ?_⟩ | assumption | (show _ ∧ _; omega)))) (by simp only [List.length_cons, List.length_nil]; decide) ?_; intro ao19 c19 hL19)
  (refine Go.Sl.ow_call rfl rfl rfl rfl (wr1_c (s := ([], 0)) (by repeat (first | exact Go.Sl.Sel.here | apply Go.Sl.Sel.there)) hO (by simp) (fun c' => Go.Sl.Ls.vw (by assumption) (by repeat (first | exact Go.Sl.Sub.here | assumption | refine Go.Sl.Sub.there ?_)))) ?_; rintro _ _ ⟨x20, rfl, hq20, rfl⟩)
  refine Go.Sl.ow_nil ?_
  refine Go.Sl.xw_then ?_
  rw [hS] at hq20
  refine cw_cov ([(b2, .cells (f.cells p).toArray 30 (0, 0))] :: x20 :: F) (by first | exact Go.Sl.Cov.refl _ | (intro p; simp only [List.flatten_cons, List.flatten_nil, List.flatten_append, List.append_nil, List.nil_append, Go.Sl.cnt_append, Go.Sl.cnt_cons, Go.Sl.cnt_nil, List.set_cons_zero, List.set_cons_succ, List.length_nil, List.length_cons, Nat.zero_add, List.append]; omega)) ?_
  have L1 : ∀ a : Int, (wI S [a]).1.length ≤ 16 := fun a => by
    have := wI_le (s := S) (ns := [a])
    simp only [List.length_cons, List.length_nil] at this
    omega
  have L2 : ∀ a d : Int, (wI S [a, d]).1.length ≤ 24 := fun a d => by
    have := wI_le (s := S) (ns := [a, d])
    simp only [List.length_cons, List.length_nil] at this
    omega
  have L3 : (wAck S f).1.length ≤ 40 + 16 * f.rg.length := by
    have := wAck_le (s := S) (f := f)
    omega
  have L4 : (wB (wI S [f.sq, f.pr]) [toB (f.id.length : Int)]).1.length ≤ 25 := by
    have := wB_le (s := wI S [f.sq, f.pr]) (d := [toB (f.id.length : Int)])
    have := L2 f.sq f.pr
    simp only [List.length_cons, List.length_nil] at *
    omega
  have L5 : (wB (wB (wI S [f.sq, f.pr]) [toB (f.id.length : Int)]) f.id).1.length ≤ 25 + f.id.length := by
    have := wB_le (s := wB (wI S [f.sq, f.pr]) [toB (f.id.length : Int)]) (d := f.id)
    omega
  refine Go.Sl.cw_seq ?_
  refine Go.Sl.cw_region ?_
  refine Go.Sl.ow_val rfl rfl (Go.Sl.v_fieldAddr0 Ty.fd30_0 rfl) ?_
  refine Go.Sl.ow_val rfl rfl (Go.Sl.v_load rfl (Go.Sl.Var.at1 Ty.sc26 .here (Go.Sl.GetN.lit rfl))) ?_
  refine Go.Sl.ow_nil ?_
  refine Go.Sl.xw_then ?_
  refine Go.Sl.cw_block ?_
  refine Go.Sl.cw_seq ?_
  refine Go.Sl.cw_seq ?_
  refine Go.Sl.cw_region ?_
  refine Go.Sl.ow_val rfl rfl (Go.Sl.v_eql rfl rfl) ?_
  refine Go.Sl.ow_val rfl rfl (Go.Sl.v_assign rfl) ?_
  refine Go.Sl.ow_nil ?_
  refine Go.Sl.xw_then ?_
  refine Go.Sl.cw_dec rfl (fun hc23 => ?_) (fun hc23 => ?_)
  refine Go.Sl.cw_skip ?_
  refine Go.Sl.xw_then ?_
  refine Go.Sl.cw_dec rfl (fun hc23 => ?_) (fun hc23 => ?_)
  rotate_left; (exfalso; omega); rotate_right
  refine Go.Sl.cw_seq ?_
  refine Go.Sl.cw_region ?_
  refine Go.Sl.ow_val rfl rfl (Go.Sl.v_load rfl (Go.Sl.Var.atN Ty.ag30 .here Go.Sl.GetN.all (by first | rfl | assumption))) ?_
  refine Go.Sl.ow_val rfl rfl (Go.Sl.v_move rfl) ?_
  (refine Go.Sl.ow_call rfl rfl rfl rfl (writeRanges_c (s := S) (by repeat (first | exact Go.Sl.Sel.here | apply Go.Sl.Sel.there)) hq20 (by omega) hok (hc.ack (by omega)) (fun c' => (hVF c').cov (by first | exact Go.Sl.Cov.refl _ | (intro p; simp only [List.flatten_cons, List.flatten_nil, List.flatten_append, List.append_nil, List.nil_append, Go.Sl.cnt_append, Go.Sl.cnt_cons, Go.Sl.cnt_nil, List.set_cons_zero, List.set_cons_succ, List.length_nil, List.length_cons, Nat.zero_add, List.append]; omega)))) ?_; rintro _ _ ⟨x28, rfl, hq28, rfl⟩)
  refine Go.Sl.ow_nil ?_
  refine Go.Sl.xw_then ?_
  refine Go.Sl.cw_seq ?_
  refine Go.Sl.cw_region ?_
  refine Go.Sl.ow_val rfl rfl (Go.Sl.v_fieldAddr0 Ty.fd30_0 rfl) ?_
  refine Go.Sl.ow_val rfl rfl (Go.Sl.v_load rfl (Go.Sl.Var.at1 Ty.sc26 .here (Go.Sl.GetN.lit rfl))) ?_
  refine Go.Sl.ow_val rfl rfl (Go.Sl.v_eql rfl rfl) ?_
  refine Go.Sl.ow_nil ?_
  refine Go.Sl.xw_then ?_
  refine Go.Sl.cw_dec rfl (fun hc31 => ?_) (fun hc31 => ?_)
  (exfalso; omega)
  refine Go.Sl.cw_skip ?_
  refine Go.Sl.xw_block ?_
  refine Go.Sl.ret0n rfl ?_
  rotate_left
  refine Go.Sl.cw_region ?_
  refine Go.Sl.ow_val rfl rfl (Go.Sl.v_eql rfl rfl) ?_
  refine Go.Sl.ow_val rfl rfl (Go.Sl.v_assign rfl) ?_
  refine Go.Sl.ow_nil ?_
  refine Go.Sl.xw_then ?_
  refine Go.Sl.cw_dec rfl (fun hc23 => ?_) (fun hc23 => ?_)
  refine Go.Sl.cw_seq ?_
  refine Go.Sl.cw_region ?_
  refine Go.Sl.ow_val rfl rfl (Go.Sl.v_load rfl (Go.Sl.Var.atN Ty.ag30 .here Go.Sl.GetN.all (by first | rfl | assumption))) ?_
  refine Go.Sl.ow_val rfl rfl (Go.Sl.v_move rfl) ?_
  (refine Go.Sl.ow_call rfl rfl rfl rfl (writeRanges_c (s := S) (by repeat (first | exact Go.Sl.Sel.here | apply Go.Sl.Sel.there)) hq20 (by omega) hok (hc.ack (by omega)) (fun c' => (hVF c').cov (by first | exact Go.Sl.Cov.refl _ | (intro p; simp only [List.flatten_cons, List.flatten_nil, List.flatten_append, List.append_nil, List.nil_append, Go.Sl.cnt_append, Go.Sl.cnt_cons, Go.Sl.cnt_nil, List.set_cons_zero, List.set_cons_succ, List.length_nil, List.length_cons, Nat.zero_add, List.append]; omega)))) ?_; rintro _ _ ⟨x28, rfl, hq28, rfl⟩)
  refine Go.Sl.ow_nil ?_
  refine Go.Sl.xw_then ?_
  refine Go.Sl.cw_seq ?_
  refine Go.Sl.cw_region ?_
  refine Go.Sl.ow_val rfl rfl (Go.Sl.v_fieldAddr0 Ty.fd30_0 rfl) ?_
  refine Go.Sl.ow_val rfl rfl (Go.Sl.v_load rfl (Go.Sl.Var.at1 Ty.sc26 .here (Go.Sl.GetN.lit rfl))) ?_
  refine Go.Sl.ow_val rfl rfl (Go.Sl.v_eql rfl rfl) ?_
  refine Go.Sl.ow_nil ?_
  refine Go.Sl.xw_then ?_
  refine Go.Sl.cw_dec rfl (fun hc31 => ?_) (fun hc31 => ?_)
  rotate_left; (exfalso; omega); rotate_right
  refine Go.Sl.cw_region ?_
  refine Go.Sl.ow_val rfl rfl (Go.Sl.v_move rfl) ?_
  refine Go.Sl.ow_val rfl rfl (Go.Sl.v_fieldAddr0 Ty.fd30_9 rfl) ?_
  refine Go.Sl.ow_val rfl rfl (Go.Sl.v_sliceA_nn Try.underlying28 Ty.el28 rfl) ?_
  (refine Go.Sl.ow_call rfl rfl rfl rfl (wr3_c (s := wAck S f) (by repeat (first | exact Go.Sl.Sel.here | apply Go.Sl.Sel.there)) hq28 (by have := (hc.ack (by omega)).len; omega) (fun c' => ecn_vw hok (by repeat (first | exact Go.Sl.Sub.here | assumption | refine Go.Sl.Sub.there ?_)))) ?_; rintro _ _ ⟨x35, rfl, hq35, rfl⟩)
  refine Go.Sl.ow_nil ?_
  refine Go.Sl.xw_block ?_
  refine Go.Sl.ret0n rfl ?_
  rotate_left
  refine Go.Sl.cw_seq ?_
  refine Go.Sl.cw_region ?_
  refine Go.Sl.ow_val rfl rfl (Go.Sl.v_eql rfl rfl) ?_
  refine Go.Sl.ow_val rfl rfl (Go.Sl.v_assign rfl) ?_
  refine Go.Sl.ow_nil ?_
  refine Go.Sl.xw_then ?_
  refine Go.Sl.cw_dec rfl (fun hc36 => ?_) (fun hc36 => ?_)
  refine Go.Sl.cw_region ?_
  refine Go.Sl.ow_val rfl rfl (Go.Sl.v_move rfl) ?_
  refine Go.Sl.ow_val rfl rfl (Go.Sl.v_fieldAddr0 Ty.fd30_1 rfl) ?_
  refine Go.Sl.ow_val rfl rfl (Go.Sl.v_load rfl (Go.Sl.Var.at1 Ty.sc22 .here (Go.Sl.GetN.lit rfl))) ?_
  refine Go.Sl.ow_val rfl rfl (Go.Sl.v_fieldAddr0 Ty.fd30_4 rfl) ?_
  refine Go.Sl.ow_val rfl rfl (Go.Sl.v_load rfl (Go.Sl.Var.at1 Ty.sc22 .here (Go.Sl.GetN.lit rfl))) ?_
  refine Go.Sl.ow_val rfl rfl (Go.Sl.v_fieldAddr0 Ty.fd30_3 rfl) ?_
  refine Go.Sl.ow_val rfl rfl (Go.Sl.v_load rfl (Go.Sl.Var.at1 Ty.sc22 .here (Go.Sl.GetN.lit rfl))) ?_
  (refine Go.Sl.ow_buildL (es := ([f.st, f.cod, f.lim])) rfl rfl Try.underlying60 Ty.em60 (uTy) rfl rfl (by first | (simp [*]; done) | (repeat (first | exact List.forall_mem_nil _ | refine List.forall_mem_cons.2 ⟨?_, ?_⟩ | assumption | (show _ ∧ _; omega)))) (by simp only [List.length_cons, List.length_nil]; decide) ?_; intro ao45 c45 hL45)
  (refine Go.Sl.ow_call rfl rfl rfl rfl (wr3_c (s := S) (by repeat (first | exact Go.Sl.Sel.here | apply Go.Sl.Sel.there)) hq20 (by omega) (fun c' => Go.Sl.Ls.vw (by assumption) (by repeat (first | exact Go.Sl.Sub.here | assumption | refine Go.Sl.Sub.there ?_)))) ?_; rintro _ _ ⟨x46, rfl, hq46, rfl⟩)
  refine Go.Sl.ow_nil ?_
  refine Go.Sl.xw_block ?_
  refine Go.Sl.ret0n rfl ?_
  rotate_left
  refine Go.Sl.cw_seq ?_
  refine Go.Sl.cw_region ?_
  refine Go.Sl.ow_val rfl rfl (Go.Sl.v_eql rfl rfl) ?_
  refine Go.Sl.ow_val rfl rfl (Go.Sl.v_assign rfl) ?_
  refine Go.Sl.ow_nil ?_
  refine Go.Sl.xw_then ?_
  refine Go.Sl.cw_dec rfl (fun hc47 => ?_) (fun hc47 => ?_)
  refine Go.Sl.cw_region ?_
  refine Go.Sl.ow_val rfl rfl (Go.Sl.v_move rfl) ?_
  refine Go.Sl.ow_val rfl rfl (Go.Sl.v_fieldAddr0 Ty.fd30_1 rfl) ?_
  refine Go.Sl.ow_val rfl rfl (Go.Sl.v_load rfl (Go.Sl.Var.at1 Ty.sc22 .here (Go.Sl.GetN.lit rfl))) ?_
  refine Go.Sl.ow_val rfl rfl (Go.Sl.v_fieldAddr0 Ty.fd30_4 rfl) ?_
  refine Go.Sl.ow_val rfl rfl (Go.Sl.v_load rfl (Go.Sl.Var.at1 Ty.sc22 .here (Go.Sl.GetN.lit rfl))) ?_
  (refine Go.Sl.ow_buildL (es := ([f.st, f.cod])) rfl rfl Try.underlying60 Ty.em60 (uTy) rfl rfl (by first | (simp [*]; done) | (repeat (first | exact List.forall_mem_nil _ | refine List.forall_mem_cons.2 ⟨?_, ?_⟩ | assumption | (show _ ∧ _; omega)))) (by simp only [List.length_cons, List.length_nil]; decide) ?_; intro ao54 c54 hL54)
  (refine Go.Sl.ow_call rfl rfl rfl rfl (wr2_c (s := S) (by repeat (first | exact Go.Sl.Sel.here | apply Go.Sl.Sel.there)) hq20 (by omega) (fun c' => Go.Sl.Ls.vw (by assumption) (by repeat (first | exact Go.Sl.Sub.here | assumption | refine Go.Sl.Sub.there ?_)))) ?_; rintro _ _ ⟨x55, rfl, hq55, rfl⟩)
  refine Go.Sl.ow_nil ?_
  refine Go.Sl.xw_block ?_
  refine Go.Sl.ret0n rfl ?_
  rotate_left
  refine Go.Sl.cw_seq ?_
  refine Go.Sl.cw_region ?_
  refine Go.Sl.ow_val rfl rfl (Go.Sl.v_eql rfl rfl) ?_
  refine Go.Sl.ow_val rfl rfl (Go.Sl.v_assign rfl) ?_
  refine Go.Sl.ow_nil ?_
  refine Go.Sl.xw_then ?_
  refine Go.Sl.cw_dec rfl (fun hc56 => ?_) (fun hc56 => ?_)
  refine Go.Sl.cw_seq ?_
  refine Go.Sl.cw_region ?_
  refine Go.Sl.ow_val rfl rfl (Go.Sl.v_move rfl) ?_
  refine Go.Sl.ow_val rfl rfl (Go.Sl.v_fieldAddr0 Ty.fd30_2 rfl) ?_
  refine Go.Sl.ow_val rfl rfl (Go.Sl.v_load rfl (Go.Sl.Var.at1 Ty.sc22 .here (Go.Sl.GetN.lit rfl))) ?_
  (refine Go.Sl.ow_buildL (es := ([f.off])) rfl rfl Try.underlying60 Ty.em60 (uTy) rfl rfl (by first | (simp [*]; done) | (repeat (first | exact List.forall_mem_nil _ | refine List.forall_mem_cons.2 ⟨?_, ?_⟩ | assumption | (show _ ∧ _; omega)))) (by simp only [List.length_cons, List.length_nil]; decide) ?_; intro ao61 c61 hL61)
  (refine Go.Sl.ow_call rfl rfl rfl rfl (wr1_c (s := S) (by repeat (first | exact Go.Sl.Sel.here | apply Go.Sl.Sel.there)) hq20 (by omega) (fun c' => Go.Sl.Ls.vw (by assumption) (by repeat (first | exact Go.Sl.Sub.here | assumption | refine Go.Sl.Sub.there ?_)))) ?_; rintro _ _ ⟨x62, rfl, hq62, rfl⟩)
  refine Go.Sl.ow_nil ?_
  refine Go.Sl.xw_then ?_
  refine Go.Sl.cw_region ?_
  refine Go.Sl.ow_val rfl rfl (Go.Sl.v_move rfl) ?_
  refine Go.Sl.ow_val rfl rfl (Go.Sl.v_fieldAddr0 Ty.fd30_5 rfl) ?_
  refine Go.Sl.ow_val rfl rfl (Go.Sl.v_load rfl (Go.Sl.Var.at1 Ty.sc23 (.there .here) (Go.Sl.GetN.lit rfl))) ?_
  (refine Go.Sl.ow_call rfl rfl rfl rfl (wrLong_c (s := wI S [f.off]) (by repeat (first | exact Go.Sl.Sel.here | apply Go.Sl.Sel.there)) hq62 (by have := L1 f.off; omega) (by omega) (fun c' => (hVF c').d.cov (by first | exact Go.Sl.Cov.refl _ | (intro p; simp only [List.flatten_cons, List.flatten_nil, List.flatten_append, List.append_nil, List.nil_append, Go.Sl.cnt_append, Go.Sl.cnt_cons, Go.Sl.cnt_nil, List.set_cons_zero, List.set_cons_succ, List.length_nil, List.length_cons, Nat.zero_add, List.append]; omega)))) ?_; rintro _ _ ⟨x66, rfl, hq66, rfl⟩)
  refine Go.Sl.ow_nil ?_
  refine Go.Sl.xw_block ?_
  refine Go.Sl.ret0n rfl ?_
  rotate_left
  refine Go.Sl.cw_seq ?_
  refine Go.Sl.cw_region ?_
  refine Go.Sl.ow_val rfl rfl (Go.Sl.v_eql rfl rfl) ?_
  refine Go.Sl.ow_val rfl rfl (Go.Sl.v_assign rfl) ?_
  refine Go.Sl.ow_nil ?_
  refine Go.Sl.xw_then ?_
  refine Go.Sl.cw_dec rfl (fun hc67 => ?_) (fun hc67 => ?_)
  refine Go.Sl.cw_region ?_
  refine Go.Sl.ow_val rfl rfl (Go.Sl.v_move rfl) ?_
  refine Go.Sl.ow_val rfl rfl (Go.Sl.v_fieldAddr0 Ty.fd30_5 rfl) ?_
  refine Go.Sl.ow_val rfl rfl (Go.Sl.v_load rfl (Go.Sl.Var.at1 Ty.sc23 .here (Go.Sl.GetN.lit rfl))) ?_
  (refine Go.Sl.ow_call rfl rfl rfl rfl (wrLong_c (s := S) (by repeat (first | exact Go.Sl.Sel.here | apply Go.Sl.Sel.there)) hq20 (by omega) (by omega) (fun c' => (hVF c').d.cov (by first | exact Go.Sl.Cov.refl _ | (intro p; simp only [List.flatten_cons, List.flatten_nil, List.flatten_append, List.append_nil, List.nil_append, Go.Sl.cnt_append, Go.Sl.cnt_cons, Go.Sl.cnt_nil, List.set_cons_zero, List.set_cons_succ, List.length_nil, List.length_cons, Nat.zero_add, List.append]; omega)))) ?_; rintro _ _ ⟨x72, rfl, hq72, rfl⟩)
  refine Go.Sl.ow_nil ?_
  refine Go.Sl.xw_block ?_
  refine Go.Sl.ret0n rfl ?_
  rotate_left
  refine Go.Sl.cw_seq ?_
  refine Go.Sl.cw_region ?_
  refine Go.Sl.ow_val rfl rfl (Go.Sl.v_eql rfl rfl) ?_
  refine Go.Sl.ow_val rfl rfl (Go.Sl.v_assign rfl) ?_
  refine Go.Sl.ow_nil ?_
  refine Go.Sl.xw_then ?_
  refine Go.Sl.cw_dec rfl (fun hc73 => ?_) (fun hc73 => ?_)
  refine Go.Sl.cw_seq ?_
  refine Go.Sl.cw_region ?_
  refine Go.Sl.ow_val rfl rfl (Go.Sl.v_move rfl) ?_
  refine Go.Sl.ow_val rfl rfl (Go.Sl.v_fieldAddr0 Ty.fd30_1 rfl) ?_
  refine Go.Sl.ow_val rfl rfl (Go.Sl.v_load rfl (Go.Sl.Var.at1 Ty.sc22 .here (Go.Sl.GetN.lit rfl))) ?_
  refine Go.Sl.ow_val rfl rfl (Go.Sl.v_fieldAddr0 Ty.fd30_2 rfl) ?_
  refine Go.Sl.ow_val rfl rfl (Go.Sl.v_load rfl (Go.Sl.Var.at1 Ty.sc22 .here (Go.Sl.GetN.lit rfl))) ?_
  (refine Go.Sl.ow_buildL (es := ([f.st, f.off])) rfl rfl Try.underlying60 Ty.em60 (uTy) rfl rfl (by first | (simp [*]; done) | (repeat (first | exact List.forall_mem_nil _ | refine List.forall_mem_cons.2 ⟨?_, ?_⟩ | assumption | (show _ ∧ _; omega)))) (by simp only [List.length_cons, List.length_nil]; decide) ?_; intro ao80 c80 hL80)
  (refine Go.Sl.ow_call rfl rfl rfl rfl (wr2_c (s := S) (by repeat (first | exact Go.Sl.Sel.here | apply Go.Sl.Sel.there)) hq20 (by omega) (fun c' => Go.Sl.Ls.vw (by assumption) (by repeat (first | exact Go.Sl.Sub.here | assumption | refine Go.Sl.Sub.there ?_)))) ?_; rintro _ _ ⟨x81, rfl, hq81, rfl⟩)
  refine Go.Sl.ow_nil ?_
  refine Go.Sl.xw_then ?_
  refine Go.Sl.cw_region ?_
  refine Go.Sl.ow_val rfl rfl (Go.Sl.v_move rfl) ?_
  refine Go.Sl.ow_val rfl rfl (Go.Sl.v_fieldAddr0 Ty.fd30_5 rfl) ?_
  refine Go.Sl.ow_val rfl rfl (Go.Sl.v_load rfl (Go.Sl.Var.at1 Ty.sc23 (.there .here) (Go.Sl.GetN.lit rfl))) ?_
  (refine Go.Sl.ow_call rfl rfl rfl rfl (wrLong_c (s := wI S [f.st, f.off]) (by repeat (first | exact Go.Sl.Sel.here | apply Go.Sl.Sel.there)) hq81 (by have := L2 f.st f.off; omega) (by omega) (fun c' => (hVF c').d.cov (by first | exact Go.Sl.Cov.refl _ | (intro p; simp only [List.flatten_cons, List.flatten_nil, List.flatten_append, List.append_nil, List.nil_append, Go.Sl.cnt_append, Go.Sl.cnt_cons, Go.Sl.cnt_nil, List.set_cons_zero, List.set_cons_succ, List.length_nil, List.length_cons, Nat.zero_add, List.append]; omega)))) ?_; rintro _ _ ⟨x85, rfl, hq85, rfl⟩)
  refine Go.Sl.ow_nil ?_
  refine Go.Sl.xw_block ?_
  refine Go.Sl.ret0n rfl ?_
  rotate_left
  refine Go.Sl.cw_seq ?_
  refine Go.Sl.cw_seq ?_
  refine Go.Sl.cw_region ?_
  refine Go.Sl.ow_val rfl rfl (Go.Sl.v_eql rfl rfl) ?_
  refine Go.Sl.ow_val rfl rfl (Go.Sl.v_assign rfl) ?_
  refine Go.Sl.ow_nil ?_
  refine Go.Sl.xw_then ?_
  refine Go.Sl.cw_dec rfl (fun hc86 => ?_) (fun hc86 => ?_)
  refine Go.Sl.cw_skip ?_
  refine Go.Sl.xw_then ?_
  refine Go.Sl.cw_dec rfl (fun hc86 => ?_) (fun hc86 => ?_)
  rotate_left; (exfalso; omega); rotate_right
  refine Go.Sl.cw_region ?_
  refine Go.Sl.ow_val rfl rfl (Go.Sl.v_move rfl) ?_
  refine Go.Sl.ow_val rfl rfl (Go.Sl.v_fieldAddr0 Ty.fd30_3 rfl) ?_
  refine Go.Sl.ow_val rfl rfl (Go.Sl.v_load rfl (Go.Sl.Var.at1 Ty.sc22 .here (Go.Sl.GetN.lit rfl))) ?_
  (refine Go.Sl.ow_buildL (es := ([f.lim])) rfl rfl Try.underlying60 Ty.em60 (uTy) rfl rfl (by first | (simp [*]; done) | (repeat (first | exact List.forall_mem_nil _ | refine List.forall_mem_cons.2 ⟨?_, ?_⟩ | assumption | (show _ ∧ _; omega)))) (by simp only [List.length_cons, List.length_nil]; decide) ?_; intro ao96 c96 hL96)
  (refine Go.Sl.ow_call rfl rfl rfl rfl (wr1_c (s := S) (by repeat (first | exact Go.Sl.Sel.here | apply Go.Sl.Sel.there)) hq20 (by omega) (fun c' => Go.Sl.Ls.vw (by assumption) (by repeat (first | exact Go.Sl.Sub.here | assumption | refine Go.Sl.Sub.there ?_)))) ?_; rintro _ _ ⟨x97, rfl, hq97, rfl⟩)
  refine Go.Sl.ow_nil ?_
  refine Go.Sl.xw_block ?_
  refine Go.Sl.ret0n rfl ?_
  rotate_left
  refine Go.Sl.cw_seq ?_
  refine Go.Sl.cw_region ?_
  refine Go.Sl.ow_val rfl rfl (Go.Sl.v_eql rfl rfl) ?_
  refine Go.Sl.ow_val rfl rfl (Go.Sl.v_assign rfl) ?_
  refine Go.Sl.ow_nil ?_
  refine Go.Sl.xw_then ?_
  refine Go.Sl.cw_dec rfl (fun hc86 => ?_) (fun hc86 => ?_)
  refine Go.Sl.cw_skip ?_
  refine Go.Sl.xw_then ?_
  refine Go.Sl.cw_dec rfl (fun hc86 => ?_) (fun hc86 => ?_)
  rotate_left; (exfalso; omega); rotate_right
  refine Go.Sl.cw_region ?_
  refine Go.Sl.ow_val rfl rfl (Go.Sl.v_move rfl) ?_
  refine Go.Sl.ow_val rfl rfl (Go.Sl.v_fieldAddr0 Ty.fd30_3 rfl) ?_
  refine Go.Sl.ow_val rfl rfl (Go.Sl.v_load rfl (Go.Sl.Var.at1 Ty.sc22 .here (Go.Sl.GetN.lit rfl))) ?_
  (refine Go.Sl.ow_buildL (es := ([f.lim])) rfl rfl Try.underlying60 Ty.em60 (uTy) rfl rfl (by first | (simp [*]; done) | (repeat (first | exact List.forall_mem_nil _ | refine List.forall_mem_cons.2 ⟨?_, ?_⟩ | assumption | (show _ ∧ _; omega)))) (by simp only [List.length_cons, List.length_nil]; decide) ?_; intro ao96 c96 hL96)
  (refine Go.Sl.ow_call rfl rfl rfl rfl (wr1_c (s := S) (by repeat (first | exact Go.Sl.Sel.here | apply Go.Sl.Sel.there)) hq20 (by omega) (fun c' => Go.Sl.Ls.vw (by assumption) (by repeat (first | exact Go.Sl.Sub.here | assumption | refine Go.Sl.Sub.there ?_)))) ?_; rintro _ _ ⟨x97, rfl, hq97, rfl⟩)
  refine Go.Sl.ow_nil ?_
  refine Go.Sl.xw_block ?_
  refine Go.Sl.ret0n rfl ?_
  rotate_left
  refine Go.Sl.cw_seq ?_
  refine Go.Sl.cw_region ?_
  refine Go.Sl.ow_val rfl rfl (Go.Sl.v_eql rfl rfl) ?_
  refine Go.Sl.ow_val rfl rfl (Go.Sl.v_assign rfl) ?_
  refine Go.Sl.ow_nil ?_
  refine Go.Sl.xw_then ?_
  refine Go.Sl.cw_dec rfl (fun hc86 => ?_) (fun hc86 => ?_)
  refine Go.Sl.cw_skip ?_
  refine Go.Sl.xw_then ?_
  refine Go.Sl.cw_dec rfl (fun hc86 => ?_) (fun hc86 => ?_)
  rotate_left; (exfalso; omega); rotate_right
  refine Go.Sl.cw_region ?_
  refine Go.Sl.ow_val rfl rfl (Go.Sl.v_move rfl) ?_
  refine Go.Sl.ow_val rfl rfl (Go.Sl.v_fieldAddr0 Ty.fd30_3 rfl) ?_
  refine Go.Sl.ow_val rfl rfl (Go.Sl.v_load rfl (Go.Sl.Var.at1 Ty.sc22 .here (Go.Sl.GetN.lit rfl))) ?_
  (refine Go.Sl.ow_buildL (es := ([f.lim])) rfl rfl Try.underlying60 Ty.em60 (uTy) rfl rfl (by first | (simp [*]; done) | (repeat (first | exact List.forall_mem_nil _ | refine List.forall_mem_cons.2 ⟨?_, ?_⟩ | assumption | (show _ ∧ _; omega)))) (by simp only [List.length_cons, List.length_nil]; decide) ?_; intro ao96 c96 hL96)
  (refine Go.Sl.ow_call rfl rfl rfl rfl (wr1_c (s := S) (by repeat (first | exact Go.Sl.Sel.here | apply Go.Sl.Sel.there)) hq20 (by omega) (fun c' => Go.Sl.Ls.vw (by assumption) (by repeat (first | exact Go.Sl.Sub.here | assumption | refine Go.Sl.Sub.there ?_)))) ?_; rintro _ _ ⟨x97, rfl, hq97, rfl⟩)
  refine Go.Sl.ow_nil ?_
  refine Go.Sl.xw_block ?_
  refine Go.Sl.ret0n rfl ?_
  rotate_left
  refine Go.Sl.cw_seq ?_
  refine Go.Sl.cw_region ?_
  refine Go.Sl.ow_val rfl rfl (Go.Sl.v_eql rfl rfl) ?_
  refine Go.Sl.ow_val rfl rfl (Go.Sl.v_assign rfl) ?_
  refine Go.Sl.ow_nil ?_
  refine Go.Sl.xw_then ?_
  refine Go.Sl.cw_dec rfl (fun hc86 => ?_) (fun hc86 => ?_)
  refine Go.Sl.cw_skip ?_
  refine Go.Sl.xw_then ?_
  refine Go.Sl.cw_dec rfl (fun hc86 => ?_) (fun hc86 => ?_)
  rotate_left; (exfalso; omega); rotate_right
  refine Go.Sl.cw_region ?_
  refine Go.Sl.ow_val rfl rfl (Go.Sl.v_move rfl) ?_
  refine Go.Sl.ow_val rfl rfl (Go.Sl.v_fieldAddr0 Ty.fd30_3 rfl) ?_
  refine Go.Sl.ow_val rfl rfl (Go.Sl.v_load rfl (Go.Sl.Var.at1 Ty.sc22 .here (Go.Sl.GetN.lit rfl))) ?_
  (refine Go.Sl.ow_buildL (es := ([f.lim])) rfl rfl Try.underlying60 Ty.em60 (uTy) rfl rfl (by first | (simp [*]; done) | (repeat (first | exact List.forall_mem_nil _ | refine List.forall_mem_cons.2 ⟨?_, ?_⟩ | assumption | (show _ ∧ _; omega)))) (by simp only [List.length_cons, List.length_nil]; decide) ?_; intro ao96 c96 hL96)
  (refine Go.Sl.ow_call rfl rfl rfl rfl (wr1_c (s := S) (by repeat (first | exact Go.Sl.Sel.here | apply Go.Sl.Sel.there)) hq20 (by omega) (fun c' => Go.Sl.Ls.vw (by assumption) (by repeat (first | exact Go.Sl.Sub.here | assumption | refine Go.Sl.Sub.there ?_)))) ?_; rintro _ _ ⟨x97, rfl, hq97, rfl⟩)
  refine Go.Sl.ow_nil ?_
  refine Go.Sl.xw_block ?_
  refine Go.Sl.ret0n rfl ?_
  rotate_left
  refine Go.Sl.cw_seq ?_
  refine Go.Sl.cw_region ?_
  refine Go.Sl.ow_val rfl rfl (Go.Sl.v_eql rfl rfl) ?_
  refine Go.Sl.ow_val rfl rfl (Go.Sl.v_assign rfl) ?_
  refine Go.Sl.ow_nil ?_
  refine Go.Sl.xw_then ?_
  refine Go.Sl.cw_dec rfl (fun hc86 => ?_) (fun hc86 => ?_)
  refine Go.Sl.cw_skip ?_
  refine Go.Sl.xw_then ?_
  refine Go.Sl.cw_dec rfl (fun hc86 => ?_) (fun hc86 => ?_)
  rotate_left; (exfalso; omega); rotate_right
  refine Go.Sl.cw_region ?_
  refine Go.Sl.ow_val rfl rfl (Go.Sl.v_move rfl) ?_
  refine Go.Sl.ow_val rfl rfl (Go.Sl.v_fieldAddr0 Ty.fd30_3 rfl) ?_
  refine Go.Sl.ow_val rfl rfl (Go.Sl.v_load rfl (Go.Sl.Var.at1 Ty.sc22 .here (Go.Sl.GetN.lit rfl))) ?_
  (refine Go.Sl.ow_buildL (es := ([f.lim])) rfl rfl Try.underlying60 Ty.em60 (uTy) rfl rfl (by first | (simp [*]; done) | (repeat (first | exact List.forall_mem_nil _ | refine List.forall_mem_cons.2 ⟨?_, ?_⟩ | assumption | (show _ ∧ _; omega)))) (by simp only [List.length_cons, List.length_nil]; decide) ?_; intro ao96 c96 hL96)
  (refine Go.Sl.ow_call rfl rfl rfl rfl (wr1_c (s := S) (by repeat (first | exact Go.Sl.Sel.here | apply Go.Sl.Sel.there)) hq20 (by omega) (fun c' => Go.Sl.Ls.vw (by assumption) (by repeat (first | exact Go.Sl.Sub.here | assumption | refine Go.Sl.Sub.there ?_)))) ?_; rintro _ _ ⟨x97, rfl, hq97, rfl⟩)
  refine Go.Sl.ow_nil ?_
  refine Go.Sl.xw_block ?_
  refine Go.Sl.ret0n rfl ?_
  rotate_left
  refine Go.Sl.cw_region ?_
  refine Go.Sl.ow_val rfl rfl (Go.Sl.v_eql rfl rfl) ?_
  refine Go.Sl.ow_val rfl rfl (Go.Sl.v_assign rfl) ?_
  refine Go.Sl.ow_nil ?_
  refine Go.Sl.xw_then ?_
  refine Go.Sl.cw_dec rfl (fun hc86 => ?_) (fun hc86 => ?_)
  refine Go.Sl.cw_region ?_
  refine Go.Sl.ow_val rfl rfl (Go.Sl.v_move rfl) ?_
  refine Go.Sl.ow_val rfl rfl (Go.Sl.v_fieldAddr0 Ty.fd30_3 rfl) ?_
  refine Go.Sl.ow_val rfl rfl (Go.Sl.v_load rfl (Go.Sl.Var.at1 Ty.sc22 .here (Go.Sl.GetN.lit rfl))) ?_
  (refine Go.Sl.ow_buildL (es := ([f.lim])) rfl rfl Try.underlying60 Ty.em60 (uTy) rfl rfl (by first | (simp [*]; done) | (repeat (first | exact List.forall_mem_nil _ | refine List.forall_mem_cons.2 ⟨?_, ?_⟩ | assumption | (show _ ∧ _; omega)))) (by simp only [List.length_cons, List.length_nil]; decide) ?_; intro ao96 c96 hL96)
  (refine Go.Sl.ow_call rfl rfl rfl rfl (wr1_c (s := S) (by repeat (first | exact Go.Sl.Sel.here | apply Go.Sl.Sel.there)) hq20 (by omega) (fun c' => Go.Sl.Ls.vw (by assumption) (by repeat (first | exact Go.Sl.Sub.here | assumption | refine Go.Sl.Sub.there ?_)))) ?_; rintro _ _ ⟨x97, rfl, hq97, rfl⟩)
  refine Go.Sl.ow_nil ?_
  refine Go.Sl.xw_block ?_
  refine Go.Sl.ret0n rfl ?_
  rotate_left
  refine Go.Sl.cw_seq ?_
  refine Go.Sl.cw_seq ?_
  refine Go.Sl.cw_region ?_
  refine Go.Sl.ow_val rfl rfl (Go.Sl.v_eql rfl rfl) ?_
  refine Go.Sl.ow_val rfl rfl (Go.Sl.v_assign rfl) ?_
  refine Go.Sl.ow_nil ?_
  refine Go.Sl.xw_then ?_
  refine Go.Sl.cw_dec rfl (fun hc98 => ?_) (fun hc98 => ?_)
  refine Go.Sl.cw_skip ?_
  refine Go.Sl.xw_then ?_
  refine Go.Sl.cw_dec rfl (fun hc98 => ?_) (fun hc98 => ?_)
  rotate_left; (exfalso; omega); rotate_right
  refine Go.Sl.cw_region ?_
  refine Go.Sl.ow_val rfl rfl (Go.Sl.v_move rfl) ?_
  refine Go.Sl.ow_val rfl rfl (Go.Sl.v_fieldAddr0 Ty.fd30_1 rfl) ?_
  refine Go.Sl.ow_val rfl rfl (Go.Sl.v_load rfl (Go.Sl.Var.at1 Ty.sc22 .here (Go.Sl.GetN.lit rfl))) ?_
  refine Go.Sl.ow_val rfl rfl (Go.Sl.v_fieldAddr0 Ty.fd30_3 rfl) ?_
  refine Go.Sl.ow_val rfl rfl (Go.Sl.v_load rfl (Go.Sl.Var.at1 Ty.sc22 .here (Go.Sl.GetN.lit rfl))) ?_
  (refine Go.Sl.ow_buildL (es := ([f.st, f.lim])) rfl rfl Try.underlying60 Ty.em60 (uTy) rfl rfl (by first | (simp [*]; done) | (repeat (first | exact List.forall_mem_nil _ | refine List.forall_mem_cons.2 ⟨?_, ?_⟩ | assumption | (show _ ∧ _; omega)))) (by simp only [List.length_cons, List.length_nil]; decide) ?_; intro ao106 c106 hL106)
  (refine Go.Sl.ow_call rfl rfl rfl rfl (wr2_c (s := S) (by repeat (first | exact Go.Sl.Sel.here | apply Go.Sl.Sel.there)) hq20 (by omega) (fun c' => Go.Sl.Ls.vw (by assumption) (by repeat (first | exact Go.Sl.Sub.here | assumption | refine Go.Sl.Sub.there ?_)))) ?_; rintro _ _ ⟨x107, rfl, hq107, rfl⟩)
  refine Go.Sl.ow_nil ?_
  refine Go.Sl.xw_block ?_
  refine Go.Sl.ret0n rfl ?_
  rotate_left
  refine Go.Sl.cw_region ?_
  refine Go.Sl.ow_val rfl rfl (Go.Sl.v_eql rfl rfl) ?_
  refine Go.Sl.ow_val rfl rfl (Go.Sl.v_assign rfl) ?_
  refine Go.Sl.ow_nil ?_
  refine Go.Sl.xw_then ?_
  refine Go.Sl.cw_dec rfl (fun hc98 => ?_) (fun hc98 => ?_)
  refine Go.Sl.cw_region ?_
  refine Go.Sl.ow_val rfl rfl (Go.Sl.v_move rfl) ?_
  refine Go.Sl.ow_val rfl rfl (Go.Sl.v_fieldAddr0 Ty.fd30_1 rfl) ?_
  refine Go.Sl.ow_val rfl rfl (Go.Sl.v_load rfl (Go.Sl.Var.at1 Ty.sc22 .here (Go.Sl.GetN.lit rfl))) ?_
  refine Go.Sl.ow_val rfl rfl (Go.Sl.v_fieldAddr0 Ty.fd30_3 rfl) ?_
  refine Go.Sl.ow_val rfl rfl (Go.Sl.v_load rfl (Go.Sl.Var.at1 Ty.sc22 .here (Go.Sl.GetN.lit rfl))) ?_
  (refine Go.Sl.ow_buildL (es := ([f.st, f.lim])) rfl rfl Try.underlying60 Ty.em60 (uTy) rfl rfl (by first | (simp [*]; done) | (repeat (first | exact List.forall_mem_nil _ | refine List.forall_mem_cons.2 ⟨?_, ?_⟩ | assumption | (show _ ∧ _; omega)))) (by simp only [List.length_cons, List.length_nil]; decide) ?_; intro ao106 c106 hL106)
  (refine Go.Sl.ow_call rfl rfl rfl rfl (wr2_c (s := S) (by repeat (first | exact Go.Sl.Sel.here | apply Go.Sl.Sel.there)) hq20 (by omega) (fun c' => Go.Sl.Ls.vw (by assumption) (by repeat (first | exact Go.Sl.Sub.here | assumption | refine Go.Sl.Sub.there ?_)))) ?_; rintro _ _ ⟨x107, rfl, hq107, rfl⟩)
  refine Go.Sl.ow_nil ?_
  refine Go.Sl.xw_block ?_
  refine Go.Sl.ret0n rfl ?_
  rotate_left
  refine Go.Sl.cw_seq ?_
  refine Go.Sl.cw_region ?_
  refine Go.Sl.ow_val rfl rfl (Go.Sl.v_eql rfl rfl) ?_
  refine Go.Sl.ow_val rfl rfl (Go.Sl.v_assign rfl) ?_
  refine Go.Sl.ow_nil ?_
  refine Go.Sl.xw_then ?_
  refine Go.Sl.cw_dec rfl (fun hc108 => ?_) (fun hc108 => ?_)
  refine Go.Sl.cw_seq ?_
  refine Go.Sl.cw_region ?_
  refine Go.Sl.ow_val rfl rfl (Go.Sl.v_move rfl) ?_
  refine Go.Sl.ow_val rfl rfl (Go.Sl.v_fieldAddr0 Ty.fd30_10 rfl) ?_
  refine Go.Sl.ow_val rfl rfl (Go.Sl.v_load rfl (Go.Sl.Var.at1 Ty.sc22 .here (Go.Sl.GetN.lit rfl))) ?_
  refine Go.Sl.ow_val rfl rfl (Go.Sl.v_fieldAddr0 Ty.fd30_11 rfl) ?_
  refine Go.Sl.ow_val rfl rfl (Go.Sl.v_load rfl (Go.Sl.Var.at1 Ty.sc22 .here (Go.Sl.GetN.lit rfl))) ?_
  (refine Go.Sl.ow_buildL (es := ([f.sq, f.pr])) rfl rfl Try.underlying60 Ty.em60 (uTy) rfl rfl (by first | (simp [*]; done) | (repeat (first | exact List.forall_mem_nil _ | refine List.forall_mem_cons.2 ⟨?_, ?_⟩ | assumption | (show _ ∧ _; omega)))) (by simp only [List.length_cons, List.length_nil]; decide) ?_; intro ao115 c115 hL115)
  (refine Go.Sl.ow_call rfl rfl rfl rfl (wr2_c (s := S) (by repeat (first | exact Go.Sl.Sel.here | apply Go.Sl.Sel.there)) hq20 (by omega) (fun c' => Go.Sl.Ls.vw (by assumption) (by repeat (first | exact Go.Sl.Sub.here | assumption | refine Go.Sl.Sub.there ?_)))) ?_; rintro _ _ ⟨x116, rfl, hq116, rfl⟩)
  refine Go.Sl.ow_nil ?_
  refine Go.Sl.xw_then ?_
  refine Go.Sl.cw_seq ?_
  refine Go.Sl.cw_region ?_
  refine Go.Sl.ow_val rfl rfl (Go.Sl.v_move rfl) ?_
  refine Go.Sl.ow_val rfl rfl (Go.Sl.v_fieldAddr0 Ty.fd30_12 rfl) ?_
  refine Go.Sl.ow_val rfl rfl (Go.Sl.v_load rfl (Go.Sl.Var.at1 Ty.sc23 (.there .here) (Go.Sl.GetN.lit rfl))) ?_
  refine Go.Sl.ow_val rfl rfl (Go.Sl.v_len rfl Try.underlying23 rfl) ?_
  refine Go.Sl.ow_val rfl rfl (Go.Sl.v_convert Try.underlying3 Try.underlying5 rfl (Go.Sl.nw_u8 (by omega) (by omega))) ?_
  (refine Go.Sl.ow_buildL (es := ([(f.id.length : Int)])) rfl rfl Try.underlying23 Ty.em23 (iTy) rfl rfl (by first | (simp [*]; done) | (repeat (first | exact List.forall_mem_nil _ | refine List.forall_mem_cons.2 ⟨?_, ?_⟩ | assumption | (show _ ∧ _; omega)))) (by simp only [List.length_cons, List.length_nil]; decide) ?_; intro ao122 c122 hL122)
  (refine Go.Sl.ow_call rfl rfl rfl rfl (wrBytesM_c (s := wI S [f.sq, f.pr]) (by repeat (first | exact Go.Sl.Sel.here | apply Go.Sl.Sel.there)) hq116 (by have := L2 f.sq f.pr; omega) (by simp) (Vw.bytes (l := [(f.id.length : Int)]) (Go.Sl.Ls.vw hL122 (by repeat (first | exact Go.Sl.Sub.here | assumption | refine Go.Sl.Sub.there ?_))))) ?_; rintro _ _ ⟨x123, rfl, hq123, rfl⟩)
  refine Go.Sl.ow_nil ?_
  refine Go.Sl.xw_then ?_
  refine Go.Sl.cw_seq ?_
  refine Go.Sl.cw_region ?_
  refine Go.Sl.ow_val rfl rfl (Go.Sl.v_move rfl) ?_
  refine Go.Sl.ow_val rfl rfl (Go.Sl.v_fieldAddr0 Ty.fd30_12 rfl) ?_
  refine Go.Sl.ow_val rfl rfl (Go.Sl.v_load rfl (Go.Sl.Var.at1 Ty.sc23 (.there (.there .here)) (Go.Sl.GetN.lit rfl))) ?_
  (refine Go.Sl.ow_call rfl rfl rfl rfl (wrBytesM_c (s := wB (wI S [f.sq, f.pr]) [toB (f.id.length : Int)]) (by repeat (first | exact Go.Sl.Sel.here | apply Go.Sl.Sel.there)) hq123 (by omega) (by omega) ((hVF x123).i.cov (by first | exact Go.Sl.Cov.refl _ | (intro p; simp only [List.flatten_cons, List.flatten_nil, List.flatten_append, List.append_nil, List.nil_append, Go.Sl.cnt_append, Go.Sl.cnt_cons, Go.Sl.cnt_nil, List.set_cons_zero, List.set_cons_succ, List.length_nil, List.length_cons, Nat.zero_add, List.append]; omega)))) ?_; rintro _ _ ⟨x127, rfl, hq127, rfl⟩)
  refine Go.Sl.ow_nil ?_
  refine Go.Sl.xw_then ?_
  refine Go.Sl.cw_region ?_
  refine Go.Sl.ow_val rfl rfl (Go.Sl.v_move rfl) ?_
  refine Go.Sl.ow_val rfl rfl (Go.Sl.v_fieldAddr0 Ty.fd30_13 rfl) ?_
  refine Go.Sl.ow_val rfl rfl (Go.Sl.v_sliceA_nn Try.underlying25 Ty.el25 rfl) ?_
  (refine Go.Sl.ow_call rfl rfl rfl rfl (wrBytesM_c (s := wB (wB (wI S [f.sq, f.pr]) [toB (f.id.length : Int)]) f.id) (by repeat (first | exact Go.Sl.Sel.here | apply Go.Sl.Sel.there)) hq127 (by omega) (by omega) (tok_vw hok (by repeat (first | exact Go.Sl.Sub.here | assumption | refine Go.Sl.Sub.there ?_)))) ?_; rintro _ _ ⟨x131, rfl, hq131, rfl⟩)
  refine Go.Sl.ow_nil ?_
  refine Go.Sl.xw_block ?_
  refine Go.Sl.ret0n rfl ?_
  rotate_left
  refine Go.Sl.cw_seq ?_
  refine Go.Sl.cw_region ?_
  refine Go.Sl.ow_val rfl rfl (Go.Sl.v_eql rfl rfl) ?_
  refine Go.Sl.ow_val rfl rfl (Go.Sl.v_assign rfl) ?_
  refine Go.Sl.ow_nil ?_
  refine Go.Sl.xw_then ?_
  refine Go.Sl.cw_dec rfl (fun hc132 => ?_) (fun hc132 => ?_)
  refine Go.Sl.cw_region ?_
  refine Go.Sl.ow_val rfl rfl (Go.Sl.v_move rfl) ?_
  refine Go.Sl.ow_val rfl rfl (Go.Sl.v_fieldAddr0 Ty.fd30_10 rfl) ?_
  refine Go.Sl.ow_val rfl rfl (Go.Sl.v_load rfl (Go.Sl.Var.at1 Ty.sc22 .here (Go.Sl.GetN.lit rfl))) ?_
  (refine Go.Sl.ow_buildL (es := ([f.sq])) rfl rfl Try.underlying60 Ty.em60 (uTy) rfl rfl (by first | (simp [*]; done) | (repeat (first | exact List.forall_mem_nil _ | refine List.forall_mem_cons.2 ⟨?_, ?_⟩ | assumption | (show _ ∧ _; omega)))) (by simp only [List.length_cons, List.length_nil]; decide) ?_; intro ao137 c137 hL137)
  (refine Go.Sl.ow_call rfl rfl rfl rfl (wr1_c (s := S) (by repeat (first | exact Go.Sl.Sel.here | apply Go.Sl.Sel.there)) hq20 (by omega) (fun c' => Go.Sl.Ls.vw (by assumption) (by repeat (first | exact Go.Sl.Sub.here | assumption | refine Go.Sl.Sub.there ?_)))) ?_; rintro _ _ ⟨x138, rfl, hq138, rfl⟩)
  refine Go.Sl.ow_nil ?_
  refine Go.Sl.xw_block ?_
  refine Go.Sl.ret0n rfl ?_
  rotate_left
  refine Go.Sl.cw_seq ?_
  refine Go.Sl.cw_seq ?_
  refine Go.Sl.cw_region ?_
  refine Go.Sl.ow_val rfl rfl (Go.Sl.v_eql rfl rfl) ?_
  refine Go.Sl.ow_val rfl rfl (Go.Sl.v_assign rfl) ?_
  refine Go.Sl.ow_nil ?_
  refine Go.Sl.xw_then ?_
  refine Go.Sl.cw_dec rfl (fun hc139 => ?_) (fun hc139 => ?_)
  refine Go.Sl.cw_skip ?_
  refine Go.Sl.xw_then ?_
  refine Go.Sl.cw_dec rfl (fun hc139 => ?_) (fun hc139 => ?_)
  rotate_left; (exfalso; omega); rotate_right
  refine Go.Sl.cw_region ?_
  refine Go.Sl.ow_val rfl rfl (Go.Sl.v_move rfl) ?_
  refine Go.Sl.ow_val rfl rfl (Go.Sl.v_fieldAddr0 Ty.fd30_14 rfl) ?_
  refine Go.Sl.ow_val rfl rfl (Go.Sl.v_sliceA_nn Try.underlying24 Ty.el24 rfl) ?_
  (refine Go.Sl.ow_call rfl rfl rfl rfl (wrBytesM_c (s := S) (by repeat (first | exact Go.Sl.Sel.here | apply Go.Sl.Sel.there)) hq20 (by omega) (by omega) (wd_vw hok (by repeat (first | exact Go.Sl.Sub.here | assumption | refine Go.Sl.Sub.there ?_)))) ?_; rintro _ _ ⟨x145, rfl, hq145, rfl⟩)
  refine Go.Sl.ow_nil ?_
  refine Go.Sl.xw_block ?_
  refine Go.Sl.ret0n rfl ?_
  rotate_left
  refine Go.Sl.cw_region ?_
  refine Go.Sl.ow_val rfl rfl (Go.Sl.v_eql rfl rfl) ?_
  refine Go.Sl.ow_val rfl rfl (Go.Sl.v_assign rfl) ?_
  refine Go.Sl.ow_nil ?_
  refine Go.Sl.xw_then ?_
  refine Go.Sl.cw_dec rfl (fun hc139 => ?_) (fun hc139 => ?_)
  refine Go.Sl.cw_region ?_
  refine Go.Sl.ow_val rfl rfl (Go.Sl.v_move rfl) ?_
  refine Go.Sl.ow_val rfl rfl (Go.Sl.v_fieldAddr0 Ty.fd30_14 rfl) ?_
  refine Go.Sl.ow_val rfl rfl (Go.Sl.v_sliceA_nn Try.underlying24 Ty.el24 rfl) ?_
  (refine Go.Sl.ow_call rfl rfl rfl rfl (wrBytesM_c (s := S) (by repeat (first | exact Go.Sl.Sel.here | apply Go.Sl.Sel.there)) hq20 (by omega) (by omega) (wd_vw hok (by repeat (first | exact Go.Sl.Sub.here | assumption | refine Go.Sl.Sub.there ?_)))) ?_; rintro _ _ ⟨x145, rfl, hq145, rfl⟩)
  refine Go.Sl.ow_nil ?_
  refine Go.Sl.xw_block ?_
  refine Go.Sl.ret0n rfl ?_
  rotate_left
  refine Go.Sl.cw_seq ?_
  refine Go.Sl.cw_region ?_
  refine Go.Sl.ow_val rfl rfl (Go.Sl.v_eql rfl rfl) ?_
  refine Go.Sl.ow_val rfl rfl (Go.Sl.v_assign rfl) ?_
  refine Go.Sl.ow_nil ?_
  refine Go.Sl.xw_then ?_
  refine Go.Sl.cw_dec rfl (fun hc146 => ?_) (fun hc146 => ?_)
  refine Go.Sl.cw_seq ?_
  refine Go.Sl.cw_region ?_
  refine Go.Sl.ow_val rfl rfl (Go.Sl.v_move rfl) ?_
  refine Go.Sl.ow_val rfl rfl (Go.Sl.v_fieldAddr0 Ty.fd30_4 rfl) ?_
  refine Go.Sl.ow_val rfl rfl (Go.Sl.v_load rfl (Go.Sl.Var.at1 Ty.sc22 .here (Go.Sl.GetN.lit rfl))) ?_
  refine Go.Sl.ow_val rfl rfl (Go.Sl.v_fieldAddr0 Ty.fd30_3 rfl) ?_
  refine Go.Sl.ow_val rfl rfl (Go.Sl.v_load rfl (Go.Sl.Var.at1 Ty.sc22 .here (Go.Sl.GetN.lit rfl))) ?_
  (refine Go.Sl.ow_buildL (es := ([f.cod, f.lim])) rfl rfl Try.underlying60 Ty.em60 (uTy) rfl rfl (by first | (simp [*]; done) | (repeat (first | exact List.forall_mem_nil _ | refine List.forall_mem_cons.2 ⟨?_, ?_⟩ | assumption | (show _ ∧ _; omega)))) (by simp only [List.length_cons, List.length_nil]; decide) ?_; intro ao153 c153 hL153)
  (refine Go.Sl.ow_call rfl rfl rfl rfl (wr2_c (s := S) (by repeat (first | exact Go.Sl.Sel.here | apply Go.Sl.Sel.there)) hq20 (by omega) (fun c' => Go.Sl.Ls.vw (by assumption) (by repeat (first | exact Go.Sl.Sub.here | assumption | refine Go.Sl.Sub.there ?_)))) ?_; rintro _ _ ⟨x154, rfl, hq154, rfl⟩)
  refine Go.Sl.ow_nil ?_
  refine Go.Sl.xw_then ?_
  refine Go.Sl.cw_region ?_
  refine Go.Sl.ow_val rfl rfl (Go.Sl.v_move rfl) ?_
  refine Go.Sl.ow_val rfl rfl (Go.Sl.v_fieldAddr0 Ty.fd30_5 rfl) ?_
  refine Go.Sl.ow_val rfl rfl (Go.Sl.v_load rfl (Go.Sl.Var.at1 Ty.sc23 (.there .here) (Go.Sl.GetN.lit rfl))) ?_
  (refine Go.Sl.ow_call rfl rfl rfl rfl (wrLong_c (s := wI S [f.cod, f.lim]) (by repeat (first | exact Go.Sl.Sel.here | apply Go.Sl.Sel.there)) hq154 (by have := L2 f.cod f.lim; omega) (by omega) (fun c' => (hVF c').d.cov (by first | exact Go.Sl.Cov.refl _ | (intro p; simp only [List.flatten_cons, List.flatten_nil, List.flatten_append, List.append_nil, List.nil_append, Go.Sl.cnt_append, Go.Sl.cnt_cons, Go.Sl.cnt_nil, List.set_cons_zero, List.set_cons_succ, List.length_nil, List.length_cons, Nat.zero_add, List.append]; omega)))) ?_; rintro _ _ ⟨x158, rfl, hq158, rfl⟩)
  refine Go.Sl.ow_nil ?_
  refine Go.Sl.xw_block ?_
  refine Go.Sl.ret0n rfl ?_
  rotate_left
  refine Go.Sl.cw_seq ?_
  refine Go.Sl.cw_region ?_
  refine Go.Sl.ow_val rfl rfl (Go.Sl.v_eql rfl rfl) ?_
  refine Go.Sl.ow_val rfl rfl (Go.Sl.v_assign rfl) ?_
  refine Go.Sl.ow_nil ?_
  refine Go.Sl.xw_then ?_
  refine Go.Sl.cw_dec rfl (fun hc159 => ?_) (fun hc159 => ?_)
  refine Go.Sl.cw_seq ?_
  refine Go.Sl.cw_region ?_
  refine Go.Sl.ow_val rfl rfl (Go.Sl.v_move rfl) ?_
  refine Go.Sl.ow_val rfl rfl (Go.Sl.v_fieldAddr0 Ty.fd30_4 rfl) ?_
  refine Go.Sl.ow_val rfl rfl (Go.Sl.v_load rfl (Go.Sl.Var.at1 Ty.sc22 .here (Go.Sl.GetN.lit rfl))) ?_
  (refine Go.Sl.ow_buildL (es := ([f.cod])) rfl rfl Try.underlying60 Ty.em60 (uTy) rfl rfl (by first | (simp [*]; done) | (repeat (first | exact List.forall_mem_nil _ | refine List.forall_mem_cons.2 ⟨?_, ?_⟩ | assumption | (show _ ∧ _; omega)))) (by simp only [List.length_cons, List.length_nil]; decide) ?_; intro ao164 c164 hL164)
  (refine Go.Sl.ow_call rfl rfl rfl rfl (wr1_c (s := S) (by repeat (first | exact Go.Sl.Sel.here | apply Go.Sl.Sel.there)) hq20 (by omega) (fun c' => Go.Sl.Ls.vw (by assumption) (by repeat (first | exact Go.Sl.Sub.here | assumption | refine Go.Sl.Sub.there ?_)))) ?_; rintro _ _ ⟨x165, rfl, hq165, rfl⟩)
  refine Go.Sl.ow_nil ?_
  refine Go.Sl.xw_then ?_
  refine Go.Sl.cw_region ?_
  refine Go.Sl.ow_val rfl rfl (Go.Sl.v_move rfl) ?_
  refine Go.Sl.ow_val rfl rfl (Go.Sl.v_fieldAddr0 Ty.fd30_5 rfl) ?_
  refine Go.Sl.ow_val rfl rfl (Go.Sl.v_load rfl (Go.Sl.Var.at1 Ty.sc23 (.there .here) (Go.Sl.GetN.lit rfl))) ?_
  (refine Go.Sl.ow_call rfl rfl rfl rfl (wrLong_c (s := wI S [f.cod]) (by repeat (first | exact Go.Sl.Sel.here | apply Go.Sl.Sel.there)) hq165 (by have := L1 f.cod; omega) (by omega) (fun c' => (hVF c').d.cov (by first | exact Go.Sl.Cov.refl _ | (intro p; simp only [List.flatten_cons, List.flatten_nil, List.flatten_append, List.append_nil, List.nil_append, Go.Sl.cnt_append, Go.Sl.cnt_cons, Go.Sl.cnt_nil, List.set_cons_zero, List.set_cons_succ, List.length_nil, List.length_cons, Nat.zero_add, List.append]; omega)))) ?_; rintro _ _ ⟨x169, rfl, hq169, rfl⟩)
  refine Go.Sl.ow_nil ?_
  refine Go.Sl.xw_block ?_
  refine Go.Sl.ret0n rfl ?_
  rotate_left
  refine Go.Sl.cw_skip ?_
  refine Go.Sl.xw_block ?_
  refine Go.Sl.ret0n rfl ?_
  rotate_left
  · rw [wBody_2 (by assumption)]
    exact ⟨x28, rfl, hq28, (by first | exact Go.Sl.Cov.refl _ | (intro p; simp only [List.flatten_cons, List.flatten_nil, List.flatten_append, List.append_nil, List.nil_append, Go.Sl.cnt_append, Go.Sl.cnt_cons, Go.Sl.cnt_nil, List.set_cons_zero, List.set_cons_succ, List.length_nil, List.length_cons, Nat.zero_add, List.append]; omega))⟩
  · rw [wBody_3 (by assumption)]
    exact ⟨x35, rfl, hq35, (by first | exact Go.Sl.Cov.refl _ | (intro p; simp only [List.flatten_cons, List.flatten_nil, List.flatten_append, List.append_nil, List.nil_append, Go.Sl.cnt_append, Go.Sl.cnt_cons, Go.Sl.cnt_nil, List.set_cons_zero, List.set_cons_succ, List.length_nil, List.length_cons, Nat.zero_add, List.append]; omega))⟩
  · rw [wBody_4 (by assumption)]
    exact ⟨x46, rfl, hq46, (by first | exact Go.Sl.Cov.refl _ | (intro p; simp only [List.flatten_cons, List.flatten_nil, List.flatten_append, List.append_nil, List.nil_append, Go.Sl.cnt_append, Go.Sl.cnt_cons, Go.Sl.cnt_nil, List.set_cons_zero, List.set_cons_succ, List.length_nil, List.length_cons, Nat.zero_add, List.append]; omega))⟩
  · rw [wBody_5 (by assumption)]
    exact ⟨x55, rfl, hq55, (by first | exact Go.Sl.Cov.refl _ | (intro p; simp only [List.flatten_cons, List.flatten_nil, List.flatten_append, List.append_nil, List.nil_append, Go.Sl.cnt_append, Go.Sl.cnt_cons, Go.Sl.cnt_nil, List.set_cons_zero, List.set_cons_succ, List.length_nil, List.length_cons, Nat.zero_add, List.append]; omega))⟩
  · rw [wBody_6 (by assumption)]
    exact ⟨x66, rfl, hq66, (by first | exact Go.Sl.Cov.refl _ | (intro p; simp only [List.flatten_cons, List.flatten_nil, List.flatten_append, List.append_nil, List.nil_append, Go.Sl.cnt_append, Go.Sl.cnt_cons, Go.Sl.cnt_nil, List.set_cons_zero, List.set_cons_succ, List.length_nil, List.length_cons, Nat.zero_add, List.append]; omega))⟩
  · rw [wBody_7 (by assumption)]
    exact ⟨x72, rfl, hq72, (by first | exact Go.Sl.Cov.refl _ | (intro p; simp only [List.flatten_cons, List.flatten_nil, List.flatten_append, List.append_nil, List.nil_append, Go.Sl.cnt_append, Go.Sl.cnt_cons, Go.Sl.cnt_nil, List.set_cons_zero, List.set_cons_succ, List.length_nil, List.length_cons, Nat.zero_add, List.append]; omega))⟩
  · rw [wBody_8 (by assumption)]
    exact ⟨x85, rfl, hq85, (by first | exact Go.Sl.Cov.refl _ | (intro p; simp only [List.flatten_cons, List.flatten_nil, List.flatten_append, List.append_nil, List.nil_append, Go.Sl.cnt_append, Go.Sl.cnt_cons, Go.Sl.cnt_nil, List.set_cons_zero, List.set_cons_succ, List.length_nil, List.length_cons, Nat.zero_add, List.append]; omega))⟩
  · rw [wBody_16 (by assumption)]
    exact ⟨x97, rfl, hq97, (by first | exact Go.Sl.Cov.refl _ | (intro p; simp only [List.flatten_cons, List.flatten_nil, List.flatten_append, List.append_nil, List.nil_append, Go.Sl.cnt_append, Go.Sl.cnt_cons, Go.Sl.cnt_nil, List.set_cons_zero, List.set_cons_succ, List.length_nil, List.length_cons, Nat.zero_add, List.append]; omega))⟩
  · rw [wBody_18 (by assumption)]
    exact ⟨x97, rfl, hq97, (by first | exact Go.Sl.Cov.refl _ | (intro p; simp only [List.flatten_cons, List.flatten_nil, List.flatten_append, List.append_nil, List.nil_append, Go.Sl.cnt_append, Go.Sl.cnt_cons, Go.Sl.cnt_nil, List.set_cons_zero, List.set_cons_succ, List.length_nil, List.length_cons, Nat.zero_add, List.append]; omega))⟩
  · rw [wBody_19 (by assumption)]
    exact ⟨x97, rfl, hq97, (by first | exact Go.Sl.Cov.refl _ | (intro p; simp only [List.flatten_cons, List.flatten_nil, List.flatten_append, List.append_nil, List.nil_append, Go.Sl.cnt_append, Go.Sl.cnt_cons, Go.Sl.cnt_nil, List.set_cons_zero, List.set_cons_succ, List.length_nil, List.length_cons, Nat.zero_add, List.append]; omega))⟩
  · rw [wBody_20 (by assumption)]
    exact ⟨x97, rfl, hq97, (by first | exact Go.Sl.Cov.refl _ | (intro p; simp only [List.flatten_cons, List.flatten_nil, List.flatten_append, List.append_nil, List.nil_append, Go.Sl.cnt_append, Go.Sl.cnt_cons, Go.Sl.cnt_nil, List.set_cons_zero, List.set_cons_succ, List.length_nil, List.length_cons, Nat.zero_add, List.append]; omega))⟩
  · rw [wBody_22 (by assumption)]
    exact ⟨x97, rfl, hq97, (by first | exact Go.Sl.Cov.refl _ | (intro p; simp only [List.flatten_cons, List.flatten_nil, List.flatten_append, List.append_nil, List.nil_append, Go.Sl.cnt_append, Go.Sl.cnt_cons, Go.Sl.cnt_nil, List.set_cons_zero, List.set_cons_succ, List.length_nil, List.length_cons, Nat.zero_add, List.append]; omega))⟩
  · rw [wBody_23 (by assumption)]
    exact ⟨x97, rfl, hq97, (by first | exact Go.Sl.Cov.refl _ | (intro p; simp only [List.flatten_cons, List.flatten_nil, List.flatten_append, List.append_nil, List.nil_append, Go.Sl.cnt_append, Go.Sl.cnt_cons, Go.Sl.cnt_nil, List.set_cons_zero, List.set_cons_succ, List.length_nil, List.length_cons, Nat.zero_add, List.append]; omega))⟩
  · rw [wBody_17 (by assumption)]
    exact ⟨x107, rfl, hq107, (by first | exact Go.Sl.Cov.refl _ | (intro p; simp only [List.flatten_cons, List.flatten_nil, List.flatten_append, List.append_nil, List.nil_append, Go.Sl.cnt_append, Go.Sl.cnt_cons, Go.Sl.cnt_nil, List.set_cons_zero, List.set_cons_succ, List.length_nil, List.length_cons, Nat.zero_add, List.append]; omega))⟩
  · rw [wBody_21 (by assumption)]
    exact ⟨x107, rfl, hq107, (by first | exact Go.Sl.Cov.refl _ | (intro p; simp only [List.flatten_cons, List.flatten_nil, List.flatten_append, List.append_nil, List.nil_append, Go.Sl.cnt_append, Go.Sl.cnt_cons, Go.Sl.cnt_nil, List.set_cons_zero, List.set_cons_succ, List.length_nil, List.length_cons, Nat.zero_add, List.append]; omega))⟩
  · rw [wBody_24 (by assumption)]
    exact ⟨x131, rfl, hq131, (by first | exact Go.Sl.Cov.refl _ | (intro p; simp only [List.flatten_cons, List.flatten_nil, List.flatten_append, List.append_nil, List.nil_append, Go.Sl.cnt_append, Go.Sl.cnt_cons, Go.Sl.cnt_nil, List.set_cons_zero, List.set_cons_succ, List.length_nil, List.length_cons, Nat.zero_add, List.append]; omega))⟩
  · rw [wBody_25 (by assumption)]
    exact ⟨x138, rfl, hq138, (by first | exact Go.Sl.Cov.refl _ | (intro p; simp only [List.flatten_cons, List.flatten_nil, List.flatten_append, List.append_nil, List.nil_append, Go.Sl.cnt_append, Go.Sl.cnt_cons, Go.Sl.cnt_nil, List.set_cons_zero, List.set_cons_succ, List.length_nil, List.length_cons, Nat.zero_add, List.append]; omega))⟩
  · rw [wBody_26 (by assumption)]
    exact ⟨x145, rfl, hq145, (by first | exact Go.Sl.Cov.refl _ | (intro p; simp only [List.flatten_cons, List.flatten_nil, List.flatten_append, List.append_nil, List.nil_append, Go.Sl.cnt_append, Go.Sl.cnt_cons, Go.Sl.cnt_nil, List.set_cons_zero, List.set_cons_succ, List.length_nil, List.length_cons, Nat.zero_add, List.append]; omega))⟩
  · rw [wBody_27 (by assumption)]
    exact ⟨x145, rfl, hq145, (by first | exact Go.Sl.Cov.refl _ | (intro p; simp only [List.flatten_cons, List.flatten_nil, List.flatten_append, List.append_nil, List.nil_append, Go.Sl.cnt_append, Go.Sl.cnt_cons, Go.Sl.cnt_nil, List.set_cons_zero, List.set_cons_succ, List.length_nil, List.length_cons, Nat.zero_add, List.append]; omega))⟩
  · rw [wBody_28 (by assumption)]
    exact ⟨x158, rfl, hq158, (by first | exact Go.Sl.Cov.refl _ | (intro p; simp only [List.flatten_cons, List.flatten_nil, List.flatten_append, List.append_nil, List.nil_append, Go.Sl.cnt_append, Go.Sl.cnt_cons, Go.Sl.cnt_nil, List.set_cons_zero, List.set_cons_succ, List.length_nil, List.length_cons, Nat.zero_add, List.append]; omega))⟩
  · rw [wBody_29 (by assumption)]
    exact ⟨x169, rfl, hq169, (by first | exact Go.Sl.Cov.refl _ | (intro p; simp only [List.flatten_cons, List.flatten_nil, List.flatten_append, List.append_nil, List.nil_append, Go.Sl.cnt_append, Go.Sl.cnt_cons, Go.Sl.cnt_nil, List.set_cons_zero, List.set_cons_succ, List.length_nil, List.length_cons, Nat.zero_add, List.append]; omega))⟩
  · rw [wBody_none (by omega)]
    exact ⟨x20, rfl, hq20, (by first | exact Go.Sl.Cov.refl _ | (intro p; simp only [List.flatten_cons, List.flatten_nil, List.flatten_append, List.append_nil, List.nil_append, Go.Sl.cnt_append, Go.Sl.cnt_cons, Go.Sl.cnt_nil, List.set_cons_zero, List.set_cons_succ, List.length_nil, List.length_cons, Nat.zero_add, List.append]; omega))⟩

end Go.Proofs.Ytckdhelnafjddaa
