/- The library's sort at lists of small numbers: bits, the pseudo-random numbers, the choice of a pivot. Conditions: lists are short. -/
import Derived.Test.YtckdhelnafjddaaSort
import Derived.Test.YtckdhelnafjddaaVb
namespace Go.Proofs.Ytckdhelnafjddaa
open Go Go.Sl Go.Proofs
set_option maxRecDepth 20000
set_option linter.unusedVariables false
set_option linter.unusedSimpArgs false

set_option maxHeartbeats 4000000 in
theorem len64_c {B : Nat} {w0 : World} {G : List Hp} {n : Nat} (hn2 : n < 65536) :
    Go.Sl.Fn Try.prog 120 #[.int .u64 n] B w0 G fun u G' => ∃ L : Nat, u = .int .i64 L ∧ BitLen n L ∧ G' = G := by
  refine Fn.val ?_
  refine fn_enter Try.func120 rfl (by kernel_rfl) Try.ntmps120 (by simp) ?_
  refine cw_seq ?_
  refine cw_region ?_
  refine ow_val rfl rfl (v_assign rfl) ?_
  refine ow_nil ?_
  refine xw_then ?_
  refine cw_seq ?_
  refine cw_seq ?_
  refine cw_region ?_
  refine ow_val rfl rfl (v_move rfl) ?_
  refine ow_val rfl rfl (v_geq rfl rfl) ?_
  refine ow_nil ?_
  refine xw_then ?_
  refine cw_dec rfl (fun hc4 => ?_) (fun hc4 => ?_)
  (exfalso; omega)
  refine cw_skip ?_
  refine xw_then ?_
  refine cw_seq ?_
  refine cw_seq ?_
  refine cw_region ?_
  refine ow_val rfl rfl (v_move rfl) ?_
  refine ow_val rfl rfl (v_geq rfl rfl) ?_
  refine ow_nil ?_
  refine xw_then ?_
  refine cw_dec rfl (fun hc8 => ?_) (fun hc8 => ?_)
  (exfalso; omega)
  refine cw_skip ?_
  refine xw_then ?_
  refine cw_seq ?_
  refine cw_seq ?_
  refine cw_region ?_
  refine ow_val rfl rfl (v_move rfl) ?_
  refine ow_val rfl rfl (v_geq rfl rfl) ?_
  refine ow_nil ?_
  refine xw_then ?_
  refine cw_dec rfl (fun hc14 => ?_) (fun hc14 => ?_)
  refine cw_seq ?_
  refine cw_region ?_
  refine ow_val rfl rfl (v_move rfl) ?_
  refine ow_val rfl rfl (v_shrP (p := 256) rfl rfl (by omega) (by decide) (by omega) (by decide)) ?_
  refine ow_val rfl rfl (v_assign rfl) ?_
  refine ow_nil ?_
  refine xw_then ?_
  refine cw_region ?_
  refine ow_val rfl rfl (v_move rfl) ?_
  refine ow_val rfl rfl (v_add rfl rfl (nw_i64 (by omega) (by omega))) ?_
  refine ow_val rfl rfl (v_assign rfl) ?_
  refine ow_nil ?_
  refine xw_then ?_
  refine cw_seq ?_
  refine cw_region ?_
  refine ow_val rfl rfl (v_move rfl) ?_
  refine ow_val rfl rfl (v_move rfl) ?_
  refine ow_val rfl rfl (v_convert Try.underlying22 Try.underlying5 rfl (nw_u8 (by omega) (by omega))) ?_
  rotate_left
  refine cw_skip ?_
  refine xw_then ?_
  refine cw_seq ?_
  refine cw_region ?_
  refine ow_val rfl rfl (v_move rfl) ?_
  refine ow_val rfl rfl (v_move rfl) ?_
  refine ow_val rfl rfl (v_convert Try.underlying22 Try.underlying5 rfl (nw_u8 (by omega) (by omega))) ?_
  rotate_left
  · refine ow_val rfl rfl (v_len8 Try.underlying9 (by kernel_rfl) rfl (by omega) (by omega)) ?_
    have hb := bitLen_hi (n := n) (by omega) hn2
    have h3 := len8_spec (i := n / 256) (by omega)
    have he : ((n : Int) / 256) = ((n / 256 : Nat) : Int) := by omega
    rw [he]
    generalize Lib.len8 ((n / 256 : Nat) : Int) = l at *
    refine ow_val rfl rfl (v_convert Try.underlying5 Try.underlying3 rfl (nw_i64 (by omega) (by omega))) ?_
    refine ow_val rfl rfl (v_add rfl rfl (nw_i64 (by omega) (by omega))) ?_
    refine ow_val rfl rfl (v_assign rfl) ?_
    refine ow_nil ?_
    refine xw_then ?_
    refine cw_ret ?_
    refine ret1 rfl (res_tmp rfl) ?_
    exact ⟨8 + l.toNat, congrArg (Value.int .i64) (by omega), hb, (by first | exact Cov.refl _ | (intro p; simp only [List.flatten_cons, List.flatten_nil, List.flatten_append, List.append_nil, List.nil_append, cnt_append, cnt_cons, cnt_nil, List.set_cons_zero, List.set_cons_succ, List.length_nil, List.length_cons, Nat.zero_add, List.append]; omega))⟩
  · refine ow_val rfl rfl (v_len8 Try.underlying9 (by kernel_rfl) rfl (by omega) (by omega)) ?_
    have hb := bitLen_lo (n := n) (by omega)
    have h3 := len8_spec (i := n) (by omega)
    generalize Lib.len8 (n : Int) = l at *
    refine ow_val rfl rfl (v_convert Try.underlying5 Try.underlying3 rfl (nw_i64 (by omega) (by omega))) ?_
    refine ow_val rfl rfl (v_add rfl rfl (nw_i64 (by omega) (by omega))) ?_
    refine ow_val rfl rfl (v_assign rfl) ?_
    refine ow_nil ?_
    refine xw_then ?_
    refine cw_ret ?_
    refine ret1 rfl (res_tmp rfl) ?_
    exact ⟨l.toNat, congrArg (Value.int .i64) (by omega), hb, (by first | exact Cov.refl _ | (intro p; simp only [List.flatten_cons, List.flatten_nil, List.flatten_append, List.append_nil, List.nil_append, cnt_append, cnt_cons, cnt_nil, List.set_cons_zero, List.set_cons_succ, List.length_nil, List.length_cons, Nat.zero_add, List.append]; omega))⟩
theorem len_c {B : Nat} {w0 : World} {G : List Hp} {n : Nat} {x : Int} (hx : x = n) (hn2 : n < 65536) :
    Go.Sl.Fn Try.prog 84 #[.int .u64 x] B w0 G fun u G' => ∃ L : Nat, u = .int .i64 L ∧ BitLen n L ∧ G' = G := by
  subst hx
  refine Fn.val ?_
  refine fn_enter Try.func84 rfl (by kernel_rfl) Try.ntmps84 (by simp) ?_
  refine cw_seq ?_
  refine cw_region ?_
  refine ow_val rfl rfl (v_assign rfl) ?_
  refine ow_nil ?_
  refine xw_then ?_
  refine cw_seq ?_
  refine cw_false rfl ?_
  refine cw_skip ?_
  refine xw_then ?_
  refine cw_seq ?_
  refine cw_region ?_
  refine ow_val rfl rfl (v_move rfl) ?_
  (refine ow_call rfl rfl rfl rfl (len64_c hn2) ?_; rintro _ _ ⟨x7, rfl, hq7, rfl⟩)
  refine ow_val rfl rfl (v_assign rfl) ?_
  refine ow_nil ?_
  refine xw_then ?_
  refine cw_ret ?_
  refine ret1 rfl (res_tmp rfl) ?_
  exact ⟨x7, rfl, hq7, (by first | exact Cov.refl _ | (intro p; simp only [List.flatten_cons, List.flatten_nil, List.flatten_append, List.append_nil, List.nil_append, cnt_append, cnt_cons, cnt_nil, List.set_cons_zero, List.set_cons_succ, List.length_nil, List.length_cons, Nat.zero_add, List.append]; omega))⟩
theorem pow2_c {B : Nat} {w0 : World} {G : List Hp} {n : Nat} {x : Int} (hx : x = n) (hn : 0 < n) (hn2 : n < 65536) :
    Go.Sl.Fn Try.prog 136 #[.int .i64 x] B w0 G fun u G' => ∃ m : Nat, u = .int .u64 m ∧ (n < m ∧ m ≤ 2 * n) ∧ G' = G := by
  subst hx
  refine Fn.val ?_
  refine fn_enter Try.func136 rfl (by kernel_rfl) Try.ntmps136 (by simp) ?_
  refine cw_seq ?_
  refine cw_region ?_
  refine ow_val rfl rfl (v_assign rfl) ?_
  refine ow_nil ?_
  refine xw_then ?_
  refine cw_seq ?_
  refine cw_region ?_
  refine ow_val rfl rfl (v_move rfl) ?_
  refine ow_val rfl rfl (v_convert Try.underlying3 Try.underlying166 rfl (nw_u64 (by omega) (by omega))) ?_
  (refine ow_call rfl rfl rfl rfl (len_c rfl hn2) ?_; rintro _ _ ⟨x5, rfl, hq5, rfl⟩)
  refine ow_val rfl rfl (v_shl rfl rfl (by omega) rfl) ?_
  refine ow_val rfl rfl (v_assign rfl) ?_
  refine ow_nil ?_
  refine xw_then ?_
  refine cw_ret ?_
  refine ret1 rfl (res_tmp rfl) ?_
  have h1 := hq5.1
  have h2 := hq5.2.1 hn
  have h3 := hq5.2.2
  refine ⟨2 ^ x5, congrArg (Value.int .u64) ?_, ⟨h1, h2⟩, (by first | exact Cov.refl _ | (intro p; simp only [List.flatten_cons, List.flatten_nil, List.flatten_append, List.append_nil, List.nil_append, cnt_append, cnt_cons, cnt_nil, List.set_cons_zero, List.set_cons_succ, List.length_nil, List.length_cons, Nat.zero_add, List.append]; omega))⟩
  have h4 : min (Int.toNat (x5 : Int)) IntKind.u64.bits = x5 := by
    show min (Int.toNat (x5 : Int)) 64 = x5
    omega
  have h5 : (1 : Int) * 2 ^ min (Int.toNat (x5 : Int)) IntKind.u64.bits = ((2 ^ x5 : Nat) : Int) := by
    rw [h4, Int.one_mul]
    exact (Int.natCast_pow 2 x5).symm
  rw [h5]
  generalize 2 ^ x5 = p at *
  exact nw_u64 (by omega) (by omega)
def xsCell (b : Nat) (r : Int) : Hp := [(b, .cells [Value.int .u64 r].toArray 215 (0, 0))]
set_option maxHeartbeats 4000000 in
theorem next_c {B : Nat} {w0 : World} {G : List Hp} {R : Hp → List Hp} {b : Nat} {r : Int} (hsel : Sel G (xsCell b r) R) :
    Go.Sl.Fn Try.prog 137 #[.pointer (some ⟨b, 0, none⟩)] B w0 G fun u G' => ∃ x : Int, u = .int .u64 x ∧ (0 ≤ x ∧ x ≤ 18446744073709551615) ∧ G' = R (xsCell b x) := by
  refine Fn.sel0 hsel fun F hR hF => ?_
  unfold xsCell
  refine fn_enter Try.func137 rfl (by kernel_rfl) Try.ntmps137 (by simp) ?_
  refine cw_seq ?_
  refine cw_region ?_
  refine ow_val rfl rfl (v_assign rfl) ?_
  refine ow_nil ?_
  refine xw_then ?_
  refine cw_seq ?_
  refine cw_mix [] [9] [0, 1, 2, 3, 4, 5, 6, 7, 8] Ty.mixed rfl rfl rfl rfl (by decide +kernel) ?_
  refine hw_pure rfl rfl (v_move rfl) rfl ?_
  refine hw_pure rfl rfl (v_nilCheck rfl) rfl ?_
  refine hw_read rfl rfl rfl (v_load rfl (Var.at1 Ty.sc215 .here (GetN.lit rfl))) ?_
  refine hw_pure rfl rfl (v_move rfl) rfl ?_
  refine hw_pure rfl rfl (v_nilCheck rfl) rfl ?_
  refine hw_read rfl rfl rfl (v_load rfl (Var.at1 Ty.sc215 .here (GetN.lit rfl))) ?_
  refine hw_pure rfl rfl (v_shl rfl rfl (by omega) rfl) rfl ?_
  refine hw_pure rfl rfl (v_xor rfl rfl rfl) rfl ?_
  refine hw_pure rfl rfl (v_nilCheck rfl) rfl ?_
  refine hw_nil ?_
  refine sw_nil ?_
  refine ow_store1 rfl rfl rfl rfl Ty.sc215 .here (SetN.one (by first | decide | exact Nat.le_of_ble_eq_true rfl)) ?_
  refine ow_nil ?_
  refine xw_np ?_
  refine xw_then ?_
  refine cw_seq ?_
  refine cw_mix [] [9] [0, 1, 2, 3, 4, 5, 6, 7, 8] Ty.mixed rfl rfl rfl rfl (by decide +kernel) ?_
  refine hw_pure rfl rfl (v_move rfl) rfl ?_
  refine hw_pure rfl rfl (v_nilCheck rfl) rfl ?_
  refine hw_read rfl rfl rfl (v_load rfl (Var.at1 Ty.sc215 .here (GetN.lit rfl))) ?_
  refine hw_pure rfl rfl (v_move rfl) rfl ?_
  refine hw_pure rfl rfl (v_nilCheck rfl) rfl ?_
  refine hw_read rfl rfl rfl (v_load rfl (Var.at1 Ty.sc215 .here (GetN.lit rfl))) ?_
  refine hw_pure rfl rfl (v_shr rfl rfl (by omega) rfl) rfl ?_
  refine hw_pure rfl rfl (v_xor rfl rfl rfl) rfl ?_
  refine hw_pure rfl rfl (v_nilCheck rfl) rfl ?_
  refine hw_nil ?_
  refine sw_nil ?_
  refine ow_store1 rfl rfl rfl rfl Ty.sc215 .here (SetN.one (by first | decide | exact Nat.le_of_ble_eq_true rfl)) ?_
  refine ow_nil ?_
  refine xw_np ?_
  refine xw_then ?_
  refine cw_seq ?_
  refine cw_mix [] [9] [0, 1, 2, 3, 4, 5, 6, 7, 8] Ty.mixed rfl rfl rfl rfl (by decide +kernel) ?_
  refine hw_pure rfl rfl (v_move rfl) rfl ?_
  refine hw_pure rfl rfl (v_nilCheck rfl) rfl ?_
  refine hw_read rfl rfl rfl (v_load rfl (Var.at1 Ty.sc215 .here (GetN.lit rfl))) ?_
  refine hw_pure rfl rfl (v_move rfl) rfl ?_
  refine hw_pure rfl rfl (v_nilCheck rfl) rfl ?_
  refine hw_read rfl rfl rfl (v_load rfl (Var.at1 Ty.sc215 .here (GetN.lit rfl))) ?_
  refine hw_pure rfl rfl (v_shl rfl rfl (by omega) rfl) rfl ?_
  refine hw_pure rfl rfl (v_xor rfl rfl rfl) rfl ?_
  refine hw_pure rfl rfl (v_nilCheck rfl) rfl ?_
  refine hw_nil ?_
  refine sw_nil ?_
  refine ow_store1 rfl rfl rfl rfl Ty.sc215 .here (SetN.one (by first | decide | exact Nat.le_of_ble_eq_true rfl)) ?_
  refine ow_nil ?_
  refine xw_np ?_
  refine xw_then ?_
  refine cw_seq ?_
  refine cw_region ?_
  refine ow_val rfl rfl (v_move rfl) ?_
  refine ow_val rfl rfl (v_nilCheck rfl) ?_
  refine ow_val rfl rfl (v_load rfl (Var.at1 Ty.sc215 .here (GetN.lit rfl))) ?_
  refine ow_val rfl rfl (v_assign rfl) ?_
  refine ow_nil ?_
  refine xw_then ?_
  refine cw_ret ?_
  refine ret1 rfl (res_tmp rfl) ?_
  exact ⟨_, rfl, bits_u64, (by first | exact Cov.refl _ | (intro p; simp only [List.flatten_cons, List.flatten_nil, List.flatten_append, List.append_nil, List.nil_append, cnt_append, cnt_cons, cnt_nil, List.set_cons_zero, List.set_cons_succ, List.length_nil, List.length_cons, Nat.zero_add, List.append]; omega))⟩
def swKCell (b : Nat) (s : Int) : Hp := [(b, .cells [Value.int .i64 s].toArray 3 (0, 0))]
theorem order2K_c {B : Nat} {w0 : World} {G : List Hp} {R : Hp → List Hp} {ao : Option Addr} {n cap a b p : Nat} {l : List Int} {s : Int} {xa xb : Int} (hxa : xa = a) (hxb : xb = b) (hVV : Vw enKd (St B w0 G) (.slice ao n cap) l) (ha : a < l.length) (hb : b < l.length) (hn : l.length ≤ 1000000) (hsel : Sel G (swKCell p s) R) :
    Go.Sl.Fn Try.prog 150 #[.slice ao n cap, .int .i64 xa, .int .i64 xb, .pointer (some ⟨p, 0, none⟩)] B w0 G fun u G' => ∃ x : Nat × Nat × Int, u = .tuple #[.int .i64 x.1, .int .i64 x.2.1] ∧ (x.1 = a ∧ x.2.1 = b ∨ x.1 = b ∧ x.2.1 = a) ∧ G' = R (swKCell p x.2.2) := by
  subst hxa hxb
  have hl := hVV.len
  subst hl
  refine Fn.sel0 hsel fun F hR hF => ?_
  have hV2 : Vw enKd (St B w0 (swKCell p s :: F)) (.slice ao l.length cap) l := hVV.mono hF
  unfold swKCell at hV2 ⊢
  refine fn_enter Try.func150 rfl (by kernel_rfl) Try.ntmps150 (by simp) ?_
  refine cw_seq ?_
  refine cw_region ?_
  refine ow_val rfl rfl (v_assign rfl) ?_
  refine ow_val rfl rfl (v_assign rfl) ?_
  refine ow_nil ?_
  refine xw_then ?_
  refine cw_seq ?_
  refine cw_seq ?_
  refine cw_quiet Ty.mixed (by decide +kernel) ?_
  refine kw_val rfl rfl (v_move rfl) ?_
  refine kw_val rfl rfl (v_move rfl) ?_
  refine kw_val rfl rfl (v_indexAddr_vw Try.underlying99 (kdTy) rfl rfl (by assumption) rfl (by omega)) ?_
  refine kw_val rfl rfl (v_load rfl (Go.Sl.Vw.var (kdTy) (hV2) (by omega))) ?_
  refine kw_val rfl rfl (v_move rfl) ?_
  refine kw_val rfl rfl (v_move rfl) ?_
  refine kw_val rfl rfl (v_indexAddr_vw Try.underlying99 (kdTy) rfl rfl (by assumption) rfl (by omega)) ?_
  refine kw_val rfl rfl (v_load rfl (Go.Sl.Vw.var (kdTy) (hV2) (by omega))) ?_
  refine kw_val rfl rfl (v_call rfl rfl (lessK_c)) ?_
  refine kw_nil ?_
  refine xw_then ?_
  refine cw_dec rfl (fun hc18 => ?_) (fun hc18 => ?_)
  refine cw_seq ?_
  refine cw_region ?_
  refine ow_val rfl rfl (v_move rfl) ?_
  refine ow_val rfl rfl (v_nilCheck rfl) ?_
  refine ow_val rfl rfl (v_load rfl (Var.at1 Ty.sc3 .here (GetN.lit rfl))) ?_
  refine ow_val rfl rfl (v_add rfl rfl rfl) ?_
  refine ow_val rfl rfl (v_nilCheck rfl) ?_
  refine ow_store1 rfl rfl rfl rfl Ty.sc3 .here (SetN.one (by first | decide | exact Nat.le_of_ble_eq_true rfl)) ?_
  refine ow_nil ?_
  refine xw_then ?_
  refine cw_seq ?_
  refine cw_region ?_
  refine ow_val rfl rfl (v_move rfl) ?_
  refine ow_val rfl rfl (v_move rfl) ?_
  refine ow_val rfl rfl (v_assign rfl) ?_
  refine ow_val rfl rfl (v_assign rfl) ?_
  refine ow_nil ?_
  refine xw_then ?_
  refine cw_ret ?_
  refine xw_then_ret ?_
  refine ret2 rfl (res_tmp rfl) (res_tmp rfl) ?_
  rotate_left
  refine cw_skip ?_
  refine xw_then ?_
  refine cw_seq ?_
  refine cw_region ?_
  refine ow_val rfl rfl (v_move rfl) ?_
  refine ow_val rfl rfl (v_move rfl) ?_
  refine ow_val rfl rfl (v_assign rfl) ?_
  refine ow_val rfl rfl (v_assign rfl) ?_
  refine ow_nil ?_
  refine xw_then ?_
  refine cw_ret ?_
  refine ret2 rfl (res_tmp rfl) (res_tmp rfl) ?_
  rotate_left
  · exact ⟨(b, a, _), rfl, .inr ⟨rfl, rfl⟩, (by first | exact Cov.refl _ | (intro p; simp only [List.flatten_cons, List.flatten_nil, List.flatten_append, List.append_nil, List.nil_append, cnt_append, cnt_cons, cnt_nil, List.set_cons_zero, List.set_cons_succ, List.length_nil, List.length_cons, Nat.zero_add, List.append]; omega))⟩
  · exact ⟨(a, b, _), rfl, .inl ⟨rfl, rfl⟩, (by first | exact Cov.refl _ | (intro p; simp only [List.flatten_cons, List.flatten_nil, List.flatten_append, List.append_nil, List.nil_append, cnt_append, cnt_cons, cnt_nil, List.set_cons_zero, List.set_cons_succ, List.length_nil, List.length_cons, Nat.zero_add, List.append]; omega))⟩
set_option maxHeartbeats 4000000 in
theorem medianK_c {B : Nat} {w0 : World} {G : List Hp} {R : Hp → List Hp} {ao : Option Addr} {n cap a b m p : Nat} {l : List Int} {s : Int} {xa xb xm : Int} (hxa : xa = a) (hxb : xb = b) (hxm : xm = m) (hVV : Vw enKd (St B w0 G) (.slice ao n cap) l) (ha : a < l.length) (hb : b < l.length) (hm : m < l.length) (hn : l.length ≤ 1000000) (hsel : Sel G (swKCell p s) R) (hVR : ∀ s', Vw enKd (St B w0 (R (swKCell p s'))) (.slice ao n cap) l) :
    Go.Sl.Fn Try.prog 139 #[.slice ao n cap, .int .i64 xa, .int .i64 xb, .int .i64 xm, .pointer (some ⟨p, 0, none⟩)] B w0 G fun u G' => ∃ x : Nat × Int, u = .int .i64 x.1 ∧ (x.1 = a ∨ x.1 = b ∨ x.1 = m) ∧ G' = R (swKCell p x.2) := by
  subst hxa hxb hxm
  have hl := hVV.len
  subst hl
  refine Fn.sel0 hsel fun F hR hF => ?_
  have hV1 : Vw enKd (St B w0 (swKCell p s :: F)) (.slice ao l.length cap) l := hVV.mono hF
  have hV2 : ∀ s', Vw enKd (St B w0 (swKCell p s' :: F)) (.slice ao l.length cap) l := fun s' => (hVR s').mono fun w hw => hw.perm (hR _).symm
  refine fn_enter Try.func139 rfl (by kernel_rfl) Try.ntmps139 (by simp) ?_
  refine cw_seq ?_
  refine cw_region ?_
  refine ow_val rfl rfl (v_assign rfl) ?_
  refine ow_nil ?_
  refine xw_then ?_
  refine cw_seq ?_
  refine cw_region ?_
  refine ow_val rfl rfl (v_move rfl) ?_
  refine ow_val rfl rfl (v_move rfl) ?_
  refine ow_val rfl rfl (v_move rfl) ?_
  refine ow_val rfl rfl (v_move rfl) ?_
  (refine ow_call rfl rfl rfl rfl (order2K_c rfl rfl hV1 ha hb hn .here) ?_; rintro _ _ ⟨x16, rfl, hq16, rfl⟩)
  refine ow_val rfl rfl (v_move rfl) ?_
  refine ow_val rfl rfl (v_extract rfl rfl) ?_
  refine ow_val rfl rfl (v_extract rfl rfl) ?_
  refine ow_val rfl rfl (v_assign rfl) ?_
  refine ow_val rfl rfl (v_assign rfl) ?_
  refine ow_nil ?_
  refine xw_then ?_
  refine cw_seq ?_
  refine cw_region ?_
  refine ow_val rfl rfl (v_move rfl) ?_
  refine ow_val rfl rfl (v_move rfl) ?_
  refine ow_val rfl rfl (v_move rfl) ?_
  refine ow_val rfl rfl (v_move rfl) ?_
  obtain ⟨a1, b1, s1⟩ := x16
  dsimp only at hq16 ⊢
  (refine ow_call rfl rfl rfl rfl (order2K_c (a := b1) (b := m) rfl rfl (hV2 _) (by omega) (by omega) hn .here) ?_; rintro _ _ ⟨x24, rfl, hq24, rfl⟩)
  refine ow_val rfl rfl (v_move rfl) ?_
  refine ow_val rfl rfl (v_extract rfl rfl) ?_
  refine ow_val rfl rfl (v_extract rfl rfl) ?_
  refine ow_val rfl rfl (v_assign rfl) ?_
  refine ow_val rfl rfl (v_assign rfl) ?_
  refine ow_nil ?_
  refine xw_then ?_
  refine cw_seq ?_
  refine cw_region ?_
  refine ow_val rfl rfl (v_move rfl) ?_
  refine ow_val rfl rfl (v_move rfl) ?_
  refine ow_val rfl rfl (v_move rfl) ?_
  refine ow_val rfl rfl (v_move rfl) ?_
  obtain ⟨b2, m2, s2⟩ := x24
  dsimp only at hq24 ⊢
  (refine ow_call rfl rfl rfl rfl (order2K_c (a := a1) (b := b2) rfl rfl (hV2 _) (by omega) (by omega) hn .here) ?_; rintro _ _ ⟨x32, rfl, hq32, rfl⟩)
  refine ow_val rfl rfl (v_move rfl) ?_
  refine ow_val rfl rfl (v_extract rfl rfl) ?_
  refine ow_val rfl rfl (v_extract rfl rfl) ?_
  refine ow_val rfl rfl (v_assign rfl) ?_
  refine ow_val rfl rfl (v_assign rfl) ?_
  refine ow_nil ?_
  refine xw_then ?_
  refine cw_seq ?_
  refine cw_region ?_
  refine ow_val rfl rfl (v_move rfl) ?_
  refine ow_val rfl rfl (v_assign rfl) ?_
  refine ow_nil ?_
  refine xw_then ?_
  refine cw_ret ?_
  refine ret1 rfl (res_tmp rfl) ?_
  obtain ⟨a3, b3, s3⟩ := x32
  dsimp only at hq32 ⊢
  skip
  exact ⟨(b3, s3), rfl, by dsimp only; omega, (by first | exact Cov.refl _ | (intro p; simp only [List.flatten_cons, List.flatten_nil, List.flatten_append, List.append_nil, List.nil_append, cnt_append, cnt_cons, cnt_nil, List.set_cons_zero, List.set_cons_succ, List.length_nil, List.length_cons, Nat.zero_add, List.append]; omega))⟩
theorem medAdjK_c {B : Nat} {w0 : World} {G : List Hp} {R : Hp → List Hp} {ao : Option Addr} {n cap a p : Nat} {l : List Int} {s : Int} {xa : Int} (hxa : xa = a) (hVV : Vw enKd (St B w0 G) (.slice ao n cap) l) (ha0 : 0 < a) (ha : a + 1 < l.length) (hn : l.length ≤ 1000000) (hsel : Sel G (swKCell p s) R) (hVR : ∀ s', Vw enKd (St B w0 (R (swKCell p s'))) (.slice ao n cap) l) :
    Go.Sl.Fn Try.prog 138 #[.slice ao n cap, .int .i64 xa, .pointer (some ⟨p, 0, none⟩)] B w0 G fun u G' => ∃ x : Nat × Int, u = .int .i64 x.1 ∧ (a - 1 ≤ x.1 ∧ x.1 ≤ a + 1) ∧ G' = R (swKCell p x.2) := by
  subst hxa
  have hl := hVV.len
  subst hl
  refine Fn.sel0 hsel fun F hR hF => ?_
  have hV1 : Vw enKd (St B w0 (swKCell p s :: F)) (.slice ao l.length cap) l := hVV.mono hF
  have hV2 : ∀ s', Vw enKd (St B w0 (swKCell p s' :: F)) (.slice ao l.length cap) l := fun s' => (hVR s').mono fun w hw => hw.perm (hR _).symm
  refine fn_enter Try.func138 rfl (by kernel_rfl) Try.ntmps138 (by simp) ?_
  refine cw_seq ?_
  refine cw_region ?_
  refine ow_val rfl rfl (v_assign rfl) ?_
  refine ow_nil ?_
  refine xw_then ?_
  refine cw_seq ?_
  refine cw_region ?_
  refine ow_val rfl rfl (v_move rfl) ?_
  refine ow_val rfl rfl (v_move rfl) ?_
  refine ow_val rfl rfl (v_sub rfl rfl (nw_i64 (by omega) (by omega))) ?_
  refine ow_val rfl rfl (v_move rfl) ?_
  refine ow_val rfl rfl (v_move rfl) ?_
  refine ow_val rfl rfl (v_add rfl rfl (nw_i64 (by omega) (by omega))) ?_
  refine ow_val rfl rfl (v_move rfl) ?_
  (refine ow_call rfl rfl rfl rfl (medianK_c (a := a - 1) (b := a) (m := a + 1) (by omega) rfl (by omega) hV1 (by omega) (by omega) (by omega) hn .here hV2) ?_; rintro _ _ ⟨x14, rfl, hq14, rfl⟩)
  refine ow_val rfl rfl (v_assign rfl) ?_
  refine ow_nil ?_
  refine xw_then ?_
  refine cw_ret ?_
  refine ret1 rfl (res_tmp rfl) ?_
  exact ⟨x14, rfl, by omega, (by first | exact Cov.refl _ | (intro p; simp only [List.flatten_cons, List.flatten_nil, List.flatten_append, List.append_nil, List.nil_append, cnt_append, cnt_cons, cnt_nil, List.set_cons_zero, List.set_cons_succ, List.length_nil, List.length_cons, Nat.zero_add, List.append]; omega))⟩
set_option maxHeartbeats 4000000 in
theorem pivotK_c {B : Nat} {w0 : World} {G : List Hp} {ao : Option Addr} {n cap a b : Nat} {l : List Int} (hV : ∀ Y, Vw enKd (St B w0 (Y :: G)) (.slice ao n cap) l) (hab : a + 8 ≤ b) (hb : b ≤ l.length) (hn : l.length ≤ 1000000) :
    Go.Sl.Fn Try.prog 113 #[.slice ao n cap, .int .i64 a, .int .i64 b] B w0 G fun u G' => ∃ x : Nat × Int, u = .tuple #[.int .i64 x.1, .int .i64 x.2] ∧ ((a ≤ x.1 ∧ x.1 < b) ∧ (x.2 = 0 ∨ x.2 = 1 ∨ x.2 = 2)) ∧ G' = G := by
  have hl := (hV []).len
  subst hl
  refine Fn.val ?_
  refine fn_enter Try.func113 rfl (by kernel_rfl) Try.ntmps113 (by simp) ?_
  refine cw_seq ?_
  refine cw_region ?_
  refine ow_val rfl rfl (v_assign rfl) ?_
  refine ow_val rfl rfl (v_assign rfl) ?_
  refine ow_nil ?_
  refine xw_then ?_
  refine cw_seq ?_
  refine cw_region ?_
  refine ow_val rfl rfl (v_move rfl) ?_
  refine ow_val rfl rfl (v_move rfl) ?_
  refine ow_val rfl rfl (v_sub rfl rfl (nw_i64 (by omega) (by omega))) ?_
  refine ow_val rfl rfl (v_assign rfl) ?_
  refine ow_nil ?_
  refine xw_then ?_
  refine cw_seq ?_
  refine cw_region ?_
  (refine ow_alloc rfl rfl Ty.ze3 ?_; intro b9)
  refine ow_nil ?_
  refine xw_then ?_
  refine cw_seq ?_
  refine cw_region ?_
  refine ow_val rfl rfl (v_move rfl) ?_
  refine ow_val rfl rfl (v_move rfl) ?_
  refine ow_val rfl rfl (v_quoP_i64 rfl rfl (by omega) (by omega) (by omega)) ?_
  refine ow_val rfl rfl (v_mul rfl rfl (nw_i64 (by omega) (by omega))) ?_
  refine ow_val rfl rfl (v_add rfl rfl (nw_i64 (by omega) (by omega))) ?_
  refine ow_val rfl rfl (v_assign rfl) ?_
  refine ow_nil ?_
  refine xw_then ?_
  refine cw_seq ?_
  refine cw_region ?_
  refine ow_val rfl rfl (v_move rfl) ?_
  refine ow_val rfl rfl (v_move rfl) ?_
  refine ow_val rfl rfl (v_quoP_i64 rfl rfl (by omega) (by omega) (by omega)) ?_
  refine ow_val rfl rfl (v_mul rfl rfl (nw_i64 (by omega) (by omega))) ?_
  refine ow_val rfl rfl (v_add rfl rfl (nw_i64 (by omega) (by omega))) ?_
  refine ow_val rfl rfl (v_assign rfl) ?_
  refine ow_nil ?_
  refine xw_then ?_
  refine cw_seq ?_
  refine cw_region ?_
  refine ow_val rfl rfl (v_move rfl) ?_
  refine ow_val rfl rfl (v_move rfl) ?_
  refine ow_val rfl rfl (v_quoP_i64 rfl rfl (by omega) (by omega) (by omega)) ?_
  refine ow_val rfl rfl (v_mul rfl rfl (nw_i64 (by omega) (by omega))) ?_
  refine ow_val rfl rfl (v_add rfl rfl (nw_i64 (by omega) (by omega))) ?_
  refine ow_val rfl rfl (v_assign rfl) ?_
  refine ow_nil ?_
  refine xw_then ?_
  obtain ⟨q, hq⟩ : ∃ q : Nat, ((b : Int) - a) / 4 = (q : Int) := ⟨(b - a) / 4, by omega⟩
  rw [hq]
  have h1 : 4 * q ≤ b - a ∧ b - a < 4 * q + 4 := by omega
  have hVR : ∀ s', Vw enKd (St B w0 (swKCell b9 s' :: G)) (.slice ao l.length cap) l := fun s' => hV _
  refine cw_cov (swKCell b9 0 :: G) (Cov.refl _) ?_
  refine cw_seq ?_
  refine cw_seq ?_
  refine cw_region ?_
  refine ow_val rfl rfl (v_move rfl) ?_
  refine ow_val rfl rfl (v_geq rfl rfl) ?_
  refine ow_nil ?_
  refine xw_then ?_
  refine cw_dec rfl (fun hc32 => ?_) (fun hc32 => ?_)
  rotate_left; (exfalso; omega); rotate_right
  refine cw_cut2 (ι := ((Nat × Nat × Nat × Int))) [(0, _), (6, _), (7, _), (9, _)] ⟨rfl, rfl, rfl, rfl, trivial⟩ ((fun x => [(10, .int .i64 x.1), (11, .int .i64 x.2.1), (12, .int .i64 x.2.2.1)])) ((fun x => (a ≤ x.1 ∧ x.1 < b) ∧ (a ≤ x.2.1 ∧ x.2.1 < b) ∧ (a ≤ x.2.2.1 ∧ x.2.2.1 < b))) ((fun x => swKCell b9 x.2.2.2 :: G)) ?_ ?_
  · refine cw_seq ?_
    refine cw_region ?_
    refine ow_val rfl rfl (v_move rfl) ?_
    refine ow_val rfl rfl (v_geq rfl rfl) ?_
    refine ow_nil ?_
    refine xw_then ?_
    refine cw_dec rfl (fun hc34 => ?_) (fun hc34 => ?_)
    refine cw_seq ?_
    refine cw_region ?_
    refine ow_val rfl rfl (v_move rfl) ?_
    refine ow_val rfl rfl (v_move rfl) ?_
    (refine ow_call rfl rfl rfl rfl (medAdjK_c (a := a + q) (by omega) (hVR _) (by omega) (by omega) hn .here hVR) ?_; rintro _ _ ⟨x37, rfl, hq37, rfl⟩)
    refine ow_val rfl rfl (v_assign rfl) ?_
    refine ow_nil ?_
    refine xw_then ?_
    refine cw_seq ?_
    refine cw_region ?_
    refine ow_val rfl rfl (v_move rfl) ?_
    refine ow_val rfl rfl (v_move rfl) ?_
    rotate_left
    refine cw_skip ?_
    rotate_left
    · (refine ow_call rfl rfl rfl rfl (medAdjK_c (a := a + q * 2) (by omega) (hVR _) (by omega) (by omega) hn .here hVR) ?_; rintro _ _ ⟨x40, rfl, hq40, rfl⟩)
      refine ow_val rfl rfl (v_assign rfl) ?_
      refine ow_nil ?_
      refine xw_then ?_
      refine cw_region ?_
      refine ow_val rfl rfl (v_move rfl) ?_
      refine ow_val rfl rfl (v_move rfl) ?_
      (refine ow_call rfl rfl rfl rfl (medAdjK_c (a := a + q * 3) (by omega) (hVR _) (by omega) (by omega) hn .here hVR) ?_; rintro _ _ ⟨x43, rfl, hq43, rfl⟩)
      refine ow_val rfl rfl (v_assign rfl) ?_
      refine ow_nil ?_
      exact xw_joint ((x37.1, x40.1, x43.1, x43.2) : Nat × Nat × Nat × Int) ⟨by dsimp only; omega, by dsimp only; omega, by dsimp only; omega⟩ (by first | exact Cov.refl _ | (intro p; simp only [List.flatten_cons, List.flatten_nil, List.flatten_append, List.append_nil, List.nil_append, cnt_append, cnt_cons, cnt_nil, List.set_cons_zero, List.set_cons_succ, List.length_nil, List.length_cons, Nat.zero_add, List.append]; omega)) (by repeat (first | exact True.intro | refine And.intro rfl ?_ | refine And.intro (congrArg (fun z : Int => some (Value.int IntKind.i64 z)) (by (try dsimp only); omega)) ?_))
    · exact xw_joint ((a + q, a + q * 2, a + q * 3, 0) : Nat × Nat × Nat × Int) ⟨by dsimp only; omega, by dsimp only; omega, by dsimp only; omega⟩ (by first | exact Cov.refl _ | (intro p; simp only [List.flatten_cons, List.flatten_nil, List.flatten_append, List.append_nil, List.nil_append, cnt_append, cnt_cons, cnt_nil, List.set_cons_zero, List.set_cons_succ, List.length_nil, List.length_cons, Nat.zero_add, List.append]; omega)) (by repeat (first | exact True.intro | refine And.intro rfl ?_ | refine And.intro (congrArg (fun z : Int => some (Value.int IntKind.i64 z)) (by (try dsimp only); omega)) ?_))
  rintro ⟨i, j, k, s⟩ ⟨hi, hj, hk⟩
  dsimp only at hi hj hk ⊢
  refine cw_region ?_
  refine ow_val rfl rfl (v_move rfl) ?_
  refine ow_val rfl rfl (v_move rfl) ?_
  refine ow_val rfl rfl (v_move rfl) ?_
  refine ow_val rfl rfl (v_move rfl) ?_
  (refine ow_call rfl rfl rfl rfl (medianK_c (a := i) (b := j) (m := k) rfl rfl rfl (hVR _) (by omega) (by omega) (by omega) hn .here hVR) ?_; rintro _ _ ⟨x48, rfl, hq48, rfl⟩)
  refine ow_val rfl rfl (v_assign rfl) ?_
  refine ow_nil ?_
  refine xw_then ?_
  obtain ⟨v, s2⟩ := x48
  dsimp only at hq48 ⊢
  unfold swKCell
  refine cw_seq ?_
  refine cw_region ?_
  refine ow_val rfl rfl (v_load rfl (Var.at1 Ty.sc3 .here (GetN.lit rfl))) ?_
  refine ow_nil ?_
  refine xw_then ?_
  refine cw_block ?_
  refine cw_seq ?_
  refine cw_region ?_
  refine ow_val rfl rfl (v_eql rfl rfl) ?_
  refine ow_val rfl rfl (v_assign rfl) ?_
  refine ow_nil ?_
  refine xw_then ?_
  refine cw_dec rfl (fun hc51 => ?_) (fun hc51 => ?_)
  refine cw_seq ?_
  refine cw_region ?_
  refine ow_val rfl rfl (v_move rfl) ?_
  refine ow_val rfl rfl (v_assign rfl) ?_
  refine ow_val rfl rfl (v_assign rfl) ?_
  refine ow_nil ?_
  refine xw_then ?_
  refine cw_ret ?_
  refine xw_block_ret ?_
  refine ret2 rfl (res_tmp rfl) (res_tmp rfl) ?_
  rotate_left
  refine cw_seq ?_
  refine cw_region ?_
  refine ow_val rfl rfl (v_eql rfl rfl) ?_
  refine ow_val rfl rfl (v_assign rfl) ?_
  refine ow_nil ?_
  refine xw_then ?_
  refine cw_dec rfl (fun hc54 => ?_) (fun hc54 => ?_)
  refine cw_seq ?_
  refine cw_region ?_
  refine ow_val rfl rfl (v_move rfl) ?_
  refine ow_val rfl rfl (v_assign rfl) ?_
  refine ow_val rfl rfl (v_assign rfl) ?_
  refine ow_nil ?_
  refine xw_then ?_
  refine cw_ret ?_
  refine xw_block_ret ?_
  refine ret2 rfl (res_tmp rfl) (res_tmp rfl) ?_
  rotate_left
  refine cw_seq ?_
  refine cw_region ?_
  refine ow_val rfl rfl (v_move rfl) ?_
  refine ow_val rfl rfl (v_assign rfl) ?_
  refine ow_val rfl rfl (v_assign rfl) ?_
  refine ow_nil ?_
  refine xw_then ?_
  refine cw_ret ?_
  refine xw_block_ret ?_
  refine ret2 rfl (res_tmp rfl) (res_tmp rfl) ?_
  rotate_left
  · exact ⟨(v, 1), rfl, ⟨by dsimp only; omega, .inr (.inl rfl)⟩, (by first | exact Cov.refl _ | (intro p; simp only [List.flatten_cons, List.flatten_nil, List.flatten_append, List.append_nil, List.nil_append, cnt_append, cnt_cons, cnt_nil, List.set_cons_zero, List.set_cons_succ, List.length_nil, List.length_cons, Nat.zero_add, List.append]; omega))⟩
  · exact ⟨(v, 2), rfl, ⟨by dsimp only; omega, .inr (.inr rfl)⟩, (by first | exact Cov.refl _ | (intro p; simp only [List.flatten_cons, List.flatten_nil, List.flatten_append, List.append_nil, List.nil_append, cnt_append, cnt_cons, cnt_nil, List.set_cons_zero, List.set_cons_succ, List.length_nil, List.length_cons, Nat.zero_add, List.append]; omega))⟩
  · exact ⟨(v, 0), rfl, ⟨by dsimp only; omega, .inl rfl⟩, (by first | exact Cov.refl _ | (intro p; simp only [List.flatten_cons, List.flatten_nil, List.flatten_append, List.append_nil, List.nil_append, cnt_append, cnt_cons, cnt_nil, List.set_cons_zero, List.set_cons_succ, List.length_nil, List.length_cons, Nat.zero_add, List.append]; omega))⟩
set_option maxHeartbeats 4000000 in
theorem breakK_c {B : Nat} {w0 : World} {G : List Hp} {R : Hp → List Hp} {ao : Option Addr} {n cap a b : Nat} {c : Hp} {d : Array Int} (hsel : Sel G c R) (hL : Ls enKd 59 (.slice ao n cap) c d.toList) (hab : a + 8 ≤ b) (hb : b ≤ d.size) (hn : d.size < 60000) :
    Go.Sl.Fn Try.prog 112 #[.slice ao n cap, .int .i64 a, .int .i64 b] B w0 G fun u G' => ∃ x : Array Int × Hp, u = .tuple #[] ∧ (Sort.PermIn a b d x.1 ∧ Ls enKd 59 (.slice ao n cap) x.2 x.1.toList) ∧ G' = R x.2 := by
  refine Fn.sel0 hsel fun F hR hF => ?_
  have hl := hL.len
  rw [Array.length_toList] at hl
  subst hl
  refine fn_enter Try.func112 rfl (by kernel_rfl) Try.ntmps112 (by simp) ?_
  refine cw_seq ?_
  refine cw_region ?_
  refine ow_val rfl rfl (v_move rfl) ?_
  refine ow_val rfl rfl (v_move rfl) ?_
  refine ow_val rfl rfl (v_sub rfl rfl (nw_i64 (by omega) (by omega))) ?_
  refine ow_val rfl rfl (v_assign rfl) ?_
  refine ow_nil ?_
  refine xw_then ?_
  refine cw_seq ?_
  refine cw_region ?_
  refine ow_val rfl rfl (v_move rfl) ?_
  refine ow_val rfl rfl (v_geq rfl rfl) ?_
  refine ow_nil ?_
  refine xw_then ?_
  refine cw_dec rfl (fun hc15 => ?_) (fun hc15 => ?_)
  rotate_left; (exfalso; omega); rotate_right
  refine cw_seq ?_
  refine cw_region ?_
  refine ow_val rfl rfl (v_move rfl) ?_
  refine ow_val rfl rfl (v_convert Try.underlying3 Try.underlying215 rfl (nw_u64 (by omega) (by omega))) ?_
  (refine ow_alloc rfl rfl Ty.ze215 ?_; intro b7)
  refine ow_store1 rfl rfl rfl rfl Ty.sc215 .here (SetN.one (by first | decide | exact Nat.le_of_ble_eq_true rfl)) ?_
  refine ow_nil ?_
  refine xw_then ?_
  refine cw_seq ?_
  refine cw_region ?_
  refine ow_val rfl rfl (v_move rfl) ?_
  (refine ow_call rfl rfl rfl rfl (pow2_c (n := b - a) (by omega) (by omega) (by omega)) ?_; rintro _ _ ⟨x19, rfl, hq19, rfl⟩)
  refine ow_val rfl rfl (v_assign rfl) ?_
  refine ow_nil ?_
  refine xw_then ?_
  obtain ⟨m, hm⟩ : ∃ m, x19 = m := ⟨_, rfl⟩
  rw [hm] at hq19 ⊢
  refine cw_cov (xsCell b7 ((b : Int) - a) :: c :: F) (Cov.refl _) ?_
  obtain ⟨q, hq⟩ : ∃ q : Nat, ((b : Int) - a) / 4 = (q : Int) := ⟨(b - a) / 4, by omega⟩
  have h1 : 4 * q ≤ b - a ∧ b - a < 4 * q + 4 := by omega
  refine cw_seq ?_
  refine cw_region ?_
  refine ow_val rfl rfl (v_move rfl) ?_
  refine ow_val rfl rfl (v_move rfl) ?_
  refine ow_val rfl rfl (v_quoP_i64 rfl rfl (by omega) (by omega) (by omega)) ?_
  refine ow_val rfl rfl (v_mul rfl rfl (nw_i64 (by omega) (by omega))) ?_
  refine ow_val rfl rfl (v_add rfl rfl (nw_i64 (by omega) (by omega))) ?_
  refine ow_val rfl rfl (v_sub rfl rfl (nw_i64 (by omega) (by omega))) ?_
  refine ow_val rfl rfl (v_assign rfl) ?_
  refine ow_nil ?_
  refine xw_then ?_
  refine cw_block ?_
  rw [hq]
  refine cw_env ((0, .slice ao d.size cap) :: (1, .int .i64 a) :: (2, .int .i64 b) :: (6, .int .i64 ((b : Int) - a)) :: (7, .pointer (some ⟨b7, 0, none⟩)) :: (8, .int .u64 m) :: (9, .int .i64 ((a + q * 2 - 1 : Nat) : Int)) :: []) (by repeat (first | exact True.intro | refine And.intro rfl ?_ | refine And.intro (congrArg (fun z : Int => some (Value.int IntKind.i64 z)) (by (try dsimp only); omega)) ?_)) ?_
  refine cw_loop2 (ι := ((Nat × Int × Array Int × Hp))) [(0, _), (1, _), (6, _), (7, _), (8, _)] ⟨rfl, rfl, rfl, rfl, rfl, trivial⟩ ((fun x => [(9, .int .i64 x.1)])) ((fun x => a ≤ x.1 ∧ x.1 ≤ a + q * 2 + 2 ∧ Sort.PermIn a b d x.2.2.1 ∧ Ls enKd 59 (.slice ao d.size cap) x.2.2.2 x.2.2.1.toList)) ((fun x => a + q * 2 + 2 - x.1)) ((fun x => xsCell b7 x.2.1 :: x.2.2.2 :: F)) (((a + q * 2 - 1, (b : Int) - a, d, c) : Nat × Int × Array Int × Hp)) (by repeat (first | exact True.intro | refine And.intro rfl ?_)) (by first | exact Cov.refl _ | (intro p; simp only [List.flatten_cons, List.flatten_nil, List.flatten_append, List.append_nil, List.nil_append, cnt_append, cnt_cons, cnt_nil, List.set_cons_zero, List.set_cons_succ, List.length_nil, List.length_cons, Nat.zero_add, List.append]; omega)) ?_ ?_
  · exact ⟨by dsimp only; omega, by dsimp only; omega, Sort.permIn_refl _ _ _, hL⟩
  rintro ⟨i, r, d1, c1⟩ ⟨hi1, hi2, hP, hL1⟩
  dsimp only at hi1 hi2 hP hL1 ⊢
  have hl1 : d1.toList.length = d.size := by rw [Array.length_toList]; exact hP.1
  refine cw_seq ?_
  refine cw_seq ?_
  refine cw_region ?_
  refine ow_val rfl rfl (v_move rfl) ?_
  refine ow_val rfl rfl (v_move rfl) ?_
  refine ow_val rfl rfl (v_move rfl) ?_
  refine ow_val rfl rfl (v_quoP_i64 rfl rfl (by omega) (by omega) (by omega)) ?_
  refine ow_val rfl rfl (v_mul rfl rfl (nw_i64 (by omega) (by omega))) ?_
  refine ow_val rfl rfl (v_add rfl rfl (nw_i64 (by omega) (by omega))) ?_
  refine ow_val rfl rfl (v_add rfl rfl (nw_i64 (by omega) (by omega))) ?_
  refine ow_val rfl rfl (v_leq rfl rfl) ?_
  refine ow_nil ?_
  refine xw_then ?_
  refine cw_dec rfl (fun hc33 => ?_) (fun hc33 => ?_)
  refine cw_skip ?_
  refine xw_then ?_
  rotate_left
  refine cw_exit ?_
  refine xw_then_exit ?_
  refine xw_round_exit ?_
  refine xw_block_exit ?_
  refine ret0n rfl ?_
  rotate_left
  · rw [hq] at hc33
    refine cw_seq ?_
    refine cw_block ?_
    refine cw_seq ?_
    refine cw_region ?_
    (refine ow_call rfl rfl rfl rfl (next_c .here) ?_; rintro _ _ ⟨x36, rfl, hq36, rfl⟩)
    refine ow_val rfl rfl (v_move rfl) ?_
    refine ow_val rfl rfl (v_sub rfl rfl (nw_u64 (by omega) (by omega))) ?_
    refine ow_val rfl rfl (v_and rfl rfl rfl) ?_
    refine ow_val rfl rfl (v_convert Try.underlying166 Try.underlying3 rfl rfl) ?_
    refine ow_val rfl rfl (v_assign rfl) ?_
    refine ow_nil ?_
    refine xw_then ?_
    have hand := Go.Sl.and_le (k := .u64) rfl (x := x36) (y := (m : Int) - 1) (by omega)
    generalize hz : Go.Sl.bitsOf .and .u64 x36 ((m : Int) - 1) = z at *
    rw [show IntKind.i64.wrap z = z from nw_i64 (by omega) (by omega)]
    refine cw_cut2 (ι := (Nat)) [(0, _), (1, _), (6, _), (7, _), (8, _), (9, _)] ⟨rfl, rfl, rfl, rfl, rfl, rfl, trivial⟩ ((fun o => [(10, .int .i64 o)])) ((fun o => o < b - a)) ((fun _ => xsCell b7 x36 :: c1 :: F)) ?_ ?_
    · refine cw_seq ?_
      refine cw_region ?_
      refine ow_val rfl rfl (v_move rfl) ?_
      refine ow_val rfl rfl (v_move rfl) ?_
      refine ow_val rfl rfl (v_geq rfl rfl) ?_
      refine ow_nil ?_
      refine xw_then ?_
      refine cw_dec rfl (fun hc43 => ?_) (fun hc43 => ?_)
      refine cw_region ?_
      refine ow_val rfl rfl (v_move rfl) ?_
      refine ow_val rfl rfl (v_move rfl) ?_
      refine ow_val rfl rfl (v_sub rfl rfl (nw_i64 (by omega) (by omega))) ?_
      refine ow_val rfl rfl (v_assign rfl) ?_
      refine ow_nil ?_
      rotate_left
      refine cw_skip ?_
      rotate_left
      · exact xw_joint (z - ((b : Int) - a)).toNat (by omega) (by first | exact Cov.refl _ | (intro p; simp only [List.flatten_cons, List.flatten_nil, List.flatten_append, List.append_nil, List.nil_append, cnt_append, cnt_cons, cnt_nil, List.set_cons_zero, List.set_cons_succ, List.length_nil, List.length_cons, Nat.zero_add, List.append]; omega)) (by repeat (first | exact True.intro | refine And.intro rfl ?_ | refine And.intro (congrArg (fun z : Int => some (Value.int IntKind.i64 z)) (by (try dsimp only); omega)) ?_))
      · exact xw_joint z.toNat (by omega) (by first | exact Cov.refl _ | (intro p; simp only [List.flatten_cons, List.flatten_nil, List.flatten_append, List.append_nil, List.nil_append, cnt_append, cnt_cons, cnt_nil, List.set_cons_zero, List.set_cons_succ, List.length_nil, List.length_cons, Nat.zero_add, List.append]; omega)) (by repeat (first | exact True.intro | refine And.intro rfl ?_ | refine And.intro (congrArg (fun z : Int => some (Value.int IntKind.i64 z)) (by (try dsimp only); omega)) ?_))
    rintro o ho
    refine cw_mix [] [17, 18, 19] [0, 1, 2, 3, 4, 5, 6, 7, 8, 9, 10, 11, 12, 13, 14, 15, 16] Ty.mixed rfl rfl rfl rfl (by decide +kernel) ?_
    refine hw_pure rfl rfl (v_move rfl) rfl ?_
    refine hw_pure rfl rfl (v_move rfl) rfl ?_
    refine hw_pure rfl rfl (v_move rfl) rfl ?_
    refine hw_pure rfl rfl (v_move rfl) rfl ?_
    refine hw_pure rfl rfl (v_move rfl) rfl ?_
    refine hw_pure rfl rfl (v_add rfl rfl (nw_i64 (by omega) (by omega))) rfl ?_
    refine hw_pure rfl rfl (v_move rfl) rfl ?_
    refine hw_pure rfl rfl (v_move rfl) rfl ?_
    refine hw_pure rfl rfl (v_move rfl) rfl ?_
    refine hw_pure rfl rfl (v_add rfl rfl (nw_i64 (by omega) (by omega))) rfl ?_
    refine hw_pure rfl rfl (v_indexAddr_ls Try.underlying99 (kdTy) rfl rfl (by assumption) rfl (by omega)) rfl ?_
    refine hw_read rfl rfl rfl (v_load rfl (Go.Sl.Vw.var (kdTy) ((hL1.vw (by repeat (first | exact Sub.here | exact Sub.nil | assumption | refine Sub.there ?_)))) (by omega))) ?_
    refine hw_pure rfl rfl (v_move rfl) rfl ?_
    refine hw_pure rfl rfl (v_move rfl) rfl ?_
    refine hw_pure rfl rfl (v_indexAddr_ls Try.underlying99 (kdTy) rfl rfl (by assumption) rfl (by omega)) rfl ?_
    refine hw_read rfl rfl rfl (v_load rfl (Go.Sl.Vw.var (kdTy) ((hL1.vw (by repeat (first | exact Sub.here | exact Sub.nil | assumption | refine Sub.there ?_)))) (by omega))) ?_
    refine hw_pure rfl rfl (v_indexAddr_ls Try.underlying99 (kdTy) rfl rfl (by assumption) rfl (by omega)) rfl ?_
    refine hw_nil ?_
    refine sw_nil ?_
    refine ow_storeL (i := i) (a := d1.toList[((a : Int) + (o : Int)).toNat]'(by omega)) rfl rfl rfl kdTy hL1 (by repeat (first | exact Sel.here | apply Sel.there)) (by omega) (hL1.ok _ (List.getElem_mem _)) ?_
    intro csa hLsa
    have hlsa : (d1.toList.set i (d1.toList[((a : Int) + (o : Int)).toNat]'(by omega))).length = d1.toList.length := List.length_set
    refine ow_val rfl rfl (v_indexAddr_ls Try.underlying99 (kdTy) rfl rfl (by assumption) rfl (by omega)) ?_
    refine ow_storeL (i := ((a : Int) + (o : Int)).toNat) (a := d1.toList[i]'(by omega)) rfl rfl rfl kdTy hLsa (by repeat (first | exact Sel.here | apply Sel.there)) (by rw [List.length_set]; omega) (hL1.ok _ (List.getElem_mem _)) ?_
    intro cs hLs
    rw [swpL (i' := i) (j' := a + o) (bangD _ (by omega)) (bangD _ (by omega)) (by omega) (by omega)] at hLs
    refine ow_nil ?_
    refine xw_np ?_
    refine xw_block ?_
    refine xw_then ?_
    refine cw_region ?_
    refine ow_val rfl rfl (v_move rfl) ?_
    refine ow_val rfl rfl (v_add rfl rfl (nw_i64 (by omega) (by omega))) ?_
    refine ow_val rfl rfl (v_assign rfl) ?_
    refine ow_nil ?_
    exact xw_round ((i + 1, x36, Sort.swp d1 i (a + o), cs) : Nat × Int × Array Int × Hp) ⟨by dsimp only; omega, by dsimp only; omega, Sort.permIn_trans _ _ _ _ _ hP (Sort.swp_permIn _ _ _ _ _ (by omega) (by omega) (by omega) (by omega) (by rw [hP.1]; omega)), hLs⟩ (by dsimp only; omega) (by first | exact Cov.refl _ | (intro p; simp only [List.flatten_cons, List.flatten_nil, List.flatten_append, List.append_nil, List.nil_append, cnt_append, cnt_cons, cnt_nil, List.set_cons_zero, List.set_cons_succ, List.length_nil, List.length_cons, Nat.zero_add, List.append]; omega)) (by repeat (first | exact True.intro | refine And.intro rfl ?_))
  · skip
    exact ⟨(d1, c1), rfl, ⟨hP, hL1⟩, (by first | exact Cov.refl _ | (intro p; simp only [List.flatten_cons, List.flatten_nil, List.flatten_append, List.append_nil, List.nil_append, cnt_append, cnt_cons, cnt_nil, List.set_cons_zero, List.set_cons_succ, List.length_nil, List.length_cons, Nat.zero_add, List.append]; omega))⟩

def swQCell (b : Nat) (s : Int) : Hp := [(b, .cells [Value.int .i64 s].toArray 3 (0, 0))]
end Go.Proofs.Ytckdhelnafjddaa
