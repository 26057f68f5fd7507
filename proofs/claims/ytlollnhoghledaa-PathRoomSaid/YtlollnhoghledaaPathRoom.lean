/- PathRoom: whatever the input it returns true, and the input reads as it did. Conditions: none. -/
import Derived.Test.YtlollnhoghledaaPathLaw
import Derived.Test.YtlollnhoghledaaArgs
namespace Go.Proofs.Ytlollnhoghledaa.lawPathRoom
open Go Go.Sl Go.Proofs Go.RowKit Go.ChangeShapes Go.WideShapes Go.ChangeAt Go.Proofs.Ytlollnhoghledaa

def pm (inn out : Int) : PathM := { pathNew 0 false with inn := inn, out := out }
theorem pm_wf {inn out : Int} (h1 : 0 ≤ inn) (h2 : inn ≤ 6553500) (h3 : 0 ≤ out) (h4 : out ≤ 3 * inn) : (pm inn out).WF :=
  ⟨⟨h1, by simp [pm]; omega⟩, ⟨h3, by simp [pm]; omega⟩, rfl, by simp [pm, pathNew], rfl, by simp [pm, pathNew, zero8], by simp [pm, pathNew], by simp [pm, pathNew]⟩

theorem pm_came {inn out s : Int} (h1 : 0 ≤ s) (h2 : s ≤ 65535) (h3 : 0 ≤ inn) (h4 : inn ≤ 6553500) : (pm inn out).came s = pm (inn + s) out := by
  have : plusF inn s 1537228672809129301 = inn + s := by
    unfold plusF
    by_cases h : s ≤ 0
    · rw [if_pos h]; omega
    · rw [if_neg h, if_neg (by omega)]
  simp only [PathM.came, pm, this]
theorem pm_sent {inn out s : Int} (h1 : 0 ≤ s) (h2 : s ≤ 65535) (h3 : 0 ≤ out) (h4 : out ≤ 19660500) : (pm inn out).sent s = pm inn (out + s) := by
  have : plusF out s 4611686018427387903 = out + s := by
    unfold plusF
    by_cases h : s ≤ 0
    · rw [if_pos h]; omega
    · rw [if_neg h, if_neg (by omega)]
  simp only [PathM.sent, pm, this]
theorem pm_room {inn out : Int} (h1 : 0 ≤ inn) (h2 : inn ≤ 6553500) (h3 : out ≤ 3 * inn) : (pm inn out).room = 3 * inn - out := by
  have hm : min inn 1537228672809129301 = inn := by omega
  show (if (0 : Int) = 2 then _ else if min inn 1537228672809129301 * 3 ≤ out then 0 else min inn 1537228672809129301 * 3 - out) = _
  rw [hm, if_neg (by decide)]
  by_cases h : inn * 3 ≤ out
  · rw [if_pos h]; omega
  · rw [if_neg h]; omega

theorem law {B : Nat} {w0 : World} {ao bo : Option Addr} {n m cn cm : Nat} {f g : Nat → Int} (hn : n ≤ 9223372036854775807) (hm : m ≤ 9223372036854775807)
    (h1 : OldSl B w0 1 ao n (fun i => [.int .u16 (f i)])) (hf : ∀ i, i < n → 0 ≤ f i ∧ f i ≤ 65535) (h2 : OldSl B w0 1 bo m (fun i => [.int .u16 (g i)])) (hg : ∀ i, i < m → 0 ≤ g i ∧ g i ≤ 65535) :
    FnC Try.prog 3 #[.slice ao n cn, .slice bo m cm] B w0 [] (R0 (.bool true)) := fun F => by
  refine fn_enter Try.func3 rfl (by kernel_rfl) Try.ntmps3 (by simp) ?_
  refine Go.Sl.cw_seq ?_
  refine Go.Sl.cw_region ?_
  refine Go.Sl.ow_val rfl rfl (Go.Sl.v_assign rfl) ?_
  refine Go.Sl.ow_nil ?_
  refine Go.Sl.xw_then ?_
  refine Go.Sl.cw_seq ?_
  refine Go.Sl.cw_seq ?_
  refine Go.Sl.cw_region ?_
  refine Go.Sl.ow_val rfl rfl (Go.Sl.v_call rfl rfl (Go.Sl.Fn.c0r (awake_c))) ?_
  refine Go.Sl.ow_val rfl rfl (Go.Sl.v_not_true rfl) ?_
  refine Go.Sl.ow_nil ?_
  refine Go.Sl.xw_then ?_
  refine Go.Sl.cw_false rfl ?_
  refine Go.Sl.cw_skip ?_
  refine Go.Sl.xw_then ?_
  refine Go.Sl.cw_seq ?_
  refine Go.Sl.cw_seq ?_
  refine Go.Sl.cw_region ?_
  refine Go.Sl.ow_val rfl rfl (Go.Sl.v_move rfl) ?_
  refine Go.Sl.ow_val rfl rfl (Go.Sl.v_len rfl Try.underlying22 rfl) ?_
  refine Go.Sl.ow_val rfl rfl (Go.Sl.v_gtr rfl rfl) ?_
  refine Go.Sl.ow_nil ?_
  refine Go.Sl.xw_then ?_
  refine Go.Sl.cw_dec rfl (fun hc15 => ?_) (fun hc15 => ?_)
  refine Go.Sl.cw_seq ?_
  refine Go.Sl.cw_region ?_
  refine Go.Sl.ow_val rfl rfl (Go.Sl.v_assign rfl) ?_
  refine Go.Sl.ow_nil ?_
  refine Go.Sl.xw_then ?_
  refine Go.Sl.cw_ret ?_
  refine Go.Sl.xw_then_ret ?_
  refine Go.Sl.ret1 rfl (Go.Sl.res_tmp rfl) ?_
  rotate_left
  refine Go.Sl.cw_skip ?_
  refine Go.Sl.xw_then ?_
  refine Go.Sl.cw_seq ?_
  refine Go.Sl.cw_region ?_
  rotate_left
  · exact done0 rfl (by repeat (first | exact List.Sublist.refl _ | refine List.Sublist.cons_cons _ ?_ | refine List.Sublist.cons _ ?_))
  refine ow_call rfl rfl rfl rfl (Fn.c0 new_c) ?_
  rintro _ _ ⟨_, ⟨b, rfl, rfl⟩, rfl⟩
  refine Go.Sl.ow_val rfl rfl (Go.Sl.v_assign rfl) ?_
  refine Go.Sl.ow_nil ?_
  refine Go.Sl.xw_then ?_
  refine Go.Sl.cw_seq ?_
  refine Go.Sl.cw_region ?_
  refine Go.Sl.ow_val rfl rfl (Go.Sl.v_assign rfl) ?_
  refine Go.Sl.ow_val rfl rfl (Go.Sl.v_assign rfl) ?_
  refine Go.Sl.ow_nil ?_
  refine Go.Sl.xw_then ?_
  refine Go.Sl.cw_seq ?_
  refine Go.Sl.cw_seq ?_
  refine Go.Sl.cw_region ?_
  refine Go.Sl.ow_val rfl rfl (Go.Sl.v_move rfl) ?_
  refine Go.Sl.ow_val rfl rfl (Go.Sl.v_len rfl Try.underlying22 rfl) ?_
  refine Go.Sl.ow_val rfl rfl (Go.Sl.v_move rfl) ?_
  refine Go.Sl.ow_nil ?_
  refine Go.Sl.xw_then ?_
  refine Go.Sl.cw_block ?_
  refine cw_loop (ι := Nat × Int × Int) (fun x => x.1 ≤ n ∧ 0 ≤ x.2.2 ∧ x.2.2 ≤ 3 * x.2.1 ∧ 0 ≤ x.2.1 ∧ x.2.1 ≤ 65535 * x.1) (fun x => n - x.1) (fun x => [[(b, (pm x.2.1 x.2.2).obj)]] ++ F)
    (fun x => [(0, .slice ao n cn), (1, .slice bo m cm), (4, .bool false), (5, .pointer (some ⟨b, 0, none⟩)), (6, .int .u64 x.2.1), (7, .int .u64 x.2.2), (17, .slice ao n cn), (18, .int .i64 n), (19, .int .i64 x.1)]) (0, 0, 0)
    (by simp) (by repeat (first | exact List.Sublist.refl _ | refine List.Sublist.cons_cons _ ?_ | refine List.Sublist.cons _ ?_)) ⟨rfl, rfl, rfl, rfl, rfl, rfl, rfl, rfl, rfl, trivial⟩ ?_
  rintro ⟨i, inn, out⟩ ⟨hi, ho1, ho2, hi1, hi2⟩
  dsimp only at hi ho1 ho2 hi1 hi2 ⊢
  have hwf := pm_wf (inn := inn) (out := out) hi1 (by omega) ho1 ho2
  refine Go.Sl.cw_seq ?_
  refine Go.Sl.cw_region ?_
  refine Go.Sl.ow_val rfl rfl (Go.Sl.v_lss rfl rfl) ?_
  refine Go.Sl.ow_nil ?_
  refine Go.Sl.xw_then ?_
  refine Go.Sl.cw_seq ?_
  refine Go.Sl.cw_dec rfl (fun hc20 => ?_) (fun hc20 => ?_)
  refine Go.Sl.cw_skip ?_
  refine Go.Sl.xw_then ?_
  refine Go.Sl.cw_seq ?_
  refine Go.Sl.cw_block ?_
  refine Go.Sl.cw_seq ?_
  refine Go.Sl.cw_region ?_
  refine Go.Sl.ow_val rfl rfl (Go.Sl.v_move rfl) ?_
  rotate_left
  refine Go.Sl.cw_exit ?_
  refine Go.Sl.xw_then_exit ?_
  refine Go.Sl.xw_round_exit ?_
  refine Go.Sl.xw_block_exit ?_
  refine Go.Sl.xw_then ?_
  refine Go.Sl.cw_seq ?_
  refine Go.Sl.cw_region ?_
  refine Go.Sl.ow_val rfl rfl (Go.Sl.v_move rfl) ?_
  (refine Go.Sl.ow_call rfl rfl rfl rfl (Go.Sl.Fn.c1q .here (know_c hwf)) ?_; rintro _ _ ⟨rfl, rfl⟩)
  refine Go.Sl.ow_nil ?_
  refine Go.Sl.xw_then ?_
  refine Go.Sl.cw_seq ?_
  refine Go.Sl.cw_region ?_
  refine Go.Sl.ow_val rfl rfl (Go.Sl.v_move rfl) ?_
  refine Go.Sl.ow_val rfl rfl (Go.Sl.v_call rfl rfl (Go.Sl.Fn.c1r .here (room_c (PathM.WF.know hwf)))) ?_
  refine Go.Sl.ow_val rfl rfl (Go.Sl.v_eql rfl rfl) ?_
  refine Go.Sl.ow_val rfl rfl (Go.Sl.v_assign rfl) ?_
  refine Go.Sl.ow_nil ?_
  refine Go.Sl.xw_then ?_
  refine Go.Sl.cw_ret ?_
  refine Go.Sl.ret1 rfl (Go.Sl.res_tmp rfl) ?_
  rotate_left
  · obtain ⟨b1, o1, hao, hv⟩ := h1.var1 (P := Try.prog) Ty.sc27 (i := i) (by omega) rfl
    have hfi := hf i (by omega)
    have hc1 : (pm inn out).came (f i) = pm (inn + f i) out := pm_came (by omega) (by omega) hi1 (by omega)
    have hwf2 := pm_wf (inn := inn + f i) (out := out) (by omega) (by omega) ho1 (by omega)
    have hroom := pm_room (inn := inn + f i) (out := out) (by omega) (by omega) (by omega)
    have hcame := came_c (b := b) (B := B) (w0 := w0) hwf (s := f i) (by omega) (by omega)
    rw [hc1] at hcame
    have hrm := room_c (b := b) (B := B) (w0 := w0) hwf2
    rw [hroom] at hrm
    refine Go.Sl.ow_val rfl rfl (Go.Sl.v_indexAddr Try.underlying22 Ty.el22 rfl (by first | rfl | assumption) rfl rfl (by omega)) ?_
    refine Go.Sl.ow_val rfl rfl (Go.Sl.v_load rfl (hv _)) ?_
    refine Go.Sl.ow_val rfl rfl (Go.Sl.v_assign rfl) ?_
    refine Go.Sl.ow_val rfl rfl (Go.Sl.v_assign rfl) ?_
    refine Go.Sl.ow_nil ?_
    refine Go.Sl.xw_then ?_
    refine Go.Sl.cw_seq ?_
    refine Go.Sl.cw_region ?_
    refine Go.Sl.ow_val rfl rfl (Go.Sl.v_move rfl) ?_
    refine Go.Sl.ow_val rfl rfl (Go.Sl.v_move rfl) ?_
    refine Go.Sl.ow_val rfl rfl (Go.Sl.v_convert Try.underlying27 Try.underlying3 rfl (Go.Sl.nw_i64 (by omega) (by omega))) ?_
    (refine Go.Sl.ow_call rfl rfl rfl rfl (Go.Sl.Fn.c1q .here (hcame)) ?_; rintro _ _ ⟨rfl, rfl⟩)
    refine Go.Sl.ow_nil ?_
    refine Go.Sl.xw_then ?_
    refine Go.Sl.cw_seq ?_
    refine Go.Sl.cw_region ?_
    refine Go.Sl.ow_val rfl rfl (Go.Sl.v_move rfl) ?_
    refine Go.Sl.ow_val rfl rfl (Go.Sl.v_move rfl) ?_
    refine Go.Sl.ow_val rfl rfl (Go.Sl.v_convert Try.underlying27 Try.underlying26 rfl (Go.Sl.nw_u64 (by omega) (by omega))) ?_
    refine Go.Sl.ow_val rfl rfl (Go.Sl.v_add rfl rfl (Go.Sl.nw_u64 (by omega) (by omega))) ?_
    refine Go.Sl.ow_val rfl rfl (Go.Sl.v_assign rfl) ?_
    refine Go.Sl.ow_nil ?_
    refine Go.Sl.xw_then ?_
    refine Go.Sl.cw_seq ?_
    refine Go.Sl.cw_seq ?_
    refine Go.Sl.cw_region ?_
    refine Go.Sl.ow_val rfl rfl (Go.Sl.v_move rfl) ?_
    refine Go.Sl.ow_val rfl rfl (Go.Sl.v_move rfl) ?_
    refine Go.Sl.ow_val rfl rfl (Go.Sl.v_len rfl Try.underlying22 rfl) ?_
    refine Go.Sl.ow_val rfl rfl (Go.Sl.v_lss rfl rfl) ?_
    refine Go.Sl.ow_nil ?_
    refine Go.Sl.xw_then ?_
    refine Go.Sl.cw_dec rfl (fun hc35 => ?_) (fun hc35 => ?_)
    refine Go.Sl.cw_seq ?_
    refine Go.Sl.cw_quiet Ty.mixed (by decide +kernel) ?_
    refine Go.Sl.kw_val rfl rfl (Go.Sl.v_move rfl) ?_
    refine Go.Sl.kw_val rfl rfl (Go.Sl.v_move rfl) ?_
    rotate_left
    refine Go.Sl.cw_skip ?_
    refine Go.Sl.xw_then ?_
    refine Go.Sl.cw_seq ?_
    refine Go.Sl.cw_region ?_
    refine Go.Sl.ow_val rfl rfl (Go.Sl.v_move rfl) ?_
    refine Go.Sl.ow_val rfl rfl (Go.Sl.v_move rfl) ?_
    refine Go.Sl.ow_val rfl rfl (Go.Sl.v_mul rfl rfl (Go.Sl.nw_u64 (by omega) (by omega))) ?_
    refine Go.Sl.ow_val rfl rfl (Go.Sl.v_gtr rfl rfl) ?_
    refine Go.Sl.ow_val rfl rfl (Go.Sl.v_move rfl) ?_
    refine Go.Sl.ow_dec 55 rfl (fun hc55 => ?_) (fun hc55 => ?_)
    (exfalso; omega)
    refine Go.Sl.ow_val rfl rfl (Go.Sl.v_move rfl) ?_
    refine Go.Sl.ow_val rfl rfl (Go.Sl.v_call rfl rfl (Go.Sl.Fn.c1r .here (hrm))) ?_
    refine Go.Sl.ow_val rfl rfl (Go.Sl.v_move rfl) ?_
    refine Go.Sl.ow_val rfl rfl (Go.Sl.v_mul rfl rfl (Go.Sl.nw_u64 (by omega) (by omega))) ?_
    refine Go.Sl.ow_val rfl rfl (Go.Sl.v_move rfl) ?_
    refine Go.Sl.ow_val rfl rfl (Go.Sl.v_sub rfl rfl (Go.Sl.nw_u64 (by omega) (by omega))) ?_
    refine Go.Sl.ow_val rfl rfl (Go.Sl.v_neq rfl rfl) ?_
    refine Go.Sl.ow_val rfl rfl (Go.Sl.v_pick_false rfl rfl) ?_
    refine Go.Sl.ow_nil ?_
    refine Go.Sl.xw_then ?_
    refine Go.Sl.cw_dec rfl (fun hc63 => ?_) (fun hc63 => ?_)
    (exfalso; omega)
    refine Go.Sl.cw_skip ?_
    refine Go.Sl.xw_block ?_
    refine Go.Sl.xw_then ?_
    refine Go.Sl.cw_region ?_
    refine Go.Sl.ow_val rfl rfl (Go.Sl.v_add rfl rfl (Go.Sl.nw_i64 (by omega) (by omega))) ?_
    refine Go.Sl.ow_val rfl rfl (Go.Sl.v_move rfl) ?_
    refine Go.Sl.ow_nil ?_
    rotate_left
    · obtain ⟨b2, o2, hbo, hv2⟩ := h2.var1 (P := Try.prog) Ty.sc27 (i := i) (by omega) rfl
      have hgi := hg i (by omega)
      have hk1 : 0 ≤ min (g i) (3 * (inn + f i) - out) := by omega
      have hk2 : min (g i) (3 * (inn + f i) - out) ≤ 65535 := by omega
      have hs1 : (pm (inn + f i) out).sent (min (g i) (3 * (inn + f i) - out)) = pm (inn + f i) (out + min (g i) (3 * (inn + f i) - out)) := pm_sent hk1 hk2 ho1 (by omega)
      have hsent := sent_c (b := b) (B := B) (w0 := w0) hwf2 (s := min (g i) (3 * (inn + f i) - out)) (by omega) (by omega)
      rw [hs1] at hsent
      have hwf3 := pm_wf (inn := inn + f i) (out := out + min (g i) (3 * (inn + f i) - out)) (by omega) (by omega) (by omega) (by omega)
      have hroom3 := pm_room (inn := inn + f i) (out := out + min (g i) (3 * (inn + f i) - out)) (by omega) (by omega) (by omega)
      have hrm3 := room_c (b := b) (B := B) (w0 := w0) hwf3
      rw [hroom3] at hrm3
      refine Go.Sl.kw_val rfl rfl (Go.Sl.v_indexAddr Try.underlying22 Ty.el22 rfl (by first | rfl | assumption) rfl rfl (by omega)) ?_
      refine Go.Sl.kw_val rfl rfl (Go.Sl.v_load rfl (hv2 _)) ?_
      refine Go.Sl.kw_val rfl rfl (Go.Sl.v_convert Try.underlying27 Try.underlying26 rfl (Go.Sl.nw_u64 (by omega) (by omega))) ?_
      refine Go.Sl.kw_val rfl rfl (Go.Sl.v_move rfl) ?_
      refine Go.Sl.kw_val rfl rfl (Go.Sl.v_call rfl rfl (Go.Sl.Fn.c1r .here (hrm))) ?_
      refine Go.Sl.kw_val rfl rfl (Go.Sl.v_min rfl rfl) ?_
      refine Go.Sl.kw_val rfl rfl (Go.Sl.v_assign rfl) ?_
      refine Go.Sl.kw_nil ?_
      refine Go.Sl.xw_then ?_
      refine Go.Sl.cw_seq ?_
      refine Go.Sl.cw_region ?_
      refine Go.Sl.ow_val rfl rfl (Go.Sl.v_move rfl) ?_
      refine Go.Sl.ow_val rfl rfl (Go.Sl.v_move rfl) ?_
      refine Go.Sl.ow_val rfl rfl (Go.Sl.v_convert Try.underlying26 Try.underlying3 rfl (Go.Sl.nw_i64 (by omega) (by omega))) ?_
      (refine Go.Sl.ow_call rfl rfl rfl rfl (Go.Sl.Fn.c1q .here (hsent)) ?_; rintro _ _ ⟨rfl, rfl⟩)
      refine Go.Sl.ow_nil ?_
      refine Go.Sl.xw_then ?_
      refine Go.Sl.cw_region ?_
      refine Go.Sl.ow_val rfl rfl (Go.Sl.v_move rfl) ?_
      refine Go.Sl.ow_val rfl rfl (Go.Sl.v_move rfl) ?_
      refine Go.Sl.ow_val rfl rfl (Go.Sl.v_add rfl rfl (Go.Sl.nw_u64 (by omega) (by omega))) ?_
      refine Go.Sl.ow_val rfl rfl (Go.Sl.v_assign rfl) ?_
      refine Go.Sl.ow_nil ?_
      refine Go.Sl.xw_then ?_
      refine Go.Sl.cw_seq ?_
      refine Go.Sl.cw_region ?_
      refine Go.Sl.ow_val rfl rfl (Go.Sl.v_move rfl) ?_
      refine Go.Sl.ow_val rfl rfl (Go.Sl.v_move rfl) ?_
      refine Go.Sl.ow_val rfl rfl (Go.Sl.v_mul rfl rfl (Go.Sl.nw_u64 (by omega) (by omega))) ?_
      refine Go.Sl.ow_val rfl rfl (Go.Sl.v_gtr rfl rfl) ?_
      refine Go.Sl.ow_val rfl rfl (Go.Sl.v_move rfl) ?_
      refine Go.Sl.ow_dec 55 rfl (fun hc55 => ?_) (fun hc55 => ?_)
      (exfalso; omega)
      refine Go.Sl.ow_val rfl rfl (Go.Sl.v_move rfl) ?_
      refine Go.Sl.ow_val rfl rfl (Go.Sl.v_call rfl rfl (Go.Sl.Fn.c1r .here (hrm3))) ?_
      refine Go.Sl.ow_val rfl rfl (Go.Sl.v_move rfl) ?_
      refine Go.Sl.ow_val rfl rfl (Go.Sl.v_mul rfl rfl (Go.Sl.nw_u64 (by omega) (by omega))) ?_
      refine Go.Sl.ow_val rfl rfl (Go.Sl.v_move rfl) ?_
      refine Go.Sl.ow_val rfl rfl (Go.Sl.v_sub rfl rfl (Go.Sl.nw_u64 (by omega) (by omega))) ?_
      refine Go.Sl.ow_val rfl rfl (Go.Sl.v_neq rfl rfl) ?_
      refine Go.Sl.ow_val rfl rfl (Go.Sl.v_pick_false rfl rfl) ?_
      refine Go.Sl.ow_nil ?_
      refine Go.Sl.xw_then ?_
      refine Go.Sl.cw_dec rfl (fun hc63 => ?_) (fun hc63 => ?_)
      (exfalso; omega)
      refine Go.Sl.cw_skip ?_
      refine Go.Sl.xw_block ?_
      refine Go.Sl.xw_then ?_
      refine Go.Sl.cw_region ?_
      refine Go.Sl.ow_val rfl rfl (Go.Sl.v_add rfl rfl (Go.Sl.nw_i64 (by omega) (by omega))) ?_
      refine Go.Sl.ow_val rfl rfl (Go.Sl.v_move rfl) ?_
      refine Go.Sl.ow_nil ?_
      exact xw_round (i + 1, inn + f i, out + min (g i) (3 * (inn + f i) - out)) (by dsimp only; omega) (by dsimp only; omega) (by repeat (first | exact List.Sublist.refl _ | refine List.Sublist.cons_cons _ ?_ | refine List.Sublist.cons _ ?_)) ⟨rfl, rfl, rfl, rfl, rfl, rfl, rfl, rfl, rfl, trivial⟩
    · exact xw_round (i + 1, inn + f i, out) (by dsimp only; omega) (by dsimp only; omega) (by repeat (first | exact List.Sublist.refl _ | refine List.Sublist.cons_cons _ ?_ | refine List.Sublist.cons _ ?_)) ⟨rfl, rfl, rfl, rfl, rfl, rfl, rfl, rfl, rfl, trivial⟩
  have hk : (pm inn out).know.room = 4611686018427387903 := by simp [PathM.room, PathM.know]
  exact done0 (by rw [hk]; simp) (by repeat (first | exact List.Sublist.refl _ | refine List.Sublist.cons_cons _ ?_ | refine List.Sublist.cons _ ?_))

theorem walk {H : Type} {enc : TypeId × Value → H} (W : World) (base : Nat) (args : Array Value) (ds : List (DataW H)) (p : List MemPlace)
    (hval : ∀ (j : Nat) t v, Try.f3.params[j]? = some t → args[j]? = some v → Value.okWide Try.prog W .any base t v)
    (hA : DataW.TrodAll enc Try.prog W 0 (fun _ => true) true Try.f3.params.toList args.toList ds p) :
    Calls Try.prog 3 args W fun e w' => e = .returned (.bool true) ∧ Below W.heap.size W w' := by
  rw [Try.params3] at hA hval
  obtain ⟨v0, vs0, d0, ds0, p0, q0, hargs, rfl, rfl, h0, r0⟩ := trodAll_cons hA
  obtain ⟨v1, vs1, d1, ds1, p1, q1, rfl, rfl, rfl, h1, r1⟩ := trodAll_cons r0
  obtain ⟨rfl, rfl, rfl⟩ := trodAll_nil r1
  obtain rfl : args = #[v0, v1] := by cases args; simp_all
  obtain ⟨a0, n0, c0, rfl⟩ := okWide_slice Try.underlying22 (hval 0 22 v0 rfl rfl)
  obtain ⟨a1, n1, c1, rfl⟩ := okWide_slice Try.underlying22 (hval 1 22 v1 rfl rfl)
  obtain ⟨fu0, h0⟩ := h0
  obtain ⟨fu1, h1⟩ := h1
  obtain ⟨l0, m0, f, hf, o0⟩ := oldSl (size := 1) Try.underlying22 (by kernel_rfl) (by decide) h0 (fun n : Int => [Value.int .u16 n]) (fun n => (Lit.int .u16 n).wf = true) (fun fuel cs y h => form_int Try.underlying27 h)
  obtain ⟨l1, m1, g, hg, o1⟩ := oldSl (size := 1) Try.underlying22 (by kernel_rfl) (by decide) h1 (fun n : Int => [Value.int .u16 n]) (fun n => (Lit.int .u16 n).wf = true) (fun fuel cs y h => form_int Try.underlying27 h)
  unfold maxLen at m0 m1
  exact (law (by omega) (by omega) o0 (fun i hi => bounds_u16 (hf i hi)) o1 (fun i hi => bounds_u16 (hg i hi)) []).call

theorem own : ownKnob Try.prog.godebug = none := by kernel_rfl
theorem laidOut : laidOutB Try.prog = true := by kernel_rfl
theorem reads : ∀ t ∈ Try.f3.params.toList, Try.prog.readableRec t = true ∧ t < Try.prog.types.size := by
  rw [Try.params3]
  intro t ht
  simp only [List.mem_cons, List.not_mem_nil, or_false] at ht
  rcases ht with rfl | rfl
  · exact ⟨by kernel_rfl, of_decide_eq_true (by kernel_rfl)⟩
  · exact ⟨by kernel_rfl, of_decide_eq_true (by kernel_rfl)⟩

set_option maxRecDepth 100000 in
theorem lifted (os : Os) (started : os.Started) (H : Type) (enc : TypeId × Value → H) :
    ReturnsInHanded {} Try.checked os 3 .any (Rows.pathRoomSpec.pre6 enc Try.prog Try.f3 Rows.pathRoomRow.domain false) (Rows.pathRoomSpec.post enc Try.prog Try.f3 false true false false) := by
  refine returnsInHanded_of_change (C := Try.checked) own started (by kernel_rfl) Try.func3
    (ChangeSpec.witness6 (enc := enc) (C := Try.checked) false ⟨#[], #[.slice none 0 0, .slice none 0 0], []⟩ 8 (by kernel_rfl) (by kernel_rfl) (by kernel_rfl) (by kernel_rfl)) ?_
  intro W base args ds gs before hval hW _ _
  have hW' := hW
  obtain ⟨p, q, hA0, hV, rfl, _, _⟩ := hW
  obtain ⟨rfl, rfl⟩ := trodVars_none hV
  have hA : DataW.TrodAll enc Try.prog W 0 (fun _ => true) true Try.f3.params.toList args.toList ds p := hA0
  have hlen := trodAll_len hA
  refine (walk W base args ds p hval hA).mono fun e W' ⟨he, bel⟩ => ?_
  subst he
  rw [Try.params3] at hlen
  match ds, hlen.2, hA, hW' with
  | [d0, d1], _, hA, hW' => exact ⟨_, rfl, _, _, _, [], _, [], hW', trodAll_mk1 (shut_bool Try.underlying4 _), trodAll_stays laidOut bel reads hA, rfl, bel.frame _, fun h => by cases h⟩

theorem over : Rows.pathRoomRow.holds Try.pinned (OpenSpec.ofChange Rows.pathRoomSpec) :=
  OpenClaim.holds_of_wide 3 Try.f3 rfl rfl rfl rfl rfl rfl rfl ⟨rfl, rfl, rfl, rfl, rfl⟩ rfl rfl rfl rfl rfl (by kernel_rfl) Try.func3 (by kernel_rfl)
    (of_decide_eq_true (by kernel_rfl)) (by unfold Func.isWrapper; first | (rw [if_pos (by decide +kernel)]; kernel_rfl) | (rw [if_neg (by decide +kernel)]; exact ⟨rfl, rfl⟩))
    (fun os started H enc _ => lifted os started H enc)

theorem proved : Rows.PathRoomSaid := over

end Go.Proofs.Ytlollnhoghledaa.lawPathRoom
