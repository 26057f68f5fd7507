/- FrameShort: whatever the input it returns true, and the input reads as it did. Conditions: none. -/
import Derived.Test.YtckdhelnafjddaaFrSm
import Derived.Test.YtckdhelnafjddaaShort
namespace Go.Proofs.Ytckdhelnafjddaa.lawFrameShort
open Go Go.Sl Go.Proofs Go.RowKit Go.ChangeShapes Go.WideShapes Go.ChangeAt Go.Proofs.Ytckdhelnafjddaa
set_option maxRecDepth 20000
set_option linter.unusedVariables false
set_option linter.unusedSimpArgs false

theorem len7_c {B : Nat} {w0 : World} {G : List Hp} : Go.Sl.Fn Try.prog 47 #[.int .u64 7] B w0 G fun u G' => u = .int .i64 1 ∧ G' = G := by
  refine Fn.pure ?_
  refine fn_enter Try.func47 rfl (by kernel_rfl) Try.ntmps47 (by simp) ?_
  refine Go.Sl.cw_seq ?_
  refine Go.Sl.cw_region ?_
  refine Go.Sl.ow_val rfl rfl (Go.Sl.v_assign rfl) ?_
  refine Go.Sl.ow_nil ?_
  refine Go.Sl.xw_then ?_
  refine Go.Sl.cw_seq ?_
  refine Go.Sl.cw_seq ?_
  refine Go.Sl.cw_region ?_
  refine Go.Sl.ow_val rfl rfl (Go.Sl.v_move rfl) ?_
  refine Go.Sl.ow_val rfl rfl (Go.Sl.v_gtr rfl rfl) ?_
  refine Go.Sl.ow_nil ?_
  refine Go.Sl.xw_then ?_
  refine Go.Sl.cw_false rfl ?_
  refine Go.Sl.cw_skip ?_
  refine Go.Sl.xw_then ?_
  refine Go.Sl.cw_seq ?_
  refine Go.Sl.cw_seq ?_
  refine Go.Sl.cw_region ?_
  refine Go.Sl.ow_val rfl rfl (Go.Sl.v_move rfl) ?_
  refine Go.Sl.ow_val rfl rfl (Go.Sl.v_lss rfl rfl) ?_
  refine Go.Sl.ow_nil ?_
  refine Go.Sl.xw_then ?_
  refine Go.Sl.cw_true rfl ?_
  refine Go.Sl.cw_seq ?_
  refine Go.Sl.cw_region ?_
  refine Go.Sl.ow_val rfl rfl (Go.Sl.v_assign rfl) ?_
  refine Go.Sl.ow_nil ?_
  refine Go.Sl.xw_then ?_
  refine Go.Sl.cw_ret ?_
  refine Go.Sl.xw_then_ret ?_
  refine Go.Sl.ret1 rfl (Go.Sl.res_tmp rfl) ?_
  exact ⟨rfl, (by first | exact Go.Sl.Cov.refl _ | (intro p; simp only [List.flatten_cons, List.flatten_nil, List.flatten_append, List.append_nil, List.nil_append, Go.Sl.cnt_append, Go.Sl.cnt_cons, Go.Sl.cnt_nil, List.set_cons_zero, List.set_cons_succ, List.length_nil, List.length_cons, Nat.zero_add, List.append]; omega))⟩
theorem top1_c {B : Nat} {w0 : World} {G : List Hp} : Go.Sl.Fn Try.prog 70 #[.int .i64 1] B w0 G fun u G' => u = .int .i64 0 ∧ G' = G := by
  refine Fn.pure ?_
  refine fn_enter Try.func70 rfl (by kernel_rfl) Try.ntmps70 (by simp) ?_
  refine Go.Sl.cw_seq ?_
  refine Go.Sl.cw_region ?_
  refine Go.Sl.ow_val rfl rfl (Go.Sl.v_assign rfl) ?_
  refine Go.Sl.ow_nil ?_
  refine Go.Sl.xw_then ?_
  refine Go.Sl.cw_seq ?_
  refine Go.Sl.cw_seq ?_
  refine Go.Sl.cw_region ?_
  refine Go.Sl.ow_val rfl rfl (Go.Sl.v_move rfl) ?_
  refine Go.Sl.ow_nil ?_
  refine Go.Sl.xw_then ?_
  refine Go.Sl.cw_block ?_
  refine Go.Sl.cw_seq ?_
  refine Go.Sl.cw_region ?_
  refine Go.Sl.ow_val rfl rfl (Go.Sl.v_eql rfl rfl) ?_
  refine Go.Sl.ow_val rfl rfl (Go.Sl.v_assign rfl) ?_
  refine Go.Sl.ow_nil ?_
  refine Go.Sl.xw_then ?_
  refine Go.Sl.cw_true rfl ?_
  refine Go.Sl.cw_seq ?_
  refine Go.Sl.cw_region ?_
  refine Go.Sl.ow_val rfl rfl (Go.Sl.v_assign rfl) ?_
  refine Go.Sl.ow_nil ?_
  refine Go.Sl.xw_then ?_
  refine Go.Sl.cw_ret ?_
  refine Go.Sl.xw_block_ret ?_
  refine Go.Sl.xw_then_ret ?_
  refine Go.Sl.ret1 rfl (Go.Sl.res_tmp rfl) ?_
  exact ⟨rfl, (by first | exact Go.Sl.Cov.refl _ | (intro p; simp only [List.flatten_cons, List.flatten_nil, List.flatten_append, List.append_nil, List.nil_append, Go.Sl.cnt_append, Go.Sl.cnt_cons, Go.Sl.cnt_nil, List.set_cons_zero, List.set_cons_succ, List.length_nil, List.length_cons, Nat.zero_add, List.append]; omega))⟩
theorem one_of {α : Type} : ∀ {l : List α}, l.length = 1 → ∃ a, l = [a]
  | [a], _ => ⟨a, rfl⟩
theorem vw_arr {B : Nat} {w0 : World} {G : List Hp} {b cap : Nat} {cells : List Value} {T : TypeId} {fr : Nat × Nat} {l : List UInt8} (hs : Sub [(b, .cells cells.toArray T fr)] G) (hn : l.length ≤ cap) (h : ∀ (i : Nat) (u : Value), (l.flatMap enB.f)[i]? = some u → cells[i]? = some u) :
    Vw enB (St B w0 G) (.slice (some ⟨b, 0, none⟩) l.length cap) l := by
  refine ⟨⟨_, cap, rfl, hn⟩, fun _ _ => trivial, fun ao n cap e hl => ?_⟩
  injection e with e1 e2 e3
  subst e1
  refine ⟨rfl, fun i u hu => Cell.sub hs (.head _) ?_⟩
  simp only [oOf_some, List.getElem?_toArray]
  rw [Nat.zero_add]
  exact h i u hu
set_option maxHeartbeats 4000000 in
theorem put7_c {B : Nat} {w0 : World} {G : List Hp} : Go.Sl.Fn Try.prog 15 #[.int .u64 7] B w0 G fun u G' => ∃ x : Option Addr × Nat × Hp, u = .slice x.1 [(7 : UInt8)].length x.2.1 ∧ Ls enB 5 (.slice x.1 [(7 : UInt8)].length x.2.1) x.2.2 [7] ∧ G' = [x.2.2] ++ G := by
  refine Fn.new ?_
  have hwide : Go.Sl.Fn Try.prog 46 #[.int .u64 7, .int .i64 1] B w0 G fun u G' => ∃ x : Option Addr × Nat × Hp, u = .slice x.1 [(7 : UInt8)].length x.2.1 ∧ Ls enB 5 (.slice x.1 [(7 : UInt8)].length x.2.1) x.2.2 [7] ∧ G' = [x.2.2] ++ G := by
    refine Fn.new ?_
    refine fn_enter Try.func46 rfl (by kernel_rfl) Try.ntmps46 (by simp) ?_
    refine Go.Sl.cw_seq ?_
    refine Go.Sl.cw_region ?_
    refine Go.Sl.ow_val rfl rfl (Go.Sl.v_assign rfl) ?_
    refine Go.Sl.ow_nil ?_
    refine Go.Sl.xw_then ?_
    refine Go.Sl.cw_seq ?_
    refine Go.Sl.cw_seq ?_
    refine Go.Sl.cw_region ?_
    refine Go.Sl.ow_val rfl rfl (Go.Sl.v_move rfl) ?_
    refine Go.Sl.ow_val rfl rfl (Go.Sl.v_call rfl rfl (len7_c)) ?_
    refine Go.Sl.ow_val rfl rfl (Go.Sl.v_eql rfl rfl) ?_
    refine Go.Sl.ow_val rfl rfl (Go.Sl.v_move rfl) ?_
    refine Go.Sl.ow_dec 10 rfl (fun hc10 => ?_) (fun hc10 => ?_)
    (exfalso; omega)
    refine Go.Sl.ow_val rfl rfl (Go.Sl.v_move rfl) ?_
    refine Go.Sl.ow_val rfl rfl (Go.Sl.v_move rfl) ?_
    refine Go.Sl.ow_val rfl rfl (Go.Sl.v_call rfl rfl (len7_c)) ?_
    refine Go.Sl.ow_val rfl rfl (Go.Sl.v_lss rfl rfl) ?_
    refine Go.Sl.ow_val rfl rfl (Go.Sl.v_pick_false rfl rfl) ?_
    refine Go.Sl.ow_val rfl rfl (Go.Sl.v_move rfl) ?_
    refine Go.Sl.ow_dec 16 rfl (fun hc16 => ?_) (fun hc16 => ?_)
    (exfalso; omega)
    refine Go.Sl.ow_val rfl rfl (Go.Sl.v_move rfl) ?_
    refine Go.Sl.ow_val rfl rfl (Go.Sl.v_call rfl rfl (top1_c)) ?_
    refine Go.Sl.ow_val rfl rfl (Go.Sl.v_lss rfl rfl) ?_
    refine Go.Sl.ow_val rfl rfl (Go.Sl.v_pick_false rfl rfl) ?_
    refine Go.Sl.ow_nil ?_
    refine Go.Sl.xw_then ?_
    refine Go.Sl.cw_false rfl ?_
    refine Go.Sl.cw_skip ?_
    refine Go.Sl.xw_then ?_
    refine Go.Sl.cw_seq ?_
    refine Go.Sl.cw_region ?_
    (refine Go.Sl.ow_alloc rfl rfl Ty.ze24 ?_; intro b5)
    refine Go.Sl.ow_nil ?_
    refine Go.Sl.xw_then ?_
    refine Go.Sl.cw_seq ?_
    refine Go.Sl.cw_seq ?_
    refine Go.Sl.cw_region ?_
    refine Go.Sl.ow_val rfl rfl (Go.Sl.v_move rfl) ?_
    refine Go.Sl.ow_val rfl rfl (Go.Sl.v_sub rfl rfl (Go.Sl.nw_i64 (by omega) (by omega))) ?_
    refine Go.Sl.ow_val rfl rfl (Go.Sl.v_assign rfl) ?_
    refine Go.Sl.ow_nil ?_
    refine Go.Sl.xw_then ?_
    refine Go.Sl.cw_block ?_
    refine Go.Sl.cw_loop2 (ι := (Nat)) [(1, _), (4, _), (5, _)] ⟨rfl, rfl, rfl, trivial⟩ ((fun y => [(6, .int .i64 ((y : Int) - 1)), (0, .int .u64 (if y = 0 then 0 else 7)), (1, .int .i64 1)])) ((fun y => y ≤ 1)) ((fun y => y)) ((fun y => [(b5, .cells [Value.int .u8 (if y = 0 then 7 else 0), .int .u8 0, .int .u8 0, .int .u8 0, .int .u8 0, .int .u8 0, .int .u8 0, .int .u8 0].toArray 24 (0, 0))] :: G)) (1) (by repeat (first | exact True.intro | refine And.intro rfl ?_)) (by first | exact Go.Sl.Cov.refl _ | (intro p; simp only [List.flatten_cons, List.flatten_nil, List.flatten_append, List.append_nil, List.nil_append, Go.Sl.cnt_append, Go.Sl.cnt_cons, Go.Sl.cnt_nil, List.set_cons_zero, List.set_cons_succ, List.length_nil, List.length_cons, Nat.zero_add, List.append]; omega)) ?_ ?_
    · exact Nat.le_refl _
    rintro y hy
    have hy2 : y = 0 ∨ y = 1 := by omega
    rcases hy2 with rfl | rfl
    · have h7 : ∀ (i : Nat) (u : Value), (([7] : List UInt8).flatMap enB.f)[i]? = some u → ([Value.int .u8 7, .int .u8 0, .int .u8 0, .int .u8 0, .int .u8 0, .int .u8 0, .int .u8 0, .int .u8 0] : List Value)[i]? = some u := fun i u hu => by
        cases i with
        | zero => simpa [enB] using hu
        | succ i => simp [enB] at hu
      refine Go.Sl.cw_seq ?_
      refine Go.Sl.cw_seq ?_
      refine Go.Sl.cw_region ?_
      refine Go.Sl.ow_val rfl rfl (Go.Sl.v_move rfl) ?_
      refine Go.Sl.ow_val rfl rfl (Go.Sl.v_geq rfl rfl) ?_
      refine Go.Sl.ow_nil ?_
      refine Go.Sl.xw_then ?_
      refine Go.Sl.cw_false rfl ?_
      refine Go.Sl.cw_exit ?_
      refine Go.Sl.xw_then_exit ?_
      refine Go.Sl.xw_round_exit ?_
      refine Go.Sl.xw_block_exit ?_
      refine Go.Sl.xw_then ?_
      refine Go.Sl.cw_seq ?_
      refine Go.Sl.cw_mix [] [7] [0, 1, 2, 3, 4, 5, 6] Ty.mixed rfl rfl rfl rfl (by decide +kernel) ?_
      refine Go.Sl.hw_pure rfl rfl (Go.Sl.v_indexAddrA (i := 0) Try.underlying24 Ty.el24 rfl rfl rfl (by omega)) rfl ?_
      refine Go.Sl.hw_read rfl rfl rfl (Go.Sl.v_load rfl (Go.Sl.Var.at1 Ty.sc5 .here (Go.Sl.GetN.lit rfl))) ?_
      refine Go.Sl.hw_pure rfl rfl (Go.Sl.v_move rfl) rfl ?_
      refine Go.Sl.hw_read rfl rfl rfl (Go.Sl.v_call rfl rfl (top1_c)) ?_
      refine Go.Sl.hw_read rfl rfl rfl (Go.Sl.v_convert Try.underlying3 Try.underlying5 rfl (Go.Sl.nw_u8 (by omega) (by omega))) ?_
      refine Go.Sl.hw_pure rfl rfl (Go.Sl.v_add rfl rfl (Go.Sl.nw_u8 (by omega) (by omega))) rfl ?_
      refine Go.Sl.hw_pure rfl rfl (Go.Sl.v_indexAddrA (i := 0) Try.underlying24 Ty.el24 rfl rfl rfl (by omega)) rfl ?_
      refine Go.Sl.hw_nil ?_
      refine Go.Sl.sw_nil ?_
      refine Go.Sl.ow_store1 rfl rfl rfl rfl Ty.sc5 .here (Go.Sl.SetN.one (by first | decide | exact Nat.le_of_ble_eq_true rfl)) ?_
      refine Go.Sl.ow_nil ?_
      refine Go.Sl.xw_np ?_
      refine Go.Sl.xw_then ?_
      refine Go.Sl.cw_seq ?_
      refine Go.Sl.cw_region ?_
      (refine Go.Sl.ow_buildL (es := []) rfl rfl Try.underlying23 Ty.em23 (vbTy) rfl rfl (by first | (simp [*]; done) | (repeat (first | exact List.forall_mem_nil _ | refine List.forall_mem_cons.2 ⟨?_, ?_⟩ | assumption | (show _ ∧ _; omega)))) (by simp only [List.length_cons, List.length_nil]; decide) ?_; intro ao41 c41 hL41)
      refine Go.Sl.ow_val rfl rfl (Go.Sl.v_move rfl) ?_
      refine Go.Sl.ow_val rfl rfl (Go.Sl.v_sliceA_nh Try.underlying24 Ty.el24 rfl rfl (Int.toNat_of_nonneg (by omega)).symm (by omega)) ?_
      (refine Go.Sl.ow_appendL rfl rfl Try.underlying23 Try.underlying23 Ty.em23 (vbTy) rfl rfl (by assumption) (by repeat (first | exact Go.Sl.Sel.here | apply Go.Sl.Sel.there)) ((vw_arr (l := [7]) (by repeat (first | exact Go.Sl.Sub.here | exact Go.Sl.Sub.nil | assumption | refine Go.Sl.Sub.there ?_)) (by decide) h7)) (by first | omega | (simp only [List.length_append, List.length_take, List.length_drop, List.length_nil, List.length_cons]; omega)) (by first | omega | (simp only [List.length_append, List.length_take, List.length_drop, List.length_nil, List.length_cons]; omega)) ?_; intro ao44 cap44 c44 hL44)
      refine Go.Sl.ow_val rfl rfl (Go.Sl.v_assign rfl) ?_
      refine Go.Sl.ow_nil ?_
      refine Go.Sl.xw_then ?_
      refine Go.Sl.cw_ret ?_
      refine Go.Sl.ret1 rfl (Go.Sl.res_tmp rfl) ?_
      exact ⟨(ao44, cap44, c44), rfl, hL44, (by first | exact Go.Sl.Cov.refl _ | (intro p; simp only [List.flatten_cons, List.flatten_nil, List.flatten_append, List.append_nil, List.nil_append, Go.Sl.cnt_append, Go.Sl.cnt_cons, Go.Sl.cnt_nil, List.set_cons_zero, List.set_cons_succ, List.length_nil, List.length_cons, Nat.zero_add, List.append]; omega))⟩
    · refine Go.Sl.cw_seq ?_
      refine Go.Sl.cw_seq ?_
      refine Go.Sl.cw_region ?_
      refine Go.Sl.ow_val rfl rfl (Go.Sl.v_move rfl) ?_
      refine Go.Sl.ow_val rfl rfl (Go.Sl.v_geq rfl rfl) ?_
      refine Go.Sl.ow_nil ?_
      refine Go.Sl.xw_then ?_
      refine Go.Sl.cw_true rfl ?_
      refine Go.Sl.cw_skip ?_
      refine Go.Sl.xw_then ?_
      refine Go.Sl.cw_seq ?_
      refine Go.Sl.cw_block ?_
      refine Go.Sl.cw_seq ?_
      refine Go.Sl.cw_region ?_
      refine Go.Sl.ow_val rfl rfl (Go.Sl.v_move rfl) ?_
      refine Go.Sl.ow_val rfl rfl (Go.Sl.v_move rfl) ?_
      refine Go.Sl.ow_val rfl rfl (Go.Sl.v_rem rfl rfl (by decide)) ?_
      refine Go.Sl.ow_val rfl rfl (Go.Sl.v_convert Try.underlying22 Try.underlying5 rfl rfl) ?_
      refine Go.Sl.ow_val rfl rfl (Go.Sl.v_indexAddrA Try.underlying24 Ty.el24 rfl rfl rfl (by omega)) ?_
      refine Go.Sl.ow_store1 rfl rfl rfl rfl Ty.sc5 .here (Go.Sl.SetN.one (by first | decide | exact Nat.le_of_ble_eq_true rfl)) ?_
      refine Go.Sl.ow_nil ?_
      refine Go.Sl.xw_then ?_
      refine Go.Sl.cw_region ?_
      refine Go.Sl.ow_val rfl rfl (Go.Sl.v_move rfl) ?_
      refine Go.Sl.ow_val rfl rfl (Go.Sl.v_quo rfl rfl (by omega) rfl) ?_
      refine Go.Sl.ow_val rfl rfl (Go.Sl.v_assign rfl) ?_
      refine Go.Sl.ow_nil ?_
      refine Go.Sl.xw_block ?_
      refine Go.Sl.xw_then ?_
      refine Go.Sl.cw_region ?_
      refine Go.Sl.ow_val rfl rfl (Go.Sl.v_move rfl) ?_
      refine Go.Sl.ow_val rfl rfl (Go.Sl.v_sub rfl rfl (Go.Sl.nw_i64 (by omega) (by omega))) ?_
      refine Go.Sl.ow_val rfl rfl (Go.Sl.v_assign rfl) ?_
      refine Go.Sl.ow_nil ?_
      exact xw_round 0 (Nat.zero_le _) (by decide) (by first | exact Go.Sl.Cov.refl _ | (intro p; simp only [List.flatten_cons, List.flatten_nil, List.flatten_append, List.append_nil, List.nil_append, Go.Sl.cnt_append, Go.Sl.cnt_cons, Go.Sl.cnt_nil, List.set_cons_zero, List.set_cons_succ, List.length_nil, List.length_cons, Nat.zero_add, List.append]; omega)) (by repeat (first | exact True.intro | refine And.intro rfl ?_))
  refine fn_enter Try.func15 rfl (by kernel_rfl) Try.ntmps15 (by simp) ?_
  refine Go.Sl.cw_seq ?_
  refine Go.Sl.cw_region ?_
  refine Go.Sl.ow_val rfl rfl (Go.Sl.v_assign rfl) ?_
  refine Go.Sl.ow_nil ?_
  refine Go.Sl.xw_then ?_
  refine Go.Sl.cw_seq ?_
  refine Go.Sl.cw_region ?_
  refine Go.Sl.ow_val rfl rfl (Go.Sl.v_move rfl) ?_
  refine Go.Sl.ow_val rfl rfl (Go.Sl.v_move rfl) ?_
  refine Go.Sl.ow_val rfl rfl (Go.Sl.v_call rfl rfl (len7_c)) ?_
  (refine Go.Sl.ow_call rfl rfl rfl rfl (hwide) ?_; rintro _ _ ⟨x6, rfl, hq6, rfl⟩)
  refine Go.Sl.ow_val rfl rfl (Go.Sl.v_assign rfl) ?_
  refine Go.Sl.ow_nil ?_
  refine Go.Sl.xw_then ?_
  refine Go.Sl.cw_ret ?_
  refine Go.Sl.ret1 rfl (Go.Sl.res_tmp rfl) ?_
  exact ⟨x6, rfl, hq6, (by first | exact Go.Sl.Cov.refl _ | (intro p; simp only [List.flatten_cons, List.flatten_nil, List.flatten_append, List.append_nil, List.nil_append, Go.Sl.cnt_append, Go.Sl.cnt_cons, Go.Sl.cnt_nil, List.set_cons_zero, List.set_cons_succ, List.length_nil, List.length_cons, Nat.zero_add, List.append]; omega))⟩
theorem get_sdata {s : SmE} {T : TypeId} {fr : Nat × Nat} : GetN (.cells s.cells.toArray T fr) 4 [.slice s.da s.data.length s.dc] := GetN.lit rfl
set_option maxHeartbeats 8000000 in
theorem law {B : Nat} {w0 : World} {s : SmE} {cut kind : Int} (hok : s.ok) (hI : ∀ G, s.In (St B w0 G)) (hc : 0 ≤ cut ∧ cut ≤ 255) (hk : 0 ≤ kind ∧ kind ≤ 255) (hbulk : s.data.length ≤ 1048576) :
    FnC Try.prog 3 #[.agg s.cells.toArray, .int .u8 cut, .int .u8 kind] B w0 [] (R0 (.bool true)) := fun F => by
  have hcl : s.cells.length = 72 := SmE.cells_len hok
  have hco : ∀ u ∈ s.cells, u.oneCell' = true := SmE.cells_one
  refine fn_enter Try.func3 rfl (by kernel_rfl) Try.ntmps3 (by simp) ?_
  refine Go.Sl.cw_seq ?_
  refine Go.Sl.cw_region ?_
  (refine Go.Sl.ow_box rfl rfl rfl rfl ?_; intro b3)
  refine Go.Sl.ow_val rfl rfl (Go.Sl.v_assign rfl) ?_
  refine Go.Sl.ow_nil ?_
  refine Go.Sl.xw_then ?_
  refine Go.Sl.cw_seq ?_
  refine Go.Sl.cw_seq ?_
  refine Go.Sl.cw_region ?_
  refine Go.Sl.ow_val rfl rfl (Go.Sl.v_call rfl rfl (fr8Awake_c)) ?_
  refine Go.Sl.ow_val rfl rfl (Go.Sl.v_not_true rfl) ?_
  refine Go.Sl.ow_nil ?_
  refine Go.Sl.xw_then ?_
  refine Go.Sl.cw_false rfl ?_
  refine Go.Sl.cw_skip ?_
  refine Go.Sl.xw_then ?_
  refine Go.Sl.cw_seq ?_
  refine Go.Sl.cw_region ?_
  refine Go.Sl.ow_val rfl rfl (Go.Sl.v_load rfl (Go.Sl.Var.atN Ty.ag32 .here Go.Sl.GetN.all (by first | rfl | assumption))) ?_
  (refine Go.Sl.ow_call rfl rfl rfl rfl (smallFrame_c hok (hI _)) ?_; rintro _ _ ⟨x19, rfl, hq19, rfl⟩)
  (refine Go.Sl.ow_alloc rfl rfl Ty.ze30 ?_; intro b7)
  obtain ⟨f, p, cn⟩ := x19
  obtain ⟨hfok, hfl, hfi⟩ := hq19
  dsimp only at hfok hfl hfi ⊢
  have hfc : (f.cells p).length = 39 := FrM.cells_len hfok
  have hfo : ∀ u ∈ f.cells p, u.oneCell' = true := FrM.cells_one
  have hokE : enF.ok ⟨f, p⟩ := hfok
  have hfG := hfi F (hI F)
  refine Go.Sl.ow_storeE rfl (fTy) rfl rfl .here (by first | rfl | assumption) (by assumption) ?_
  refine Go.Sl.ow_nil ?_
  refine Go.Sl.xw_then ?_
  refine Go.Sl.cw_seq ?_
  refine Go.Sl.cw_seq ?_
  refine Go.Sl.cw_region ?_
  refine Go.Sl.ow_val rfl rfl (Go.Sl.v_load rfl (Go.Sl.Var.atN Ty.ag30 .here Go.Sl.GetN.all (by first | rfl | assumption))) ?_
  (refine Go.Sl.ow_buildL (es := [((⟨f, p⟩ : FrE))]) rfl rfl Try.underlying36 Ty.em36 (fTy) rfl rfl (by first | (simp [*]; done) | (repeat (first | exact List.forall_mem_nil _ | refine List.forall_mem_cons.2 ⟨?_, ?_⟩ | assumption | (show _ ∧ _; omega)))) (by simp only [List.length_cons, List.length_nil]; decide) ?_; intro ao21 c21 hL21)
  (refine Go.Sl.ow_call rfl rfl rfl rfl (light_c (l := [(⟨f, p⟩ : FrE)]) (Go.Sl.Ls.vw (by assumption) (by repeat (first | exact Go.Sl.Sub.here | exact Go.Sl.Sub.nil | assumption | refine Go.Sl.Sub.there ?_))) (by simp)) ?_; rintro _ _ ⟨x22, rfl, hq22, rfl⟩)
  refine Go.Sl.ow_val rfl rfl (Go.Sl.v_not_bool rfl) ?_
  refine Go.Sl.ow_nil ?_
  refine Go.Sl.xw_then ?_
  refine Go.Sl.cw_bool rfl (fun hc23 => ?_) (fun hc23 => ?_)
  refine Go.Sl.cw_seq ?_
  refine Go.Sl.cw_region ?_
  refine Go.Sl.ow_val rfl rfl (Go.Sl.v_assign rfl) ?_
  refine Go.Sl.ow_nil ?_
  refine Go.Sl.xw_then ?_
  refine Go.Sl.cw_ret ?_
  refine Go.Sl.xw_then_ret ?_
  refine Go.Sl.ret1 rfl (Go.Sl.res_tmp rfl) ?_
  rotate_left
  refine Go.Sl.cw_skip ?_
  refine Go.Sl.xw_then ?_
  rotate_left
  · exact done0 rfl (by first | exact Go.Sl.Cov.refl _ | (intro p; simp only [List.flatten_cons, List.flatten_nil, List.flatten_append, List.append_nil, List.nil_append, Go.Sl.cnt_append, Go.Sl.cnt_cons, Go.Sl.cnt_nil, List.set_cons_zero, List.set_cons_succ, List.length_nil, List.length_cons, Nat.zero_add, List.append]; omega))
  refine Go.Sl.cw_seq ?_
  refine Go.Sl.cw_region ?_
  refine Go.Sl.ow_val rfl rfl (Go.Sl.v_load rfl (Go.Sl.Var.atN Ty.ag30 (.there .here) Go.Sl.GetN.all (by first | rfl | assumption))) ?_
  (refine Go.Sl.ow_call rfl rfl rfl rfl (put_c hfok (hfG.cov (by first | exact Go.Sl.Cov.refl _ | (intro p; simp only [List.flatten_cons, List.flatten_nil, List.flatten_append, List.append_nil, List.nil_append, Go.Sl.cnt_append, Go.Sl.cnt_cons, Go.Sl.cnt_nil, List.set_cons_zero, List.set_cons_succ, List.length_nil, List.length_cons, Nat.zero_add, List.append]; omega))) hfl.r hfl.d hfl.i) ?_; rintro _ _ ⟨x26, rfl, hq26, rfl⟩)
  refine Go.Sl.ow_val rfl rfl (Go.Sl.v_move rfl) ?_
  refine Go.Sl.ow_val rfl rfl (v_extractL rfl rfl) ?_
  refine Go.Sl.ow_val rfl rfl (v_extractL rfl rfl) ?_
  refine Go.Sl.ow_val rfl rfl (Go.Sl.v_assign rfl) ?_
  refine Go.Sl.ow_val rfl rfl (Go.Sl.v_assign rfl) ?_
  refine Go.Sl.ow_nil ?_
  refine Go.Sl.xw_then ?_
  refine Go.Sl.cw_seq ?_
  refine Go.Sl.cw_seq ?_
  refine Go.Sl.cw_region ?_
  refine Go.Sl.ow_val rfl rfl (Go.Sl.v_move rfl) ?_
  refine Go.Sl.ow_val rfl rfl (Go.Sl.v_neq rfl rfl) ?_
  refine Go.Sl.ow_nil ?_
  refine Go.Sl.xw_then ?_
  refine Go.Sl.cw_dec rfl (fun hc30 => ?_) (fun hc30 => ?_)
  refine Go.Sl.cw_seq ?_
  refine Go.Sl.cw_region ?_
  refine Go.Sl.ow_val rfl rfl (Go.Sl.v_assign rfl) ?_
  refine Go.Sl.ow_nil ?_
  refine Go.Sl.xw_then ?_
  refine Go.Sl.cw_ret ?_
  refine Go.Sl.xw_then_ret ?_
  refine Go.Sl.ret1 rfl (Go.Sl.res_tmp rfl) ?_
  rotate_left
  refine Go.Sl.cw_skip ?_
  refine Go.Sl.xw_then ?_
  rotate_left
  · exact done0 rfl (by first | exact Go.Sl.Cov.refl _ | (intro p; simp only [List.flatten_cons, List.flatten_nil, List.flatten_append, List.append_nil, List.nil_append, Go.Sl.cnt_append, Go.Sl.cnt_cons, Go.Sl.cnt_nil, List.set_cons_zero, List.set_cons_succ, List.length_nil, List.length_cons, Nat.zero_add, List.append]; omega))
  obtain ⟨bs, e, ab, kb, cb⟩ := x26
  obtain ⟨q1, q2, q3, q4⟩ := hq26
  dsimp only at q1 q2 q3 q4 hc30 ⊢
  have he0 : e = 0 := Decidable.not_not.1 hc30
  subst he0
  have hcan : CanF f := q1.1 rfl
  have hbs : bs = encF f := q2 rfl
  have hbne : bs ≠ [] := by rw [hbs]; exact encF_ne hfok hcan
  have hbl : 0 < bs.length := List.length_pos_iff.2 hbne
  have hcm := Int.tmod_eq_emod_of_nonneg (b := (bs.length : Int)) hc.1
  have hm0 : 0 ≤ cut.tmod bs.length := by rw [hcm]; exact Int.emod_nonneg _ (by omega)
  have hm1 : cut.tmod bs.length < bs.length := by rw [hcm]; exact Int.emod_lt_of_pos _ (by omega)
  obtain ⟨m, hm⟩ : ∃ m : Nat, cut.tmod (bs.length : Int) = m := ⟨(cut.tmod bs.length).toNat, by omega⟩
  have hmb : m < bs.length := by rw [hm] at hm1; omega
  refine Go.Sl.cw_seq ?_
  refine Go.Sl.cw_region ?_
  refine Go.Sl.ow_val rfl rfl (Go.Sl.v_move rfl) ?_
  refine Go.Sl.ow_val rfl rfl (Go.Sl.v_convert Try.underlying5 Try.underlying3 rfl (Go.Sl.nw_i64 (by omega) (by omega))) ?_
  refine Go.Sl.ow_val rfl rfl (Go.Sl.v_move rfl) ?_
  refine Go.Sl.ow_val rfl rfl (Go.Sl.v_len rfl Try.underlying23 rfl) ?_
  refine Go.Sl.ow_val rfl rfl (Go.Sl.v_rem rfl rfl (by omega)) ?_
  refine Go.Sl.ow_val rfl rfl (Go.Sl.v_assign rfl) ?_
  refine Go.Sl.ow_nil ?_
  refine Go.Sl.xw_then ?_
  rw [hm] at *
  have hkb : bs.length ≤ kb := by
    obtain ⟨_, _, h5, h6⟩ := q4.view
    injection h5 with _ _ h7
    omega
  refine Go.Sl.cw_seq ?_
  refine Go.Sl.cw_seq ?_
  refine Go.Sl.cw_region ?_
  refine Go.Sl.ow_val rfl rfl (Go.Sl.v_move rfl) ?_
  refine Go.Sl.ow_val rfl rfl (Go.Sl.v_move rfl) ?_
  refine Go.Sl.ow_val rfl rfl (Go.Sl.v_slice_nh Try.underlying23 Ty.el23 rfl rfl rfl (by omega)) ?_
  (refine Go.Sl.ow_call rfl rfl rfl rfl (takeAll_c (l := bs.take m) (Vw.sub1 vbTy (Go.Sl.Ls.vw q4 (by repeat (first | exact Go.Sl.Sub.here | exact Go.Sl.Sub.nil | assumption | refine Go.Sl.Sub.there ?_))) (by omega)) (by rw [List.length_take]; omega)) ?_; rintro _ _ ⟨x40, rfl, hq40, rfl⟩)
  refine Go.Sl.ow_val rfl rfl (Go.Sl.v_move rfl) ?_
  refine Go.Sl.ow_val rfl rfl (v_extractL rfl rfl) ?_
  refine Go.Sl.ow_val rfl rfl (v_extractL rfl rfl) ?_
  refine Go.Sl.ow_val rfl rfl (Go.Sl.v_assign rfl) ?_
  refine Go.Sl.ow_val rfl rfl (Go.Sl.v_assign rfl) ?_
  refine Go.Sl.ow_nil ?_
  refine Go.Sl.xw_then ?_
  obtain ⟨e1, r1, a1, k1, c1, D1⟩ := x40
  obtain ⟨T1, L1⟩ := hq40
  dsimp only at T1 L1 ⊢
  have hbad : r1 ≠ 0 ∧ e1 = [] := by
    by_cases h0 : m = 0
    · subst h0
      rw [List.take_zero] at T1
      obtain ⟨h1, h2⟩ := T1.none
      exact ⟨by rw [h1]; decide, h2⟩
    · obtain ⟨e', ht, he'⟩ := takes_cut (p := bs.take m) (q := bs.drop m) hfok hcan (by rw [List.take_append_drop, hbs]) (by intro h2; have := congrArg List.length h2; rw [List.length_drop, List.length_nil] at this; omega) (by intro h2; have := congrArg List.length h2; rw [List.length_take, List.length_nil] at this; omega)
      obtain ⟨h1, h2⟩ := T1.bad ht he'
      exact ⟨by rw [h1]; exact he', h2⟩
  obtain ⟨hr1, he1⟩ := hbad
  subst he1
  refine Go.Sl.cw_seq ?_
  refine Go.Sl.cw_region ?_
  refine Go.Sl.ow_val rfl rfl (Go.Sl.v_move rfl) ?_
  refine Go.Sl.ow_val rfl rfl (Go.Sl.v_eql rfl rfl) ?_
  refine Go.Sl.ow_val rfl rfl (Go.Sl.v_move rfl) ?_
  refine Go.Sl.ow_dec 45 rfl (fun hc45 => ?_) (fun hc45 => ?_)
  (exfalso; omega)
  refine Go.Sl.ow_val rfl rfl (Go.Sl.v_move rfl) ?_
  refine Go.Sl.ow_val rfl rfl (Go.Sl.v_len rfl Try.underlying36 rfl) ?_
  refine Go.Sl.ow_val rfl rfl (Go.Sl.v_gtr rfl rfl) ?_
  refine Go.Sl.ow_val rfl rfl (Go.Sl.v_pick_false rfl rfl) ?_
  refine Go.Sl.ow_nil ?_
  refine Go.Sl.xw_then ?_
  refine Go.Sl.cw_false rfl ?_
  refine Go.Sl.cw_skip ?_
  refine Go.Sl.xw_then ?_
  refine cw_cov ([(b3, .cells s.cells.toArray 32 (0, 0))] :: F) (by first | exact Go.Sl.Cov.refl _ | (intro p; simp only [List.flatten_cons, List.flatten_nil, List.flatten_append, List.append_nil, List.nil_append, Go.Sl.cnt_append, Go.Sl.cnt_cons, Go.Sl.cnt_nil, List.set_cons_zero, List.set_cons_succ, List.length_nil, List.length_cons, Nat.zero_add, List.append]; omega)) ?_
  obtain ⟨off, fin, hB⟩ := short_bits hk
  obtain ⟨b0, hX⟩ : ∃ b0 : UInt8, b0 = UInt8.ofNat (shortK off fin).toNat ∧ bitsOf .or .u8 8 (bitsOf .and .u8 kind 5) = ((b0.toNat : Nat) : Int) := ⟨_, rfl, by rw [hB.1]; cases off <;> cases fin <;> decide +kernel⟩
  refine Go.Sl.cw_cut2 (ι := ((Option Addr × Nat × Hp))) [(0, _), (1, _), (2, _), (3, _), (6, _), (7, _), (21, _), (31, _), (42, _)] ⟨rfl, rfl, rfl, rfl, rfl, rfl, rfl, rfl, rfl, trivial⟩ ((fun x => [(13, .slice x.1 ([b0, 7] ++ s.data).length x.2.1)])) ((fun x => Ls enB 5 (.slice x.1 ([b0, 7] ++ s.data).length x.2.1) x.2.2 ([b0, 7] ++ s.data))) ((fun x => x.2.2 :: [(b3, .cells s.cells.toArray 32 (0, 0))] :: F)) ?_ ?_
  · refine Go.Sl.cw_any Ty.mixed ?_
    refine Go.Sl.aw_pure 0 rfl (by decide +kernel) rfl rfl (Go.Sl.v_move rfl) rfl ?_
    refine Go.Sl.aw_pure 1 rfl (by decide +kernel) rfl rfl (Go.Sl.v_and rfl rfl rfl) rfl ?_
    refine Go.Sl.aw_pure 2 rfl (by decide +kernel) rfl rfl ((v_or rfl rfl hX.2)) rfl ?_
    refine Go.Sl.aw_pure 6 rfl (by decide +kernel) rfl rfl (Go.Sl.v_fieldAddr0 Ty.fd32_4 rfl) rfl ?_
    refine Go.Sl.aw_step3 3 4 7 (by decide +kernel) rfl rfl rfl ?_ ?_ ?_
    (refine Go.Sl.ow_buildL (es := [(b0)]) rfl rfl Try.underlying23 Ty.em23 (vbTy) rfl rfl (by first | (simp [*]; done) | (repeat (first | exact List.forall_mem_nil _ | refine List.forall_mem_cons.2 ⟨?_, ?_⟩ | assumption | (show _ ∧ _; omega)))) (by simp only [List.length_cons, List.length_nil]; decide) ?_; intro ao53 c53 hL53)
    refine Go.Sl.ow_nil ?_
    refine Go.Sl.xw_nx ?_
    refine Go.Sl.aw_step2 4 7 (by decide +kernel) rfl rfl ?_ ?_
    (refine Go.Sl.ow_call rfl rfl rfl rfl (put7_c) ?_; rintro _ _ ⟨x54, rfl, hq54, rfl⟩)
    refine Go.Sl.ow_nil ?_
    refine Go.Sl.xw_nx ?_
    refine Go.Sl.aw_step2 5 7 (by decide +kernel) rfl rfl ?_ ?_
    (refine Go.Sl.ow_appendL rfl rfl Try.underlying23 Try.underlying23 Ty.em23 (vbTy) rfl rfl (by assumption) (by repeat (first | exact Go.Sl.Sel.here | apply Go.Sl.Sel.there)) (Go.Sl.Ls.vw (by assumption) (by repeat (first | exact Go.Sl.Sub.here | exact Go.Sl.Sub.nil | assumption | refine Go.Sl.Sub.there ?_))) (by first | omega | (simp only [List.length_append, List.length_take, List.length_drop, List.length_nil, List.length_cons]; omega)) (by first | omega | (simp only [List.length_append, List.length_take, List.length_drop, List.length_nil, List.length_cons]; omega)) ?_; intro ao55 cap55 c55 hL55)
    refine Go.Sl.ow_nil ?_
    refine Go.Sl.xw_nx ?_
    refine Go.Sl.aw_step1 7 (by decide +kernel) rfl ?_
    refine Go.Sl.ow_val rfl rfl (Go.Sl.v_load rfl (Go.Sl.Var.at1 Ty.sc23 (.there (.there .here)) (get_sdata))) ?_
    refine Go.Sl.ow_nil ?_
    refine Go.Sl.xw_nx ?_
    refine Go.Sl.aw_step1 8 (by decide +kernel) rfl ?_
    (refine Go.Sl.ow_appendL rfl rfl Try.underlying23 Try.underlying23 Ty.em23 (vbTy) rfl rfl (by assumption) (by repeat (first | exact Go.Sl.Sel.here | apply Go.Sl.Sel.there)) (((hI _).data.cov (by first | exact Go.Sl.Cov.refl _ | (intro p; simp only [List.flatten_cons, List.flatten_nil, List.flatten_append, List.append_nil, List.nil_append, Go.Sl.cnt_append, Go.Sl.cnt_cons, Go.Sl.cnt_nil, List.set_cons_zero, List.set_cons_succ, List.length_nil, List.length_cons, Nat.zero_add, List.append]; omega)))) (by first | omega | (simp only [List.length_append, List.length_take, List.length_drop, List.length_nil, List.length_cons]; omega)) (by first | omega | (simp only [List.length_append, List.length_take, List.length_drop, List.length_nil, List.length_cons]; omega)) ?_; intro ao58 cap58 c58 hL58)
    refine Go.Sl.ow_nil ?_
    refine Go.Sl.xw_nx ?_
    refine Go.Sl.aw_pure 9 rfl (by decide +kernel) rfl rfl (Go.Sl.v_assign rfl) rfl ?_
    refine Go.Sl.aw_end (by decide +kernel) ?_
    refine Go.Sl.xw_np ?_
    rotate_left
    refine Go.Sl.ow_val rfl rfl (Go.Sl.v_load rfl (Go.Sl.Var.at1 Ty.sc23 (.there (.there .here)) (get_sdata))) ?_
    refine Go.Sl.ow_nil ?_
    refine Go.Sl.xw_nx ?_
    refine Go.Sl.aw_step1 5 (by decide +kernel) rfl ?_
    (refine Go.Sl.ow_appendL rfl rfl Try.underlying23 Try.underlying23 Ty.em23 (vbTy) rfl rfl (by assumption) (by repeat (first | exact Go.Sl.Sel.here | apply Go.Sl.Sel.there)) (Go.Sl.Ls.vw (by assumption) (by repeat (first | exact Go.Sl.Sub.here | exact Go.Sl.Sub.nil | assumption | refine Go.Sl.Sub.there ?_))) (by first | omega | (simp only [List.length_append, List.length_take, List.length_drop, List.length_nil, List.length_cons]; omega)) (by first | omega | (simp only [List.length_append, List.length_take, List.length_drop, List.length_nil, List.length_cons]; omega)) ?_; intro ao55 cap55 c55 hL55)
    refine Go.Sl.ow_nil ?_
    refine Go.Sl.xw_nx ?_
    refine Go.Sl.aw_step1 8 (by decide +kernel) rfl ?_
    (refine Go.Sl.ow_appendL rfl rfl Try.underlying23 Try.underlying23 Ty.em23 (vbTy) rfl rfl (by assumption) (by repeat (first | exact Go.Sl.Sel.here | apply Go.Sl.Sel.there)) (((hI _).data.cov (by first | exact Go.Sl.Cov.refl _ | (intro p; simp only [List.flatten_cons, List.flatten_nil, List.flatten_append, List.append_nil, List.nil_append, Go.Sl.cnt_append, Go.Sl.cnt_cons, Go.Sl.cnt_nil, List.set_cons_zero, List.set_cons_succ, List.length_nil, List.length_cons, Nat.zero_add, List.append]; omega)))) (by first | omega | (simp only [List.length_append, List.length_take, List.length_drop, List.length_nil, List.length_cons]; omega)) (by first | omega | (simp only [List.length_append, List.length_take, List.length_drop, List.length_nil, List.length_cons]; omega)) ?_; intro ao58 cap58 c58 hL58)
    refine Go.Sl.ow_nil ?_
    refine Go.Sl.xw_nx ?_
    refine Go.Sl.aw_pure 9 rfl (by decide +kernel) rfl rfl (Go.Sl.v_assign rfl) rfl ?_
    refine Go.Sl.aw_end (by decide +kernel) ?_
    refine Go.Sl.xw_np ?_
    rotate_left
    refine Go.Sl.ow_val rfl rfl (Go.Sl.v_load rfl (Go.Sl.Var.at1 Ty.sc23 (.there .here) (get_sdata))) ?_
    refine Go.Sl.ow_nil ?_
    refine Go.Sl.xw_nx ?_
    refine Go.Sl.aw_step1 4 (by decide +kernel) rfl ?_
    (refine Go.Sl.ow_call rfl rfl rfl rfl (put7_c) ?_; rintro _ _ ⟨x54, rfl, hq54, rfl⟩)
    refine Go.Sl.ow_nil ?_
    refine Go.Sl.xw_nx ?_
    refine Go.Sl.aw_step1 5 (by decide +kernel) rfl ?_
    (refine Go.Sl.ow_appendL rfl rfl Try.underlying23 Try.underlying23 Ty.em23 (vbTy) rfl rfl (by assumption) (by repeat (first | exact Go.Sl.Sel.here | apply Go.Sl.Sel.there)) (Go.Sl.Ls.vw (by assumption) (by repeat (first | exact Go.Sl.Sub.here | exact Go.Sl.Sub.nil | assumption | refine Go.Sl.Sub.there ?_))) (by first | omega | (simp only [List.length_append, List.length_take, List.length_drop, List.length_nil, List.length_cons]; omega)) (by first | omega | (simp only [List.length_append, List.length_take, List.length_drop, List.length_nil, List.length_cons]; omega)) ?_; intro ao55 cap55 c55 hL55)
    refine Go.Sl.ow_nil ?_
    refine Go.Sl.xw_nx ?_
    refine Go.Sl.aw_step1 8 (by decide +kernel) rfl ?_
    (refine Go.Sl.ow_appendL rfl rfl Try.underlying23 Try.underlying23 Ty.em23 (vbTy) rfl rfl (by assumption) (by repeat (first | exact Go.Sl.Sel.here | apply Go.Sl.Sel.there)) (((hI _).data.cov (by first | exact Go.Sl.Cov.refl _ | (intro p; simp only [List.flatten_cons, List.flatten_nil, List.flatten_append, List.append_nil, List.nil_append, Go.Sl.cnt_append, Go.Sl.cnt_cons, Go.Sl.cnt_nil, List.set_cons_zero, List.set_cons_succ, List.length_nil, List.length_cons, Nat.zero_add, List.append]; omega)))) (by first | omega | (simp only [List.length_append, List.length_take, List.length_drop, List.length_nil, List.length_cons]; omega)) (by first | omega | (simp only [List.length_append, List.length_take, List.length_drop, List.length_nil, List.length_cons]; omega)) ?_; intro ao58 cap58 c58 hL58)
    refine Go.Sl.ow_nil ?_
    refine Go.Sl.xw_nx ?_
    refine Go.Sl.aw_pure 9 rfl (by decide +kernel) rfl rfl (Go.Sl.v_assign rfl) rfl ?_
    refine Go.Sl.aw_end (by decide +kernel) ?_
    refine Go.Sl.xw_np ?_
    rotate_left
    (refine Go.Sl.ow_call rfl rfl rfl rfl (put7_c) ?_; rintro _ _ ⟨x54, rfl, hq54, rfl⟩)
    refine Go.Sl.ow_nil ?_
    refine Go.Sl.xw_nx ?_
    refine Go.Sl.aw_step2 3 7 (by decide +kernel) rfl rfl ?_ ?_
    (refine Go.Sl.ow_buildL (es := [(b0)]) rfl rfl Try.underlying23 Ty.em23 (vbTy) rfl rfl (by first | (simp [*]; done) | (repeat (first | exact List.forall_mem_nil _ | refine List.forall_mem_cons.2 ⟨?_, ?_⟩ | assumption | (show _ ∧ _; omega)))) (by simp only [List.length_cons, List.length_nil]; decide) ?_; intro ao53 c53 hL53)
    refine Go.Sl.ow_nil ?_
    refine Go.Sl.xw_nx ?_
    refine Go.Sl.aw_step2 5 7 (by decide +kernel) rfl rfl ?_ ?_
    (refine Go.Sl.ow_appendL rfl rfl Try.underlying23 Try.underlying23 Ty.em23 (vbTy) rfl rfl (by assumption) (by repeat (first | exact Go.Sl.Sel.here | apply Go.Sl.Sel.there)) (Go.Sl.Ls.vw (by assumption) (by repeat (first | exact Go.Sl.Sub.here | exact Go.Sl.Sub.nil | assumption | refine Go.Sl.Sub.there ?_))) (by first | omega | (simp only [List.length_append, List.length_take, List.length_drop, List.length_nil, List.length_cons]; omega)) (by first | omega | (simp only [List.length_append, List.length_take, List.length_drop, List.length_nil, List.length_cons]; omega)) ?_; intro ao55 cap55 c55 hL55)
    refine Go.Sl.ow_nil ?_
    refine Go.Sl.xw_nx ?_
    refine Go.Sl.aw_step1 7 (by decide +kernel) rfl ?_
    refine Go.Sl.ow_val rfl rfl (Go.Sl.v_load rfl (Go.Sl.Var.at1 Ty.sc23 (.there (.there .here)) (get_sdata))) ?_
    refine Go.Sl.ow_nil ?_
    refine Go.Sl.xw_nx ?_
    refine Go.Sl.aw_step1 8 (by decide +kernel) rfl ?_
    (refine Go.Sl.ow_appendL rfl rfl Try.underlying23 Try.underlying23 Ty.em23 (vbTy) rfl rfl (by assumption) (by repeat (first | exact Go.Sl.Sel.here | apply Go.Sl.Sel.there)) (((hI _).data.cov (by first | exact Go.Sl.Cov.refl _ | (intro p; simp only [List.flatten_cons, List.flatten_nil, List.flatten_append, List.append_nil, List.nil_append, Go.Sl.cnt_append, Go.Sl.cnt_cons, Go.Sl.cnt_nil, List.set_cons_zero, List.set_cons_succ, List.length_nil, List.length_cons, Nat.zero_add, List.append]; omega)))) (by first | omega | (simp only [List.length_append, List.length_take, List.length_drop, List.length_nil, List.length_cons]; omega)) (by first | omega | (simp only [List.length_append, List.length_take, List.length_drop, List.length_nil, List.length_cons]; omega)) ?_; intro ao58 cap58 c58 hL58)
    refine Go.Sl.ow_nil ?_
    refine Go.Sl.xw_nx ?_
    refine Go.Sl.aw_pure 9 rfl (by decide +kernel) rfl rfl (Go.Sl.v_assign rfl) rfl ?_
    refine Go.Sl.aw_end (by decide +kernel) ?_
    refine Go.Sl.xw_np ?_
    rotate_left
    refine Go.Sl.ow_val rfl rfl (Go.Sl.v_load rfl (Go.Sl.Var.at1 Ty.sc23 (.there (.there .here)) (get_sdata))) ?_
    refine Go.Sl.ow_nil ?_
    refine Go.Sl.xw_nx ?_
    refine Go.Sl.aw_step1 5 (by decide +kernel) rfl ?_
    (refine Go.Sl.ow_appendL rfl rfl Try.underlying23 Try.underlying23 Ty.em23 (vbTy) rfl rfl (by assumption) (by repeat (first | exact Go.Sl.Sel.here | apply Go.Sl.Sel.there)) (Go.Sl.Ls.vw (by assumption) (by repeat (first | exact Go.Sl.Sub.here | exact Go.Sl.Sub.nil | assumption | refine Go.Sl.Sub.there ?_))) (by first | omega | (simp only [List.length_append, List.length_take, List.length_drop, List.length_nil, List.length_cons]; omega)) (by first | omega | (simp only [List.length_append, List.length_take, List.length_drop, List.length_nil, List.length_cons]; omega)) ?_; intro ao55 cap55 c55 hL55)
    refine Go.Sl.ow_nil ?_
    refine Go.Sl.xw_nx ?_
    refine Go.Sl.aw_step1 8 (by decide +kernel) rfl ?_
    (refine Go.Sl.ow_appendL rfl rfl Try.underlying23 Try.underlying23 Ty.em23 (vbTy) rfl rfl (by assumption) (by repeat (first | exact Go.Sl.Sel.here | apply Go.Sl.Sel.there)) (((hI _).data.cov (by first | exact Go.Sl.Cov.refl _ | (intro p; simp only [List.flatten_cons, List.flatten_nil, List.flatten_append, List.append_nil, List.nil_append, Go.Sl.cnt_append, Go.Sl.cnt_cons, Go.Sl.cnt_nil, List.set_cons_zero, List.set_cons_succ, List.length_nil, List.length_cons, Nat.zero_add, List.append]; omega)))) (by first | omega | (simp only [List.length_append, List.length_take, List.length_drop, List.length_nil, List.length_cons]; omega)) (by first | omega | (simp only [List.length_append, List.length_take, List.length_drop, List.length_nil, List.length_cons]; omega)) ?_; intro ao58 cap58 c58 hL58)
    refine Go.Sl.ow_nil ?_
    refine Go.Sl.xw_nx ?_
    refine Go.Sl.aw_pure 9 rfl (by decide +kernel) rfl rfl (Go.Sl.v_assign rfl) rfl ?_
    refine Go.Sl.aw_end (by decide +kernel) ?_
    refine Go.Sl.xw_np ?_
    rotate_left
    refine Go.Sl.ow_val rfl rfl (Go.Sl.v_load rfl (Go.Sl.Var.at1 Ty.sc23 (.there .here) (get_sdata))) ?_
    refine Go.Sl.ow_nil ?_
    refine Go.Sl.xw_nx ?_
    refine Go.Sl.aw_step1 3 (by decide +kernel) rfl ?_
    (refine Go.Sl.ow_buildL (es := [(b0)]) rfl rfl Try.underlying23 Ty.em23 (vbTy) rfl rfl (by first | (simp [*]; done) | (repeat (first | exact List.forall_mem_nil _ | refine List.forall_mem_cons.2 ⟨?_, ?_⟩ | assumption | (show _ ∧ _; omega)))) (by simp only [List.length_cons, List.length_nil]; decide) ?_; intro ao53 c53 hL53)
    refine Go.Sl.ow_nil ?_
    refine Go.Sl.xw_nx ?_
    refine Go.Sl.aw_step1 5 (by decide +kernel) rfl ?_
    (refine Go.Sl.ow_appendL rfl rfl Try.underlying23 Try.underlying23 Ty.em23 (vbTy) rfl rfl (by assumption) (by repeat (first | exact Go.Sl.Sel.here | apply Go.Sl.Sel.there)) (Go.Sl.Ls.vw (by assumption) (by repeat (first | exact Go.Sl.Sub.here | exact Go.Sl.Sub.nil | assumption | refine Go.Sl.Sub.there ?_))) (by first | omega | (simp only [List.length_append, List.length_take, List.length_drop, List.length_nil, List.length_cons]; omega)) (by first | omega | (simp only [List.length_append, List.length_take, List.length_drop, List.length_nil, List.length_cons]; omega)) ?_; intro ao55 cap55 c55 hL55)
    refine Go.Sl.ow_nil ?_
    refine Go.Sl.xw_nx ?_
    refine Go.Sl.aw_step1 8 (by decide +kernel) rfl ?_
    (refine Go.Sl.ow_appendL rfl rfl Try.underlying23 Try.underlying23 Ty.em23 (vbTy) rfl rfl (by assumption) (by repeat (first | exact Go.Sl.Sel.here | apply Go.Sl.Sel.there)) (((hI _).data.cov (by first | exact Go.Sl.Cov.refl _ | (intro p; simp only [List.flatten_cons, List.flatten_nil, List.flatten_append, List.append_nil, List.nil_append, Go.Sl.cnt_append, Go.Sl.cnt_cons, Go.Sl.cnt_nil, List.set_cons_zero, List.set_cons_succ, List.length_nil, List.length_cons, Nat.zero_add, List.append]; omega)))) (by first | omega | (simp only [List.length_append, List.length_take, List.length_drop, List.length_nil, List.length_cons]; omega)) (by first | omega | (simp only [List.length_append, List.length_take, List.length_drop, List.length_nil, List.length_cons]; omega)) ?_; intro ao58 cap58 c58 hL58)
    refine Go.Sl.ow_nil ?_
    refine Go.Sl.xw_nx ?_
    refine Go.Sl.aw_pure 9 rfl (by decide +kernel) rfl rfl (Go.Sl.v_assign rfl) rfl ?_
    refine Go.Sl.aw_end (by decide +kernel) ?_
    refine Go.Sl.xw_np ?_
    rotate_left
    refine Go.Sl.ow_val rfl rfl (Go.Sl.v_load rfl (Go.Sl.Var.at1 Ty.sc23 .here (get_sdata))) ?_
    refine Go.Sl.ow_nil ?_
    refine Go.Sl.xw_nx ?_
    refine Go.Sl.aw_step2 3 4 (by decide +kernel) rfl rfl ?_ ?_
    (refine Go.Sl.ow_buildL (es := [(b0)]) rfl rfl Try.underlying23 Ty.em23 (vbTy) rfl rfl (by first | (simp [*]; done) | (repeat (first | exact List.forall_mem_nil _ | refine List.forall_mem_cons.2 ⟨?_, ?_⟩ | assumption | (show _ ∧ _; omega)))) (by simp only [List.length_cons, List.length_nil]; decide) ?_; intro ao53 c53 hL53)
    refine Go.Sl.ow_nil ?_
    refine Go.Sl.xw_nx ?_
    refine Go.Sl.aw_step1 4 (by decide +kernel) rfl ?_
    (refine Go.Sl.ow_call rfl rfl rfl rfl (put7_c) ?_; rintro _ _ ⟨x54, rfl, hq54, rfl⟩)
    refine Go.Sl.ow_nil ?_
    refine Go.Sl.xw_nx ?_
    refine Go.Sl.aw_step1 5 (by decide +kernel) rfl ?_
    (refine Go.Sl.ow_appendL rfl rfl Try.underlying23 Try.underlying23 Ty.em23 (vbTy) rfl rfl (by assumption) (by repeat (first | exact Go.Sl.Sel.here | apply Go.Sl.Sel.there)) (Go.Sl.Ls.vw (by assumption) (by repeat (first | exact Go.Sl.Sub.here | exact Go.Sl.Sub.nil | assumption | refine Go.Sl.Sub.there ?_))) (by first | omega | (simp only [List.length_append, List.length_take, List.length_drop, List.length_nil, List.length_cons]; omega)) (by first | omega | (simp only [List.length_append, List.length_take, List.length_drop, List.length_nil, List.length_cons]; omega)) ?_; intro ao55 cap55 c55 hL55)
    refine Go.Sl.ow_nil ?_
    refine Go.Sl.xw_nx ?_
    refine Go.Sl.aw_step1 8 (by decide +kernel) rfl ?_
    (refine Go.Sl.ow_appendL rfl rfl Try.underlying23 Try.underlying23 Ty.em23 (vbTy) rfl rfl (by assumption) (by repeat (first | exact Go.Sl.Sel.here | apply Go.Sl.Sel.there)) (((hI _).data.cov (by first | exact Go.Sl.Cov.refl _ | (intro p; simp only [List.flatten_cons, List.flatten_nil, List.flatten_append, List.append_nil, List.nil_append, Go.Sl.cnt_append, Go.Sl.cnt_cons, Go.Sl.cnt_nil, List.set_cons_zero, List.set_cons_succ, List.length_nil, List.length_cons, Nat.zero_add, List.append]; omega)))) (by first | omega | (simp only [List.length_append, List.length_take, List.length_drop, List.length_nil, List.length_cons]; omega)) (by first | omega | (simp only [List.length_append, List.length_take, List.length_drop, List.length_nil, List.length_cons]; omega)) ?_; intro ao58 cap58 c58 hL58)
    refine Go.Sl.ow_nil ?_
    refine Go.Sl.xw_nx ?_
    refine Go.Sl.aw_pure 9 rfl (by decide +kernel) rfl rfl (Go.Sl.v_assign rfl) rfl ?_
    refine Go.Sl.aw_end (by decide +kernel) ?_
    refine Go.Sl.xw_np ?_
    rotate_left
    (refine Go.Sl.ow_call rfl rfl rfl rfl (put7_c) ?_; rintro _ _ ⟨x54, rfl, hq54, rfl⟩)
    refine Go.Sl.ow_nil ?_
    refine Go.Sl.xw_nx ?_
    refine Go.Sl.aw_step1 3 (by decide +kernel) rfl ?_
    (refine Go.Sl.ow_buildL (es := [(b0)]) rfl rfl Try.underlying23 Ty.em23 (vbTy) rfl rfl (by first | (simp [*]; done) | (repeat (first | exact List.forall_mem_nil _ | refine List.forall_mem_cons.2 ⟨?_, ?_⟩ | assumption | (show _ ∧ _; omega)))) (by simp only [List.length_cons, List.length_nil]; decide) ?_; intro ao53 c53 hL53)
    refine Go.Sl.ow_nil ?_
    refine Go.Sl.xw_nx ?_
    refine Go.Sl.aw_step1 5 (by decide +kernel) rfl ?_
    (refine Go.Sl.ow_appendL rfl rfl Try.underlying23 Try.underlying23 Ty.em23 (vbTy) rfl rfl (by assumption) (by repeat (first | exact Go.Sl.Sel.here | apply Go.Sl.Sel.there)) (Go.Sl.Ls.vw (by assumption) (by repeat (first | exact Go.Sl.Sub.here | exact Go.Sl.Sub.nil | assumption | refine Go.Sl.Sub.there ?_))) (by first | omega | (simp only [List.length_append, List.length_take, List.length_drop, List.length_nil, List.length_cons]; omega)) (by first | omega | (simp only [List.length_append, List.length_take, List.length_drop, List.length_nil, List.length_cons]; omega)) ?_; intro ao55 cap55 c55 hL55)
    refine Go.Sl.ow_nil ?_
    refine Go.Sl.xw_nx ?_
    refine Go.Sl.aw_step1 8 (by decide +kernel) rfl ?_
    (refine Go.Sl.ow_appendL rfl rfl Try.underlying23 Try.underlying23 Ty.em23 (vbTy) rfl rfl (by assumption) (by repeat (first | exact Go.Sl.Sel.here | apply Go.Sl.Sel.there)) (((hI _).data.cov (by first | exact Go.Sl.Cov.refl _ | (intro p; simp only [List.flatten_cons, List.flatten_nil, List.flatten_append, List.append_nil, List.nil_append, Go.Sl.cnt_append, Go.Sl.cnt_cons, Go.Sl.cnt_nil, List.set_cons_zero, List.set_cons_succ, List.length_nil, List.length_cons, Nat.zero_add, List.append]; omega)))) (by first | omega | (simp only [List.length_append, List.length_take, List.length_drop, List.length_nil, List.length_cons]; omega)) (by first | omega | (simp only [List.length_append, List.length_take, List.length_drop, List.length_nil, List.length_cons]; omega)) ?_; intro ao58 cap58 c58 hL58)
    refine Go.Sl.ow_nil ?_
    refine Go.Sl.xw_nx ?_
    refine Go.Sl.aw_pure 9 rfl (by decide +kernel) rfl rfl (Go.Sl.v_assign rfl) rfl ?_
    refine Go.Sl.aw_end (by decide +kernel) ?_
    refine Go.Sl.xw_np ?_
    rotate_left
    all_goals exact xw_joint (ao58, cap58, c58) hL58 (by first | exact Go.Sl.Cov.refl _ | (intro p; simp only [List.flatten_cons, List.flatten_nil, List.flatten_append, List.append_nil, List.nil_append, Go.Sl.cnt_append, Go.Sl.cnt_cons, Go.Sl.cnt_nil, List.set_cons_zero, List.set_cons_succ, List.length_nil, List.length_cons, Nat.zero_add, List.append]; omega)) (by repeat (first | exact True.intro | refine And.intro rfl ?_))
  rintro ⟨aX, kX, cX⟩ hLX
  dsimp only at hLX ⊢
  refine cw_flat ([] :: cX :: [(b3, .cells s.cells.toArray 32 (0, 0))] :: F) (.of_eq (by simp)) ?_
  refine Go.Sl.cw_cut2 (ι := ((Option Addr × Nat × Hp))) [(2, _), (3, _), (6, _), (7, _), (21, _), (31, _), (42, _)] ⟨rfl, rfl, rfl, rfl, rfl, rfl, rfl, trivial⟩ ((fun x => [(13, .slice x.1 ((b0 :: 7 :: (if off = true then [9] else [])) ++ s.data).length x.2.1)])) ((fun x => Ls enB 5 (.slice x.1 ((b0 :: 7 :: (if off = true then [9] else [])) ++ s.data).length x.2.1) x.2.2 ((b0 :: 7 :: (if off = true then [9] else [])) ++ s.data))) ((fun x => x.2.2 :: [(b3, .cells s.cells.toArray 32 (0, 0))] :: F)) ?_ ?_
  · cases off with
    | false =>
      have h4 := hB.2.2
      refine Go.Sl.cw_seq ?_
      refine Go.Sl.cw_region ?_
      refine Go.Sl.ow_val rfl rfl (Go.Sl.v_move rfl) ?_
      refine Go.Sl.ow_val rfl rfl ((v_and rfl rfl h4)) ?_
      refine Go.Sl.ow_val rfl rfl (Go.Sl.v_neq rfl rfl) ?_
      refine Go.Sl.ow_nil ?_
      refine Go.Sl.xw_then ?_
      refine Go.Sl.cw_false rfl ?_
      refine Go.Sl.cw_skip ?_
      exact xw_joint (aX, kX, cX) hLX (by first | exact Go.Sl.Cov.refl _ | (intro p; simp only [List.flatten_cons, List.flatten_nil, List.flatten_append, List.append_nil, List.nil_append, Go.Sl.cnt_append, Go.Sl.cnt_cons, Go.Sl.cnt_nil, List.set_cons_zero, List.set_cons_succ, List.length_nil, List.length_cons, Nat.zero_add, List.append]; omega)) (by repeat (first | exact True.intro | refine And.intro rfl ?_))
    | true =>
      have h4 := hB.2.2
      refine Go.Sl.cw_seq ?_
      refine Go.Sl.cw_region ?_
      refine Go.Sl.ow_val rfl rfl (Go.Sl.v_move rfl) ?_
      refine Go.Sl.ow_val rfl rfl ((v_and rfl rfl h4)) ?_
      refine Go.Sl.ow_val rfl rfl (Go.Sl.v_neq rfl rfl) ?_
      refine Go.Sl.ow_nil ?_
      refine Go.Sl.xw_then ?_
      refine Go.Sl.cw_true rfl ?_
      refine Go.Sl.cw_any Ty.mixed ?_
      refine Go.Sl.aw_pure 0 rfl (by decide +kernel) rfl rfl (Go.Sl.v_move rfl) rfl ?_
      refine Go.Sl.aw_pure 1 rfl (by decide +kernel) rfl rfl (Go.Sl.v_and rfl rfl rfl) rfl ?_
      refine Go.Sl.aw_pure 2 rfl (by decide +kernel) rfl rfl ((v_or rfl rfl hX.2)) rfl ?_
      refine Go.Sl.aw_pure 6 rfl (by decide +kernel) rfl rfl (Go.Sl.v_fieldAddr0 Ty.fd32_4 rfl) rfl ?_
      refine Go.Sl.aw_step3 3 4 7 (by decide +kernel) rfl rfl rfl ?_ ?_ ?_
      (refine Go.Sl.ow_buildL (es := [(b0)]) rfl rfl Try.underlying23 Ty.em23 (vbTy) rfl rfl (by first | (simp [*]; done) | (repeat (first | exact List.forall_mem_nil _ | refine List.forall_mem_cons.2 ⟨?_, ?_⟩ | assumption | (show _ ∧ _; omega)))) (by simp only [List.length_cons, List.length_nil]; decide) ?_; intro ao65 c65 hL65)
      refine Go.Sl.ow_nil ?_
      refine Go.Sl.xw_nx ?_
      refine Go.Sl.aw_step2 4 7 (by decide +kernel) rfl rfl ?_ ?_
      (refine Go.Sl.ow_buildL (es := ([(7 : UInt8), 9])) rfl rfl Try.underlying23 Ty.em23 (vbTy) rfl rfl (by first | (simp [*]; done) | (repeat (first | exact List.forall_mem_nil _ | refine List.forall_mem_cons.2 ⟨?_, ?_⟩ | assumption | (show _ ∧ _; omega)))) (by simp only [List.length_cons, List.length_nil]; decide) ?_; intro ao66 c66 hL66)
      refine Go.Sl.ow_nil ?_
      refine Go.Sl.xw_nx ?_
      refine Go.Sl.aw_step2 5 7 (by decide +kernel) rfl rfl ?_ ?_
      (refine Go.Sl.ow_appendL rfl rfl Try.underlying23 Try.underlying23 Ty.em23 (vbTy) rfl rfl (by assumption) (by repeat (first | exact Go.Sl.Sel.here | apply Go.Sl.Sel.there)) (Go.Sl.Ls.vw (by assumption) (by repeat (first | exact Go.Sl.Sub.here | exact Go.Sl.Sub.nil | assumption | refine Go.Sl.Sub.there ?_))) (by first | omega | (simp only [List.length_append, List.length_take, List.length_drop, List.length_nil, List.length_cons]; omega)) (by first | omega | (simp only [List.length_append, List.length_take, List.length_drop, List.length_nil, List.length_cons]; omega)) ?_; intro ao67 cap67 c67 hL67)
      refine Go.Sl.ow_nil ?_
      refine Go.Sl.xw_nx ?_
      refine Go.Sl.aw_step1 7 (by decide +kernel) rfl ?_
      refine Go.Sl.ow_val rfl rfl (Go.Sl.v_load rfl (Go.Sl.Var.at1 Ty.sc23 (.there (.there (.there (.there .here)))) (get_sdata))) ?_
      refine Go.Sl.ow_nil ?_
      refine Go.Sl.xw_nx ?_
      refine Go.Sl.aw_step1 8 (by decide +kernel) rfl ?_
      (refine Go.Sl.ow_appendL rfl rfl Try.underlying23 Try.underlying23 Ty.em23 (vbTy) rfl rfl (by assumption) (by repeat (first | exact Go.Sl.Sel.here | apply Go.Sl.Sel.there)) (((hI _).data.cov (by first | exact Go.Sl.Cov.refl _ | (intro p; simp only [List.flatten_cons, List.flatten_nil, List.flatten_append, List.append_nil, List.nil_append, Go.Sl.cnt_append, Go.Sl.cnt_cons, Go.Sl.cnt_nil, List.set_cons_zero, List.set_cons_succ, List.length_nil, List.length_cons, Nat.zero_add, List.append]; omega)))) (by first | omega | (simp only [List.length_append, List.length_take, List.length_drop, List.length_nil, List.length_cons]; omega)) (by first | omega | (simp only [List.length_append, List.length_take, List.length_drop, List.length_nil, List.length_cons]; omega)) ?_; intro ao70 cap70 c70 hL70)
      refine Go.Sl.ow_nil ?_
      refine Go.Sl.xw_nx ?_
      refine Go.Sl.aw_pure 9 rfl (by decide +kernel) rfl rfl (Go.Sl.v_assign rfl) rfl ?_
      refine Go.Sl.aw_end (by decide +kernel) ?_
      refine Go.Sl.xw_np ?_
      rotate_left
      refine Go.Sl.ow_val rfl rfl (Go.Sl.v_load rfl (Go.Sl.Var.at1 Ty.sc23 (.there (.there (.there (.there .here)))) (get_sdata))) ?_
      refine Go.Sl.ow_nil ?_
      refine Go.Sl.xw_nx ?_
      refine Go.Sl.aw_step1 5 (by decide +kernel) rfl ?_
      (refine Go.Sl.ow_appendL rfl rfl Try.underlying23 Try.underlying23 Ty.em23 (vbTy) rfl rfl (by assumption) (by repeat (first | exact Go.Sl.Sel.here | apply Go.Sl.Sel.there)) (Go.Sl.Ls.vw (by assumption) (by repeat (first | exact Go.Sl.Sub.here | exact Go.Sl.Sub.nil | assumption | refine Go.Sl.Sub.there ?_))) (by first | omega | (simp only [List.length_append, List.length_take, List.length_drop, List.length_nil, List.length_cons]; omega)) (by first | omega | (simp only [List.length_append, List.length_take, List.length_drop, List.length_nil, List.length_cons]; omega)) ?_; intro ao67 cap67 c67 hL67)
      refine Go.Sl.ow_nil ?_
      refine Go.Sl.xw_nx ?_
      refine Go.Sl.aw_step1 8 (by decide +kernel) rfl ?_
      (refine Go.Sl.ow_appendL rfl rfl Try.underlying23 Try.underlying23 Ty.em23 (vbTy) rfl rfl (by assumption) (by repeat (first | exact Go.Sl.Sel.here | apply Go.Sl.Sel.there)) (((hI _).data.cov (by first | exact Go.Sl.Cov.refl _ | (intro p; simp only [List.flatten_cons, List.flatten_nil, List.flatten_append, List.append_nil, List.nil_append, Go.Sl.cnt_append, Go.Sl.cnt_cons, Go.Sl.cnt_nil, List.set_cons_zero, List.set_cons_succ, List.length_nil, List.length_cons, Nat.zero_add, List.append]; omega)))) (by first | omega | (simp only [List.length_append, List.length_take, List.length_drop, List.length_nil, List.length_cons]; omega)) (by first | omega | (simp only [List.length_append, List.length_take, List.length_drop, List.length_nil, List.length_cons]; omega)) ?_; intro ao70 cap70 c70 hL70)
      refine Go.Sl.ow_nil ?_
      refine Go.Sl.xw_nx ?_
      refine Go.Sl.aw_pure 9 rfl (by decide +kernel) rfl rfl (Go.Sl.v_assign rfl) rfl ?_
      refine Go.Sl.aw_end (by decide +kernel) ?_
      refine Go.Sl.xw_np ?_
      rotate_left
      refine Go.Sl.ow_val rfl rfl (Go.Sl.v_load rfl (Go.Sl.Var.at1 Ty.sc23 (.there (.there (.there .here))) (get_sdata))) ?_
      refine Go.Sl.ow_nil ?_
      refine Go.Sl.xw_nx ?_
      refine Go.Sl.aw_step1 4 (by decide +kernel) rfl ?_
      (refine Go.Sl.ow_buildL (es := ([(7 : UInt8), 9])) rfl rfl Try.underlying23 Ty.em23 (vbTy) rfl rfl (by first | (simp [*]; done) | (repeat (first | exact List.forall_mem_nil _ | refine List.forall_mem_cons.2 ⟨?_, ?_⟩ | assumption | (show _ ∧ _; omega)))) (by simp only [List.length_cons, List.length_nil]; decide) ?_; intro ao66 c66 hL66)
      refine Go.Sl.ow_nil ?_
      refine Go.Sl.xw_nx ?_
      refine Go.Sl.aw_step1 5 (by decide +kernel) rfl ?_
      (refine Go.Sl.ow_appendL rfl rfl Try.underlying23 Try.underlying23 Ty.em23 (vbTy) rfl rfl (by assumption) (by repeat (first | exact Go.Sl.Sel.here | apply Go.Sl.Sel.there)) (Go.Sl.Ls.vw (by assumption) (by repeat (first | exact Go.Sl.Sub.here | exact Go.Sl.Sub.nil | assumption | refine Go.Sl.Sub.there ?_))) (by first | omega | (simp only [List.length_append, List.length_take, List.length_drop, List.length_nil, List.length_cons]; omega)) (by first | omega | (simp only [List.length_append, List.length_take, List.length_drop, List.length_nil, List.length_cons]; omega)) ?_; intro ao67 cap67 c67 hL67)
      refine Go.Sl.ow_nil ?_
      refine Go.Sl.xw_nx ?_
      refine Go.Sl.aw_step1 8 (by decide +kernel) rfl ?_
      (refine Go.Sl.ow_appendL rfl rfl Try.underlying23 Try.underlying23 Ty.em23 (vbTy) rfl rfl (by assumption) (by repeat (first | exact Go.Sl.Sel.here | apply Go.Sl.Sel.there)) (((hI _).data.cov (by first | exact Go.Sl.Cov.refl _ | (intro p; simp only [List.flatten_cons, List.flatten_nil, List.flatten_append, List.append_nil, List.nil_append, Go.Sl.cnt_append, Go.Sl.cnt_cons, Go.Sl.cnt_nil, List.set_cons_zero, List.set_cons_succ, List.length_nil, List.length_cons, Nat.zero_add, List.append]; omega)))) (by first | omega | (simp only [List.length_append, List.length_take, List.length_drop, List.length_nil, List.length_cons]; omega)) (by first | omega | (simp only [List.length_append, List.length_take, List.length_drop, List.length_nil, List.length_cons]; omega)) ?_; intro ao70 cap70 c70 hL70)
      refine Go.Sl.ow_nil ?_
      refine Go.Sl.xw_nx ?_
      refine Go.Sl.aw_pure 9 rfl (by decide +kernel) rfl rfl (Go.Sl.v_assign rfl) rfl ?_
      refine Go.Sl.aw_end (by decide +kernel) ?_
      refine Go.Sl.xw_np ?_
      rotate_left
      (refine Go.Sl.ow_buildL (es := ([(7 : UInt8), 9])) rfl rfl Try.underlying23 Ty.em23 (vbTy) rfl rfl (by first | (simp [*]; done) | (repeat (first | exact List.forall_mem_nil _ | refine List.forall_mem_cons.2 ⟨?_, ?_⟩ | assumption | (show _ ∧ _; omega)))) (by simp only [List.length_cons, List.length_nil]; decide) ?_; intro ao66 c66 hL66)
      refine Go.Sl.ow_nil ?_
      refine Go.Sl.xw_nx ?_
      refine Go.Sl.aw_step2 3 7 (by decide +kernel) rfl rfl ?_ ?_
      (refine Go.Sl.ow_buildL (es := [(b0)]) rfl rfl Try.underlying23 Ty.em23 (vbTy) rfl rfl (by first | (simp [*]; done) | (repeat (first | exact List.forall_mem_nil _ | refine List.forall_mem_cons.2 ⟨?_, ?_⟩ | assumption | (show _ ∧ _; omega)))) (by simp only [List.length_cons, List.length_nil]; decide) ?_; intro ao65 c65 hL65)
      refine Go.Sl.ow_nil ?_
      refine Go.Sl.xw_nx ?_
      refine Go.Sl.aw_step2 5 7 (by decide +kernel) rfl rfl ?_ ?_
      (refine Go.Sl.ow_appendL rfl rfl Try.underlying23 Try.underlying23 Ty.em23 (vbTy) rfl rfl (by assumption) (by repeat (first | exact Go.Sl.Sel.here | apply Go.Sl.Sel.there)) (Go.Sl.Ls.vw (by assumption) (by repeat (first | exact Go.Sl.Sub.here | exact Go.Sl.Sub.nil | assumption | refine Go.Sl.Sub.there ?_))) (by first | omega | (simp only [List.length_append, List.length_take, List.length_drop, List.length_nil, List.length_cons]; omega)) (by first | omega | (simp only [List.length_append, List.length_take, List.length_drop, List.length_nil, List.length_cons]; omega)) ?_; intro ao67 cap67 c67 hL67)
      refine Go.Sl.ow_nil ?_
      refine Go.Sl.xw_nx ?_
      refine Go.Sl.aw_step1 7 (by decide +kernel) rfl ?_
      refine Go.Sl.ow_val rfl rfl (Go.Sl.v_load rfl (Go.Sl.Var.at1 Ty.sc23 (.there (.there (.there (.there .here)))) (get_sdata))) ?_
      refine Go.Sl.ow_nil ?_
      refine Go.Sl.xw_nx ?_
      refine Go.Sl.aw_step1 8 (by decide +kernel) rfl ?_
      (refine Go.Sl.ow_appendL rfl rfl Try.underlying23 Try.underlying23 Ty.em23 (vbTy) rfl rfl (by assumption) (by repeat (first | exact Go.Sl.Sel.here | apply Go.Sl.Sel.there)) (((hI _).data.cov (by first | exact Go.Sl.Cov.refl _ | (intro p; simp only [List.flatten_cons, List.flatten_nil, List.flatten_append, List.append_nil, List.nil_append, Go.Sl.cnt_append, Go.Sl.cnt_cons, Go.Sl.cnt_nil, List.set_cons_zero, List.set_cons_succ, List.length_nil, List.length_cons, Nat.zero_add, List.append]; omega)))) (by first | omega | (simp only [List.length_append, List.length_take, List.length_drop, List.length_nil, List.length_cons]; omega)) (by first | omega | (simp only [List.length_append, List.length_take, List.length_drop, List.length_nil, List.length_cons]; omega)) ?_; intro ao70 cap70 c70 hL70)
      refine Go.Sl.ow_nil ?_
      refine Go.Sl.xw_nx ?_
      refine Go.Sl.aw_pure 9 rfl (by decide +kernel) rfl rfl (Go.Sl.v_assign rfl) rfl ?_
      refine Go.Sl.aw_end (by decide +kernel) ?_
      refine Go.Sl.xw_np ?_
      rotate_left
      refine Go.Sl.ow_val rfl rfl (Go.Sl.v_load rfl (Go.Sl.Var.at1 Ty.sc23 (.there (.there (.there (.there .here)))) (get_sdata))) ?_
      refine Go.Sl.ow_nil ?_
      refine Go.Sl.xw_nx ?_
      refine Go.Sl.aw_step1 5 (by decide +kernel) rfl ?_
      (refine Go.Sl.ow_appendL rfl rfl Try.underlying23 Try.underlying23 Ty.em23 (vbTy) rfl rfl (by assumption) (by repeat (first | exact Go.Sl.Sel.here | apply Go.Sl.Sel.there)) (Go.Sl.Ls.vw (by assumption) (by repeat (first | exact Go.Sl.Sub.here | exact Go.Sl.Sub.nil | assumption | refine Go.Sl.Sub.there ?_))) (by first | omega | (simp only [List.length_append, List.length_take, List.length_drop, List.length_nil, List.length_cons]; omega)) (by first | omega | (simp only [List.length_append, List.length_take, List.length_drop, List.length_nil, List.length_cons]; omega)) ?_; intro ao67 cap67 c67 hL67)
      refine Go.Sl.ow_nil ?_
      refine Go.Sl.xw_nx ?_
      refine Go.Sl.aw_step1 8 (by decide +kernel) rfl ?_
      (refine Go.Sl.ow_appendL rfl rfl Try.underlying23 Try.underlying23 Ty.em23 (vbTy) rfl rfl (by assumption) (by repeat (first | exact Go.Sl.Sel.here | apply Go.Sl.Sel.there)) (((hI _).data.cov (by first | exact Go.Sl.Cov.refl _ | (intro p; simp only [List.flatten_cons, List.flatten_nil, List.flatten_append, List.append_nil, List.nil_append, Go.Sl.cnt_append, Go.Sl.cnt_cons, Go.Sl.cnt_nil, List.set_cons_zero, List.set_cons_succ, List.length_nil, List.length_cons, Nat.zero_add, List.append]; omega)))) (by first | omega | (simp only [List.length_append, List.length_take, List.length_drop, List.length_nil, List.length_cons]; omega)) (by first | omega | (simp only [List.length_append, List.length_take, List.length_drop, List.length_nil, List.length_cons]; omega)) ?_; intro ao70 cap70 c70 hL70)
      refine Go.Sl.ow_nil ?_
      refine Go.Sl.xw_nx ?_
      refine Go.Sl.aw_pure 9 rfl (by decide +kernel) rfl rfl (Go.Sl.v_assign rfl) rfl ?_
      refine Go.Sl.aw_end (by decide +kernel) ?_
      refine Go.Sl.xw_np ?_
      rotate_left
      refine Go.Sl.ow_val rfl rfl (Go.Sl.v_load rfl (Go.Sl.Var.at1 Ty.sc23 (.there (.there (.there .here))) (get_sdata))) ?_
      refine Go.Sl.ow_nil ?_
      refine Go.Sl.xw_nx ?_
      refine Go.Sl.aw_step1 3 (by decide +kernel) rfl ?_
      (refine Go.Sl.ow_buildL (es := [(b0)]) rfl rfl Try.underlying23 Ty.em23 (vbTy) rfl rfl (by first | (simp [*]; done) | (repeat (first | exact List.forall_mem_nil _ | refine List.forall_mem_cons.2 ⟨?_, ?_⟩ | assumption | (show _ ∧ _; omega)))) (by simp only [List.length_cons, List.length_nil]; decide) ?_; intro ao65 c65 hL65)
      refine Go.Sl.ow_nil ?_
      refine Go.Sl.xw_nx ?_
      refine Go.Sl.aw_step1 5 (by decide +kernel) rfl ?_
      (refine Go.Sl.ow_appendL rfl rfl Try.underlying23 Try.underlying23 Ty.em23 (vbTy) rfl rfl (by assumption) (by repeat (first | exact Go.Sl.Sel.here | apply Go.Sl.Sel.there)) (Go.Sl.Ls.vw (by assumption) (by repeat (first | exact Go.Sl.Sub.here | exact Go.Sl.Sub.nil | assumption | refine Go.Sl.Sub.there ?_))) (by first | omega | (simp only [List.length_append, List.length_take, List.length_drop, List.length_nil, List.length_cons]; omega)) (by first | omega | (simp only [List.length_append, List.length_take, List.length_drop, List.length_nil, List.length_cons]; omega)) ?_; intro ao67 cap67 c67 hL67)
      refine Go.Sl.ow_nil ?_
      refine Go.Sl.xw_nx ?_
      refine Go.Sl.aw_step1 8 (by decide +kernel) rfl ?_
      (refine Go.Sl.ow_appendL rfl rfl Try.underlying23 Try.underlying23 Ty.em23 (vbTy) rfl rfl (by assumption) (by repeat (first | exact Go.Sl.Sel.here | apply Go.Sl.Sel.there)) (((hI _).data.cov (by first | exact Go.Sl.Cov.refl _ | (intro p; simp only [List.flatten_cons, List.flatten_nil, List.flatten_append, List.append_nil, List.nil_append, Go.Sl.cnt_append, Go.Sl.cnt_cons, Go.Sl.cnt_nil, List.set_cons_zero, List.set_cons_succ, List.length_nil, List.length_cons, Nat.zero_add, List.append]; omega)))) (by first | omega | (simp only [List.length_append, List.length_take, List.length_drop, List.length_nil, List.length_cons]; omega)) (by first | omega | (simp only [List.length_append, List.length_take, List.length_drop, List.length_nil, List.length_cons]; omega)) ?_; intro ao70 cap70 c70 hL70)
      refine Go.Sl.ow_nil ?_
      refine Go.Sl.xw_nx ?_
      refine Go.Sl.aw_pure 9 rfl (by decide +kernel) rfl rfl (Go.Sl.v_assign rfl) rfl ?_
      refine Go.Sl.aw_end (by decide +kernel) ?_
      refine Go.Sl.xw_np ?_
      rotate_left
      refine Go.Sl.ow_val rfl rfl (Go.Sl.v_load rfl (Go.Sl.Var.at1 Ty.sc23 (.there (.there .here)) (get_sdata))) ?_
      refine Go.Sl.ow_nil ?_
      refine Go.Sl.xw_nx ?_
      refine Go.Sl.aw_step2 3 4 (by decide +kernel) rfl rfl ?_ ?_
      (refine Go.Sl.ow_buildL (es := [(b0)]) rfl rfl Try.underlying23 Ty.em23 (vbTy) rfl rfl (by first | (simp [*]; done) | (repeat (first | exact List.forall_mem_nil _ | refine List.forall_mem_cons.2 ⟨?_, ?_⟩ | assumption | (show _ ∧ _; omega)))) (by simp only [List.length_cons, List.length_nil]; decide) ?_; intro ao65 c65 hL65)
      refine Go.Sl.ow_nil ?_
      refine Go.Sl.xw_nx ?_
      refine Go.Sl.aw_step1 4 (by decide +kernel) rfl ?_
      (refine Go.Sl.ow_buildL (es := ([(7 : UInt8), 9])) rfl rfl Try.underlying23 Ty.em23 (vbTy) rfl rfl (by first | (simp [*]; done) | (repeat (first | exact List.forall_mem_nil _ | refine List.forall_mem_cons.2 ⟨?_, ?_⟩ | assumption | (show _ ∧ _; omega)))) (by simp only [List.length_cons, List.length_nil]; decide) ?_; intro ao66 c66 hL66)
      refine Go.Sl.ow_nil ?_
      refine Go.Sl.xw_nx ?_
      refine Go.Sl.aw_step1 5 (by decide +kernel) rfl ?_
      (refine Go.Sl.ow_appendL rfl rfl Try.underlying23 Try.underlying23 Ty.em23 (vbTy) rfl rfl (by assumption) (by repeat (first | exact Go.Sl.Sel.here | apply Go.Sl.Sel.there)) (Go.Sl.Ls.vw (by assumption) (by repeat (first | exact Go.Sl.Sub.here | exact Go.Sl.Sub.nil | assumption | refine Go.Sl.Sub.there ?_))) (by first | omega | (simp only [List.length_append, List.length_take, List.length_drop, List.length_nil, List.length_cons]; omega)) (by first | omega | (simp only [List.length_append, List.length_take, List.length_drop, List.length_nil, List.length_cons]; omega)) ?_; intro ao67 cap67 c67 hL67)
      refine Go.Sl.ow_nil ?_
      refine Go.Sl.xw_nx ?_
      refine Go.Sl.aw_step1 8 (by decide +kernel) rfl ?_
      (refine Go.Sl.ow_appendL rfl rfl Try.underlying23 Try.underlying23 Ty.em23 (vbTy) rfl rfl (by assumption) (by repeat (first | exact Go.Sl.Sel.here | apply Go.Sl.Sel.there)) (((hI _).data.cov (by first | exact Go.Sl.Cov.refl _ | (intro p; simp only [List.flatten_cons, List.flatten_nil, List.flatten_append, List.append_nil, List.nil_append, Go.Sl.cnt_append, Go.Sl.cnt_cons, Go.Sl.cnt_nil, List.set_cons_zero, List.set_cons_succ, List.length_nil, List.length_cons, Nat.zero_add, List.append]; omega)))) (by first | omega | (simp only [List.length_append, List.length_take, List.length_drop, List.length_nil, List.length_cons]; omega)) (by first | omega | (simp only [List.length_append, List.length_take, List.length_drop, List.length_nil, List.length_cons]; omega)) ?_; intro ao70 cap70 c70 hL70)
      refine Go.Sl.ow_nil ?_
      refine Go.Sl.xw_nx ?_
      refine Go.Sl.aw_pure 9 rfl (by decide +kernel) rfl rfl (Go.Sl.v_assign rfl) rfl ?_
      refine Go.Sl.aw_end (by decide +kernel) ?_
      refine Go.Sl.xw_np ?_
      rotate_left
      (refine Go.Sl.ow_buildL (es := ([(7 : UInt8), 9])) rfl rfl Try.underlying23 Ty.em23 (vbTy) rfl rfl (by first | (simp [*]; done) | (repeat (first | exact List.forall_mem_nil _ | refine List.forall_mem_cons.2 ⟨?_, ?_⟩ | assumption | (show _ ∧ _; omega)))) (by simp only [List.length_cons, List.length_nil]; decide) ?_; intro ao66 c66 hL66)
      refine Go.Sl.ow_nil ?_
      refine Go.Sl.xw_nx ?_
      refine Go.Sl.aw_step1 3 (by decide +kernel) rfl ?_
      (refine Go.Sl.ow_buildL (es := [(b0)]) rfl rfl Try.underlying23 Ty.em23 (vbTy) rfl rfl (by first | (simp [*]; done) | (repeat (first | exact List.forall_mem_nil _ | refine List.forall_mem_cons.2 ⟨?_, ?_⟩ | assumption | (show _ ∧ _; omega)))) (by simp only [List.length_cons, List.length_nil]; decide) ?_; intro ao65 c65 hL65)
      refine Go.Sl.ow_nil ?_
      refine Go.Sl.xw_nx ?_
      refine Go.Sl.aw_step1 5 (by decide +kernel) rfl ?_
      (refine Go.Sl.ow_appendL rfl rfl Try.underlying23 Try.underlying23 Ty.em23 (vbTy) rfl rfl (by assumption) (by repeat (first | exact Go.Sl.Sel.here | apply Go.Sl.Sel.there)) (Go.Sl.Ls.vw (by assumption) (by repeat (first | exact Go.Sl.Sub.here | exact Go.Sl.Sub.nil | assumption | refine Go.Sl.Sub.there ?_))) (by first | omega | (simp only [List.length_append, List.length_take, List.length_drop, List.length_nil, List.length_cons]; omega)) (by first | omega | (simp only [List.length_append, List.length_take, List.length_drop, List.length_nil, List.length_cons]; omega)) ?_; intro ao67 cap67 c67 hL67)
      refine Go.Sl.ow_nil ?_
      refine Go.Sl.xw_nx ?_
      refine Go.Sl.aw_step1 8 (by decide +kernel) rfl ?_
      (refine Go.Sl.ow_appendL rfl rfl Try.underlying23 Try.underlying23 Ty.em23 (vbTy) rfl rfl (by assumption) (by repeat (first | exact Go.Sl.Sel.here | apply Go.Sl.Sel.there)) (((hI _).data.cov (by first | exact Go.Sl.Cov.refl _ | (intro p; simp only [List.flatten_cons, List.flatten_nil, List.flatten_append, List.append_nil, List.nil_append, Go.Sl.cnt_append, Go.Sl.cnt_cons, Go.Sl.cnt_nil, List.set_cons_zero, List.set_cons_succ, List.length_nil, List.length_cons, Nat.zero_add, List.append]; omega)))) (by first | omega | (simp only [List.length_append, List.length_take, List.length_drop, List.length_nil, List.length_cons]; omega)) (by first | omega | (simp only [List.length_append, List.length_take, List.length_drop, List.length_nil, List.length_cons]; omega)) ?_; intro ao70 cap70 c70 hL70)
      refine Go.Sl.ow_nil ?_
      refine Go.Sl.xw_nx ?_
      refine Go.Sl.aw_pure 9 rfl (by decide +kernel) rfl rfl (Go.Sl.v_assign rfl) rfl ?_
      refine Go.Sl.aw_end (by decide +kernel) ?_
      refine Go.Sl.xw_np ?_
      rotate_left
      all_goals exact xw_joint (ao70, cap70, c70) hL70 (by first | exact Go.Sl.Cov.refl _ | (intro p; simp only [List.flatten_cons, List.flatten_nil, List.flatten_append, List.append_nil, List.nil_append, Go.Sl.cnt_append, Go.Sl.cnt_cons, Go.Sl.cnt_nil, List.set_cons_zero, List.set_cons_succ, List.length_nil, List.length_cons, Nat.zero_add, List.append]; omega)) (by repeat (first | exact True.intro | refine And.intro rfl ?_))
  rintro ⟨aY, kY, cY⟩ hLY
  dsimp only at hLY ⊢
  have hYl : ((b0 :: 7 :: (if off = true then [9] else [])) ++ s.data).length ≤ 3 + s.data.length := by
    have h3 : (b0 :: 7 :: (if off = true then [9] else [])).length ≤ 3 := by cases off <;> exact Nat.le_of_ble_eq_true rfl
    rw [List.length_append]
    omega
  refine Go.Sl.cw_seq ?_
  refine Go.Sl.cw_seq ?_
  refine Go.Sl.cw_region ?_
  refine Go.Sl.ow_val rfl rfl (Go.Sl.v_fieldAddr0 Ty.fd32_4 rfl) ?_
  refine Go.Sl.ow_val rfl rfl (Go.Sl.v_load rfl (Go.Sl.Var.at1 Ty.sc23 (.there .here) (get_sdata))) ?_
  refine Go.Sl.ow_val rfl rfl (Go.Sl.v_len rfl Try.underlying23 rfl) ?_
  refine Go.Sl.ow_val rfl rfl (Go.Sl.v_gtr rfl rfl) ?_
  refine Go.Sl.ow_nil ?_
  refine Go.Sl.xw_then ?_
  refine Go.Sl.cw_dec rfl (fun hc74 => ?_) (fun hc74 => ?_)
  refine Go.Sl.cw_seq ?_
  refine Go.Sl.cw_region ?_
  refine Go.Sl.ow_val rfl rfl (Go.Sl.v_assign rfl) ?_
  refine Go.Sl.ow_nil ?_
  refine Go.Sl.xw_then ?_
  refine Go.Sl.cw_ret ?_
  refine Go.Sl.xw_then_ret ?_
  refine Go.Sl.ret1 rfl (Go.Sl.res_tmp rfl) ?_
  rotate_left
  refine Go.Sl.cw_skip ?_
  refine Go.Sl.xw_then ?_
  rotate_left
  · exact done0 rfl (by first | exact Go.Sl.Cov.refl _ | (intro p; simp only [List.flatten_cons, List.flatten_nil, List.flatten_append, List.append_nil, List.nil_append, Go.Sl.cnt_append, Go.Sl.cnt_cons, Go.Sl.cnt_nil, List.set_cons_zero, List.set_cons_succ, List.length_nil, List.length_cons, Nat.zero_add, List.append]; omega))
  have hd12 : s.data.length ≤ 1200 := by omega
  refine Go.Sl.cw_seq ?_
  refine Go.Sl.cw_region ?_
  refine Go.Sl.ow_val rfl rfl (Go.Sl.v_move rfl) ?_
  (refine Go.Sl.ow_call rfl rfl rfl rfl (takeAll_c (l := (b0 :: 7 :: (if off = true then [9] else [])) ++ s.data) (Go.Sl.Ls.vw hLY (by repeat (first | exact Go.Sl.Sub.here | exact Go.Sl.Sub.nil | assumption | refine Go.Sl.Sub.there ?_))) (by clear hbulk; omega)) ?_; rintro _ _ ⟨x77, rfl, hq77, rfl⟩)
  refine Go.Sl.ow_val rfl rfl (Go.Sl.v_move rfl) ?_
  refine Go.Sl.ow_val rfl rfl (v_extractL rfl rfl) ?_
  refine Go.Sl.ow_val rfl rfl (v_extractL rfl rfl) ?_
  refine Go.Sl.ow_val rfl rfl (Go.Sl.v_assign rfl) ?_
  refine Go.Sl.ow_val rfl rfl (Go.Sl.v_assign rfl) ?_
  refine Go.Sl.ow_nil ?_
  refine Go.Sl.xw_then ?_
  obtain ⟨es, e5, a5, k5, c5, D5⟩ := x77
  obtain ⟨hT5, hL5⟩ := hq77
  dsimp only at hT5 hL5 ⊢
  have hb0 := hX.1
  subst hb0
  obtain ⟨he5, hes⟩ := hT5.good (takes_short off fin hd12) (by simp)
  obtain ⟨y, rfl⟩ : ∃ y, es = [y] := by
    have h1 : es.length = 1 := by rw [← List.length_map (f := fun x : FrE => x.m), hes]; rfl
    exact one_of h1
  have hym : y.m = shortF off fin s.data := by simpa using hes
  have hyD := hT5.deep y (by simp)
  subst he5
  obtain ⟨ym, yp⟩ := y
  dsimp only at hym hyD
  subst hym
  have hokY : enF.ok ⟨shortF off fin s.data, yp⟩ := hL5.ok _ (by simp)
  have hlenY : ((shortF off fin s.data).cells yp).length = 39 := FrM.cells_len hokY
  have hl1 : [(⟨shortF off fin s.data, yp⟩ : FrE)].length = 1 := rfl
  refine Go.Sl.cw_seq ?_
  refine Go.Sl.cw_quiet Ty.mixed (by decide +kernel) ?_
  refine Go.Sl.kw_val rfl rfl (Go.Sl.v_move rfl) ?_
  refine Go.Sl.kw_val rfl rfl (Go.Sl.v_eql rfl rfl) ?_
  refine Go.Sl.kw_val rfl rfl (Go.Sl.v_move rfl) ?_
  refine Go.Sl.kw_dec 82 rfl (fun hc82 => ?_) (fun hc82 => ?_)
  rotate_left; (exfalso; omega); rotate_right
  refine Go.Sl.kw_val rfl rfl (Go.Sl.v_move rfl) ?_
  refine Go.Sl.kw_val rfl rfl (Go.Sl.v_len rfl Try.underlying36 rfl) ?_
  refine Go.Sl.kw_val rfl rfl (Go.Sl.v_eql rfl rfl) ?_
  refine Go.Sl.kw_val rfl rfl (Go.Sl.v_pick_true rfl rfl) ?_
  refine Go.Sl.kw_val rfl rfl (Go.Sl.v_move rfl) ?_
  refine Go.Sl.kw_dec 87 rfl (fun hc87 => ?_) (fun hc87 => ?_)
  rotate_left; (exfalso; omega); rotate_right
  refine Go.Sl.kw_val rfl rfl (Go.Sl.v_move rfl) ?_
  refine Go.Sl.kw_val rfl rfl (Go.Sl.v_indexAddr_ls (i := 0) Try.underlying36 (fTy) rfl rfl (by assumption) rfl (by omega)) ?_
  refine Go.Sl.kw_val rfl rfl (Go.Sl.v_fieldAddr Ty.fd30_0 rfl) ?_
  refine Go.Sl.kw_val rfl rfl (Go.Sl.v_load rfl (Go.Sl.Vw.fld1 (fTy) Ty.sc26 ((hL5.vw (by repeat (first | exact Go.Sl.Sub.here | exact Go.Sl.Sub.nil | assumption | refine Go.Sl.Sub.there ?_)))) (by omega) rfl)) ?_
  refine Go.Sl.kw_val rfl rfl (Go.Sl.v_eql rfl rfl) ?_
  refine Go.Sl.kw_val rfl rfl (Go.Sl.v_pick_true rfl rfl) ?_
  refine Go.Sl.kw_val rfl rfl (Go.Sl.v_move rfl) ?_
  refine Go.Sl.kw_dec 94 rfl (fun hc94 => ?_) (fun hc94 => ?_)
  refine Go.Sl.kw_val rfl rfl (Go.Sl.v_move rfl) ?_
  refine Go.Sl.kw_val rfl rfl (Go.Sl.v_indexAddr_ls (i := 0) Try.underlying36 (fTy) rfl rfl (by assumption) rfl (by omega)) ?_
  refine Go.Sl.kw_val rfl rfl (Go.Sl.v_fieldAddr Ty.fd30_1 rfl) ?_
  refine Go.Sl.kw_val rfl rfl (Go.Sl.v_load rfl (Go.Sl.Vw.fld1 (fTy) Ty.sc22 ((hL5.vw (by repeat (first | exact Go.Sl.Sub.here | exact Go.Sl.Sub.nil | assumption | refine Go.Sl.Sub.there ?_)))) (by omega) rfl)) ?_
  refine Go.Sl.kw_val rfl rfl (Go.Sl.v_eql rfl rfl) ?_
  refine Go.Sl.kw_val rfl rfl (Go.Sl.v_pick_true rfl rfl) ?_
  refine Go.Sl.kw_val rfl rfl (Go.Sl.v_move rfl) ?_
  refine Go.Sl.kw_dec 101 rfl (fun hc101 => ?_) (fun hc101 => ?_)
  refine Go.Sl.kw_val rfl rfl (Go.Sl.v_move rfl) ?_
  refine Go.Sl.kw_val rfl rfl (Go.Sl.v_indexAddr_ls (i := 0) Try.underlying36 (fTy) rfl rfl (by assumption) rfl (by omega)) ?_
  refine Go.Sl.kw_val rfl rfl (Go.Sl.v_fieldAddr Ty.fd30_6 rfl) ?_
  refine Go.Sl.kw_val rfl rfl (Go.Sl.v_load rfl (Go.Sl.Vw.fld1 (fTy) Ty.sc4 ((hL5.vw (by repeat (first | exact Go.Sl.Sub.here | exact Go.Sl.Sub.nil | assumption | refine Go.Sl.Sub.there ?_)))) (by omega) rfl)) ?_
  refine Go.Sl.kw_val rfl rfl (Go.Sl.v_move rfl) ?_
  refine Go.Sl.kw_val rfl rfl ((v_and rfl rfl hB.2.1)) ?_
  refine Go.Sl.kw_val rfl rfl (Go.Sl.v_eql rfl rfl) ?_
  refine Go.Sl.kw_val rfl rfl (Go.Sl.v_eqlB Try.underlying4 rfl rfl) ?_
  refine Go.Sl.kw_val rfl rfl (Go.Sl.v_pick_true rfl rfl) ?_
  refine Go.Sl.kw_val rfl rfl (Go.Sl.v_move rfl) ?_
  refine Go.Sl.kw_dec 111 rfl (fun hc111 => ?_) (fun hc111 => ?_)
  refine Go.Sl.kw_val rfl rfl (Go.Sl.v_move rfl) ?_
  refine Go.Sl.kw_val rfl rfl (Go.Sl.v_indexAddr_ls (i := 0) Try.underlying36 (fTy) rfl rfl (by assumption) rfl (by omega)) ?_
  refine Go.Sl.kw_val rfl rfl (Go.Sl.v_fieldAddr Ty.fd30_5 rfl) ?_
  refine Go.Sl.kw_val rfl rfl (Go.Sl.v_load rfl (Go.Sl.Vw.fld1 (fTy) Ty.sc23 ((hL5.vw (by repeat (first | exact Go.Sl.Sub.here | exact Go.Sl.Sub.nil | assumption | refine Go.Sl.Sub.there ?_)))) (by omega) rfl)) ?_
  refine Go.Sl.kw_val rfl rfl (Go.Sl.v_str Try.underlying9 Try.underlying23 Try.underlying5 rfl ((hyD B w0 _ (by repeat (first | exact Go.Sl.Sub.here | exact Go.Sl.Sub.nil | assumption | refine Go.Sl.Sub.there ?_))).d)) ?_
  refine Go.Sl.kw_val rfl rfl (Go.Sl.v_fieldAddr0 Ty.fd32_4 rfl) ?_
  refine Go.Sl.kw_val rfl rfl (Go.Sl.v_load rfl (Go.Sl.Var.at1 Ty.sc23 (.there (.there (.there .here))) (get_sdata))) ?_
  refine Go.Sl.kw_val rfl rfl (Go.Sl.v_str Try.underlying9 Try.underlying23 Try.underlying5 rfl (((hI _).data.cov (by first | exact Go.Sl.Cov.refl _ | (intro p; simp only [List.flatten_cons, List.flatten_nil, List.flatten_append, List.append_nil, List.nil_append, Go.Sl.cnt_append, Go.Sl.cnt_cons, Go.Sl.cnt_nil, List.set_cons_zero, List.set_cons_succ, List.length_nil, List.length_cons, Nat.zero_add, List.append]; omega))))) ?_
  refine Go.Sl.kw_val rfl rfl (Go.Sl.v_eqlS rfl rfl) ?_
  refine Go.Sl.kw_val rfl rfl (Go.Sl.v_pick_true rfl rfl) ?_
  refine Go.Sl.kw_val rfl rfl (Go.Sl.v_move rfl) ?_
  refine Go.Sl.kw_dec 122 rfl (fun hc122 => ?_) (fun hc122 => ?_)
  refine Go.Sl.kw_val rfl rfl (Go.Sl.v_move rfl) ?_
  refine Go.Sl.kw_val rfl rfl (Go.Sl.v_indexAddr_ls (i := 0) Try.underlying36 (fTy) rfl rfl (by assumption) rfl (by omega)) ?_
  refine Go.Sl.kw_val rfl rfl (Go.Sl.v_fieldAddr Ty.fd30_2 rfl) ?_
  refine Go.Sl.kw_val rfl rfl (Go.Sl.v_load rfl (Go.Sl.Vw.fld1 (fTy) Ty.sc22 ((hL5.vw (by repeat (first | exact Go.Sl.Sub.here | exact Go.Sl.Sub.nil | assumption | refine Go.Sl.Sub.there ?_)))) (by omega) rfl)) ?_
  refine Go.Sl.kw_val rfl rfl (Go.Sl.v_eql rfl rfl) ?_
  refine Go.Sl.kw_val rfl rfl (Go.Sl.v_move rfl) ?_
  refine Go.Sl.kw_val rfl rfl (Go.Sl.v_and rfl rfl rfl) ?_
  refine Go.Sl.kw_val rfl rfl (Go.Sl.v_neq rfl rfl) ?_
  refine Go.Sl.kw_val rfl rfl (Go.Sl.v_eqlB Try.underlying4 rfl rfl) ?_
  refine Go.Sl.kw_val rfl rfl (Go.Sl.v_pick_true rfl rfl) ?_
  refine Go.Sl.kw_val rfl rfl (Go.Sl.v_assign rfl) ?_
  refine Go.Sl.kw_nil ?_
  refine Go.Sl.xw_then ?_
  refine Go.Sl.cw_ret ?_
  refine Go.Sl.ret1 rfl (Go.Sl.res_tmp rfl) ?_
  rotate_left
  refine Go.Sl.kw_skip rfl rfl ?_
  refine Go.Sl.kw_skip rfl rfl ?_
  refine Go.Sl.kw_skip rfl rfl ?_
  refine Go.Sl.kw_skip rfl rfl ?_
  refine Go.Sl.kw_skip rfl rfl ?_
  refine Go.Sl.kw_skip rfl rfl ?_
  refine Go.Sl.kw_skip rfl rfl ?_
  refine Go.Sl.kw_skip rfl rfl ?_
  refine Go.Sl.kw_skip rfl rfl ?_
  refine Go.Sl.kw_val rfl rfl (Go.Sl.v_pick_false rfl rfl) ?_
  refine Go.Sl.kw_val rfl rfl (Go.Sl.v_assign rfl) ?_
  refine Go.Sl.kw_nil ?_
  refine Go.Sl.xw_then ?_
  refine Go.Sl.cw_ret ?_
  refine Go.Sl.ret1 rfl (Go.Sl.res_tmp rfl) ?_
  rotate_left
  refine Go.Sl.kw_skip rfl rfl ?_
  refine Go.Sl.kw_skip rfl rfl ?_
  refine Go.Sl.kw_skip rfl rfl ?_
  refine Go.Sl.kw_skip rfl rfl ?_
  refine Go.Sl.kw_skip rfl rfl ?_
  refine Go.Sl.kw_skip rfl rfl ?_
  refine Go.Sl.kw_skip rfl rfl ?_
  refine Go.Sl.kw_skip rfl rfl ?_
  refine Go.Sl.kw_skip rfl rfl ?_
  refine Go.Sl.kw_val rfl rfl (Go.Sl.v_pick_false rfl rfl) ?_
  refine Go.Sl.kw_val rfl rfl (Go.Sl.v_move rfl) ?_
  refine Go.Sl.kw_skip rfl rfl ?_
  refine Go.Sl.kw_skip rfl rfl ?_
  refine Go.Sl.kw_skip rfl rfl ?_
  refine Go.Sl.kw_skip rfl rfl ?_
  refine Go.Sl.kw_skip rfl rfl ?_
  refine Go.Sl.kw_skip rfl rfl ?_
  refine Go.Sl.kw_skip rfl rfl ?_
  refine Go.Sl.kw_skip rfl rfl ?_
  refine Go.Sl.kw_skip rfl rfl ?_
  refine Go.Sl.kw_val rfl rfl (Go.Sl.v_pick_false rfl rfl) ?_
  refine Go.Sl.kw_val rfl rfl (Go.Sl.v_assign rfl) ?_
  refine Go.Sl.kw_nil ?_
  refine Go.Sl.xw_then ?_
  refine Go.Sl.cw_ret ?_
  refine Go.Sl.ret1 rfl (Go.Sl.res_tmp rfl) ?_
  rotate_left
  refine Go.Sl.kw_skip rfl rfl ?_
  refine Go.Sl.kw_skip rfl rfl ?_
  refine Go.Sl.kw_skip rfl rfl ?_
  refine Go.Sl.kw_skip rfl rfl ?_
  refine Go.Sl.kw_skip rfl rfl ?_
  refine Go.Sl.kw_skip rfl rfl ?_
  refine Go.Sl.kw_skip rfl rfl ?_
  refine Go.Sl.kw_skip rfl rfl ?_
  refine Go.Sl.kw_val rfl rfl (Go.Sl.v_pick_false rfl rfl) ?_
  refine Go.Sl.kw_val rfl rfl (Go.Sl.v_move rfl) ?_
  refine Go.Sl.kw_skip rfl rfl ?_
  refine Go.Sl.kw_skip rfl rfl ?_
  refine Go.Sl.kw_skip rfl rfl ?_
  refine Go.Sl.kw_skip rfl rfl ?_
  refine Go.Sl.kw_skip rfl rfl ?_
  refine Go.Sl.kw_skip rfl rfl ?_
  refine Go.Sl.kw_skip rfl rfl ?_
  refine Go.Sl.kw_skip rfl rfl ?_
  refine Go.Sl.kw_skip rfl rfl ?_
  refine Go.Sl.kw_val rfl rfl (Go.Sl.v_pick_false rfl rfl) ?_
  refine Go.Sl.kw_val rfl rfl (Go.Sl.v_move rfl) ?_
  refine Go.Sl.kw_skip rfl rfl ?_
  refine Go.Sl.kw_skip rfl rfl ?_
  refine Go.Sl.kw_skip rfl rfl ?_
  refine Go.Sl.kw_skip rfl rfl ?_
  refine Go.Sl.kw_skip rfl rfl ?_
  refine Go.Sl.kw_skip rfl rfl ?_
  refine Go.Sl.kw_skip rfl rfl ?_
  refine Go.Sl.kw_skip rfl rfl ?_
  refine Go.Sl.kw_skip rfl rfl ?_
  refine Go.Sl.kw_val rfl rfl (Go.Sl.v_pick_false rfl rfl) ?_
  refine Go.Sl.kw_val rfl rfl (Go.Sl.v_assign rfl) ?_
  refine Go.Sl.kw_nil ?_
  refine Go.Sl.xw_then ?_
  refine Go.Sl.cw_ret ?_
  refine Go.Sl.ret1 rfl (Go.Sl.res_tmp rfl) ?_
  rotate_left
  refine Go.Sl.kw_skip rfl rfl ?_
  refine Go.Sl.kw_skip rfl rfl ?_
  refine Go.Sl.kw_skip rfl rfl ?_
  refine Go.Sl.kw_skip rfl rfl ?_
  refine Go.Sl.kw_skip rfl rfl ?_
  refine Go.Sl.kw_val rfl rfl (Go.Sl.v_pick_false rfl rfl) ?_
  refine Go.Sl.kw_val rfl rfl (Go.Sl.v_move rfl) ?_
  refine Go.Sl.kw_skip rfl rfl ?_
  refine Go.Sl.kw_skip rfl rfl ?_
  refine Go.Sl.kw_skip rfl rfl ?_
  refine Go.Sl.kw_skip rfl rfl ?_
  refine Go.Sl.kw_skip rfl rfl ?_
  refine Go.Sl.kw_skip rfl rfl ?_
  refine Go.Sl.kw_skip rfl rfl ?_
  refine Go.Sl.kw_skip rfl rfl ?_
  refine Go.Sl.kw_val rfl rfl (Go.Sl.v_pick_false rfl rfl) ?_
  refine Go.Sl.kw_val rfl rfl (Go.Sl.v_move rfl) ?_
  refine Go.Sl.kw_skip rfl rfl ?_
  refine Go.Sl.kw_skip rfl rfl ?_
  refine Go.Sl.kw_skip rfl rfl ?_
  refine Go.Sl.kw_skip rfl rfl ?_
  refine Go.Sl.kw_skip rfl rfl ?_
  refine Go.Sl.kw_skip rfl rfl ?_
  refine Go.Sl.kw_skip rfl rfl ?_
  refine Go.Sl.kw_skip rfl rfl ?_
  refine Go.Sl.kw_skip rfl rfl ?_
  refine Go.Sl.kw_val rfl rfl (Go.Sl.v_pick_false rfl rfl) ?_
  refine Go.Sl.kw_val rfl rfl (Go.Sl.v_move rfl) ?_
  refine Go.Sl.kw_skip rfl rfl ?_
  refine Go.Sl.kw_skip rfl rfl ?_
  refine Go.Sl.kw_skip rfl rfl ?_
  refine Go.Sl.kw_skip rfl rfl ?_
  refine Go.Sl.kw_skip rfl rfl ?_
  refine Go.Sl.kw_skip rfl rfl ?_
  refine Go.Sl.kw_skip rfl rfl ?_
  refine Go.Sl.kw_skip rfl rfl ?_
  refine Go.Sl.kw_skip rfl rfl ?_
  refine Go.Sl.kw_val rfl rfl (Go.Sl.v_pick_false rfl rfl) ?_
  refine Go.Sl.kw_val rfl rfl (Go.Sl.v_assign rfl) ?_
  refine Go.Sl.kw_nil ?_
  refine Go.Sl.xw_then ?_
  refine Go.Sl.cw_ret ?_
  refine Go.Sl.ret1 rfl (Go.Sl.res_tmp rfl) ?_
  rotate_left
  · refine done0 (congrArg Value.bool ?_) (by first | exact Go.Sl.Cov.refl _ | (intro p; simp only [List.flatten_cons, List.flatten_nil, List.flatten_append, List.append_nil, List.nil_append, Go.Sl.cnt_append, Go.Sl.cnt_cons, Go.Sl.cnt_nil, List.set_cons_zero, List.set_cons_succ, List.length_nil, List.length_cons, Nat.zero_add, List.append]; omega))
    rw [hB.2.2]
    cases off <;> rfl
  · exact absurd rfl hc122
  · exact absurd (by cases fin <;> rfl) hc111
  · exact absurd rfl hc101
  · exact absurd rfl hc94

theorem bulk_one {H : Type} (d : DataW H) : 1 ≤ Rows.uptoBulk d := by
  cases d with
  | lit l => cases l <;> simp [Rows.uptoBulk]
  | nil => simp [Rows.uptoBulk]
  | ptr d => simp [Rows.uptoBulk]
  | slice elems spare => simp [Rows.uptoBulk]
  | agg parts => simp [Rows.uptoBulk]
  | iface t d => simp [Rows.uptoBulk]
  | map entries => simp [Rows.uptoBulk]
  | held h => simp [Rows.uptoBulk]
theorem bulk_mem {H : Type} {d : DataW H} : ∀ {l : List (DataW H)}, d ∈ l → Rows.uptoBulk d ≤ Rows.uptoBulkAll l
  | x :: r, h => by
    simp only [Rows.uptoBulkAll]
    rcases List.mem_cons.1 h with rfl | h
    · omega
    · have := bulk_mem h; omega
theorem bulk_len {H : Type} : ∀ (l : List (DataW H)), l.length ≤ Rows.uptoBulkAll l
  | [] => by simp [Rows.uptoBulkAll]
  | x :: r => by have := bulk_len r; have := bulk_one x; simp only [Rows.uptoBulkAll, List.length_cons]; omega
theorem data_bulk {H : Type} {enc : TypeId × Value → H} {w : World} {fuel : Nat} {s : SmE} {y : DataW H × List MemPlace} (h : DataW.trod enc Try.prog w 0 (fun _ => true) true fuel 32 s.cells = some y) : s.data.length ≤ Rows.uptoBulk y.1 := by
  obtain ⟨xs, n, _, rfl, _, hl, hf⟩ := DataW.trod_struct Try.underlying32 h
  have h4 : DataW.trod enc Try.prog w 0 (fun _ => true) true n 23 ((s.cells.drop 4).take (Try.prog.cellsOf 23)) = xs[4]? := hf 4 _ rfl
  rw [show Try.prog.cellsOf 23 = 1 by kernel_rfl] at h4
  have e : (s.cells.drop 4).take 1 = [.slice s.da s.data.length s.dc] := rfl
  rw [e] at h4
  cases hx : xs[4]? with
  | none =>
    have h5 := List.getElem?_eq_none_iff.1 hx
    rw [hl] at h5
    exact absurd h5 (by decide)
  | some z =>
    rw [hx] at h4
    have hz : Rows.uptoBulk z.1 ≤ Rows.uptoBulkAll (xs.map (·.1)) := bulk_mem (List.mem_map.2 ⟨z, List.mem_of_getElem? hx, rfl⟩)
    have hz2 : s.data.length ≤ Rows.uptoBulk z.1 := by
      rcases DataW.trod_slice Try.underlying23 h4 with ⟨h5, _⟩ | ⟨a, len, cap, elems, rest, m, _, h5, rfl, _, _, _, h6, _⟩
      · injection h5 with h5
        injection h5 with _ h7
        omega
      · injection h5 with h5
        injection h5 with _ h7
        have h8 := bulk_len (elems.map (·.1))
        rw [List.length_map] at h8
        simp only [Rows.uptoBulk]
        omega
    simp only [Rows.uptoBulk]
    omega

theorem walk {H : Type} {enc : TypeId × Value → H} (W : World) (base : Nat) (args : Array Value) (ds : List (DataW H)) (p : List MemPlace)
    (hval : ∀ (j : Nat) t v, Try.f3.params[j]? = some t → args[j]? = some v → Value.okWide Try.prog W .any base t v)
    (hA : DataW.TrodAll enc Try.prog W 0 (fun _ => true) true Try.f3.params.toList args.toList ds p) (hk : Rows.uptoSmall H ds = true) :
    Calls Try.prog 3 args W fun e w' => e = .returned (.bool true) ∧ Below W.heap.size W w' := by
  rw [Try.params3] at hA hval
  obtain ⟨v0, vs0, d0, ds0, p0, q0, hargs, rfl, rfl, h0, r0⟩ := trodAll_cons hA
  obtain ⟨v1, vs1, d1, ds1, p1, q1, rfl, rfl, rfl, h1, r1⟩ := trodAll_cons r0
  obtain ⟨v2, vs2, d2, ds2, p2, q2, rfl, rfl, rfl, h2, r2⟩ := trodAll_cons r1
  obtain ⟨rfl, rfl, rfl⟩ := trodAll_nil r2
  obtain rfl : args = #[v0, v1, v2] := by cases args; simp_all
  obtain ⟨cs, rfl, _⟩ := okWide_struct Try.underlying32 (hval 0 32 v0 rfl rfl)
  obtain ⟨fu, h3⟩ := h0
  have h4 : DataW.trod enc Try.prog W 0 (fun _ => true) true fu 32 cs.toList = some (d0, p0) := h3
  obtain ⟨s, es, hok, hI⟩ := form_small h4
  rw [es] at h4
  have hb := data_bulk h4
  have hbk : Rows.uptoBulkAll [d0, d1, d2] ≤ 1048576 := of_decide_eq_true hk
  simp only [Rows.uptoBulkAll] at hbk
  dsimp only at hb
  obtain ⟨c, rfl, hc⟩ := open_u8 (hval 1 5 v1 rfl rfl) h1
  obtain ⟨k, rfl, hkk⟩ := open_u8 (hval 2 5 v2 rfl rfl) h2
  have ec : cs = s.cells.toArray := by rw [← es]
  subst ec
  exact (law hok hI hc hkk (by omega) []).call

theorem own : ownKnob Try.prog.godebug = none := by kernel_rfl
theorem laidOut : laidOutB Try.prog = true := by kernel_rfl
theorem reads : ∀ t ∈ Try.f3.params.toList, Try.prog.readableRec t = true ∧ t < Try.prog.types.size := by
  rw [Try.params3]
  intro t ht
  simp only [List.mem_cons, List.not_mem_nil, or_false] at ht
  rcases ht with rfl | rfl | rfl
  · exact ⟨by kernel_rfl, of_decide_eq_true (by kernel_rfl)⟩
  · exact ⟨by kernel_rfl, of_decide_eq_true (by kernel_rfl)⟩
  · exact ⟨by kernel_rfl, of_decide_eq_true (by kernel_rfl)⟩

set_option maxRecDepth 100000 in
def zin : Input := ⟨#[], #[.agg #[.int .u8 0, .int .u64 0, .int .u64 0, .int .u64 0, .slice none 0 0, .bool false, .slice none 0 0, .int .u8 0, .int .u8 0, .int .u8 0, .int .u8 0, .int .u8 0, .int .u8 0, .int .u8 0, .int .u8 0, .int .u8 0, .int .u8 0, .int .u8 0, .int .u8 0, .int .u8 0, .int .u8 0, .int .u8 0, .int .u8 0, .int .u8 0, .int .u8 0, .int .u8 0, .int .u8 0, .int .u8 0, .int .u8 0, .int .u8 0, .int .u8 0, .int .u8 0, .int .u64 0, .int .u64 0, .int .u64 0, .int .u64 0, .slice none 0 0, .bool false, .slice none 0 0, .int .u64 0, .int .u64 0, .int .u64 0, .int .u64 0, .int .u64 0, .int .u64 0, .slice none 0 0, .int .u8 0, .int .u8 0, .int .u8 0, .int .u8 0, .int .u8 0, .int .u8 0, .int .u8 0, .int .u8 0, .int .u8 0, .int .u8 0, .int .u8 0, .int .u8 0, .int .u8 0, .int .u8 0, .int .u8 0, .int .u8 0, .int .u8 0, .int .u8 0, .int .u8 0, .int .u8 0, .int .u8 0, .int .u8 0, .int .u8 0, .int .u8 0, .bool false, .bool false], .int .u8 0, .int .u8 0], []⟩
theorem wit (os : Os) (H : Type) (enc : TypeId × Value → H) : ∃ x, DataW.whole enc Try.prog (World.plainHolding Try.prog os zin).memory Try.f3.params.toList (Rows.OpenSpec.upto Rows.frameShortSpec).vars false zin.args.toList 8 = some x ∧ Rows.uptoSmall H (x.1 ++ x.2.1) = true := by
  have h : (DataW.whole enc Try.prog (World.plainHolding Try.prog os zin).memory Try.f3.params.toList (Rows.OpenSpec.upto Rows.frameShortSpec).vars false zin.args.toList 8).any (fun x => Rows.uptoSmall H (x.1 ++ x.2.1)) = true := by kernel_rfl
  cases hq : DataW.whole enc Try.prog (World.plainHolding Try.prog os zin).memory Try.f3.params.toList (Rows.OpenSpec.upto Rows.frameShortSpec).vars false zin.args.toList 8 with
  | none => rw [hq] at h; cases h
  | some x => rw [hq] at h; exact ⟨x, rfl, h⟩
set_option maxRecDepth 100000 in
theorem lifted (os : Os) (started : os.Started) (H : Type) (enc : TypeId × Value → H) (F : Stop.Interp) :
    ReturnsInHanded {} Try.checked os 3 .any ((Rows.OpenSpec.upto Rows.frameShortSpec).pre6 enc Try.prog Try.f3 Rows.frameShortUptoRow.domain false) (((Rows.OpenSpec.upto Rows.frameShortSpec).at F).post enc Try.prog Try.f3 false true false false) := by
  obtain ⟨x, hx, hx2⟩ := wit os H enc
  refine returnsInHanded_of_cond (C := Try.checked) (s := Rows.OpenSpec.upto Rows.frameShortSpec) (k := Rows.uptoSmall) rfl own started (by kernel_rfl) Try.func3
    (OpenSpec.witness (enc := enc) (C := Try.checked) (s := Rows.OpenSpec.upto Rows.frameShortSpec) (k := Rows.uptoSmall) rfl false zin 8 (by kernel_rfl) (by kernel_rfl) (by kernel_rfl)
      (x := x) hx rfl hx2) ?_
  intro W base args ds gs before hval hW _ hk _
  have hW' := hW
  obtain ⟨p, q, hA0, hV, rfl, _, _⟩ := hW
  obtain ⟨rfl, rfl⟩ := trodVars_none hV
  have hA : DataW.TrodAll enc Try.prog W 0 (fun _ => true) true Try.f3.params.toList args.toList ds p := hA0
  have hlen := trodAll_len hA
  rw [List.append_nil] at hk
  refine (walk W base args ds p hval hA hk).mono fun e W' ⟨he, bel⟩ => ?_
  subst he
  rw [Try.params3] at hlen
  match ds, hlen.2, hA, hW' with
  | [d0, d1, d2], _, hA, hW' => exact ⟨_, rfl, _, _, _, [], _, [], hW', trodAll_mk1 (shut_bool Try.underlying4 _), trodAll_stays laidOut bel reads hA, rfl, bel.frame _, fun h => by cases h⟩

theorem over : Rows.frameShortUptoRow.holds Try.pinned (Rows.OpenSpec.upto Rows.frameShortSpec) :=
  OpenClaim.holds_of_cond 3 Try.f3 rfl rfl rfl rfl rfl rfl rfl ⟨rfl, rfl, rfl, rfl, rfl⟩ rfl rfl rfl rfl rfl (by kernel_rfl) Try.func3 (by kernel_rfl)
    (of_decide_eq_true (by kernel_rfl)) (by unfold Func.isWrapper; first | (rw [if_pos (by decide +kernel)]; kernel_rfl) | (rw [if_neg (by decide +kernel)]; exact ⟨rfl, rfl⟩))
    (fun os started H enc _ F => lifted os started H enc F)

theorem proved : Rows.FrameShortUptoSaid := over

end Go.Proofs.Ytckdhelnafjddaa.lawFrameShort
