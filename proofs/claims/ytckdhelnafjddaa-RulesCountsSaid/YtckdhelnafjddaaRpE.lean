/- Replay in memory: what an event may be; events made to fit. Conditions: numbers fit their types. -/
import Derived.Test.YtckdhelnafjddaaRpD
namespace Go.Proofs.Ytckdhelnafjddaa
open Go Go.Sl Go.Proofs Go.RowKit Go.ChangeShapes Go.WideShapes Go.ChangeAt
set_option maxRecDepth 20000
set_option linter.unusedVariables false
set_option linter.unusedSimpArgs false

@[simp] theorem oneI (k : IntKind) (n : Int) : (Value.int k n).oneCell' = true := rfl
@[simp] theorem oneS (b : ByteArray) : (Value.string b).oneCell' = true := rfl
@[simp] theorem oneL (a : Option Addr) (n c : Nat) : (Value.slice a n c).oneCell' = true := rfl
@[simp] theorem oneB (b : Bool) : (Value.bool b).oneCell' = true := rfl
def enSt : Enc ByteArray := ⟨fun s => [.string s], 1, fun s => .string s, fun _ => True⟩
theorem sTy : EncTy Try.prog 9 enSt := EncTy.scalar Ty.sc9 rfl (fun _ => rfl) (fun _ => rfl)
@[simp] theorem enSt_ok (s : ByteArray) : enSt.ok s = True := rfl

theorem evClone_c {B : Nat} {w0 : World} {G : List Hp} {e : EvM} {p : EvP} (hE : EvIn (St B w0 G) e p) (he : e.ok) (hln : e.n.length ≤ 100000) (hld : e.d.length ≤ 100000) :
    Go.Sl.Fn Try.prog 71 #[.agg (e.cells p).toArray] B w0 G fun u G' => ∃ x : EvP × Hp × Hp, u = .agg (e.cells x.1).toArray ∧ (Ls enQ 22 (.slice x.1.na e.n.length x.1.nc) x.2.1 e.n ∧ Ls enB 5 (.slice x.1.da e.d.length x.1.dc) x.2.2 e.d) ∧ G' = [x.2.1, x.2.2] ++ G := by
  refine Fn.new (V := fun x : EvP × Hp × Hp => .agg (e.cells x.1).toArray) (Nw := fun x => [x.2.1, x.2.2]) ?_
  have hN : Ls enQ 22 (.slice none 0 0) [] [] := Ls.nil
  have hN2 : Ls enB 5 (.slice none 0 0) [] [] := Ls.nil
  refine fn_enter Try.func71 rfl (by kernel_rfl) Try.ntmps71 (by simp) ?_
  unfold EvM.cells
  refine cw_flat ([] :: [] :: G) (.of_eq (by simp)) ?_
  refine cw_seq ?_
  refine cw_region ?_
  (refine ow_box rfl rfl rfl rfl ?_; intro b1)
  (refine ow_alloc rfl rfl Ty.ze62 ?_; intro b2)
  refine ow_nil ?_
  refine xw_then ?_
  refine cw_seq ?_
  refine cw_region ?_
  refine ow_val rfl rfl (v_fieldAddr0 Ty.fd62_2 rfl) ?_
  refine ow_val rfl rfl (v_load rfl (Var.at1 Ty.sc60 (.there .here) (GetN.lit rfl))) ?_
  (refine ow_appendL rfl rfl Try.underlying60 Try.underlying60 Ty.em60 (qTy) rfl rfl (by assumption) (by repeat (first | exact Sel.here | apply Sel.there)) ((hE.n.cov (by first | exact Cov.refl _ | (intro p; simp only [List.flatten_cons, List.flatten_nil, List.flatten_append, List.append_nil, List.nil_append, cnt_append, cnt_cons, cnt_nil, List.set_cons_zero, List.set_cons_succ, List.length_nil, List.length_cons, Nat.zero_add, List.append]; omega)))) (by first | omega | (simp only [List.length_append, List.length_take, List.length_drop, List.length_nil, List.length_cons]; omega)) (by first | omega | (simp only [List.length_append, List.length_take, List.length_drop, List.length_nil, List.length_cons]; omega)) ?_; intro ao5 cap5 c5 hL5)
  refine ow_val rfl rfl (v_fieldAddr0 Ty.fd62_2 rfl) ?_
  refine ow_store1 rfl rfl rfl rfl Ty.sc60 (.there .here) (SetN.one (by first | decide | exact Nat.le_of_ble_eq_true rfl)) ?_
  refine ow_nil ?_
  refine xw_then ?_
  refine cw_seq ?_
  refine cw_region ?_
  refine ow_val rfl rfl (v_fieldAddr0 Ty.fd62_3 rfl) ?_
  refine ow_val rfl rfl (v_load rfl (Var.at1 Ty.sc23 (.there .here) (GetN.lit rfl))) ?_
  (refine ow_appendL rfl rfl Try.underlying23 Try.underlying23 Ty.em23 (vbTy) rfl rfl (by assumption) (by repeat (first | exact Sel.here | apply Sel.there)) ((hE.d.cov (by first | exact Cov.refl _ | (intro p; simp only [List.flatten_cons, List.flatten_nil, List.flatten_append, List.append_nil, List.nil_append, cnt_append, cnt_cons, cnt_nil, List.set_cons_zero, List.set_cons_succ, List.length_nil, List.length_cons, Nat.zero_add, List.append]; omega)))) (by first | omega | (simp only [List.length_append, List.length_take, List.length_drop, List.length_nil, List.length_cons]; omega)) (by first | omega | (simp only [List.length_append, List.length_take, List.length_drop, List.length_nil, List.length_cons]; omega)) ?_; intro ao9 cap9 c9 hL9)
  refine ow_val rfl rfl (v_fieldAddr0 Ty.fd62_3 rfl) ?_
  refine ow_store1 rfl rfl rfl rfl Ty.sc23 (.there .here) (SetN.one (by first | decide | exact Nat.le_of_ble_eq_true rfl)) ?_
  refine ow_nil ?_
  refine xw_then ?_
  refine cw_seq ?_
  refine cw_region ?_
  refine ow_val rfl rfl (v_load rfl (Var.atN Ty.ag62 (.there .here) GetN.all (by first | rfl | assumption))) ?_
  refine ow_storeN rfl rfl rfl Ty.ag62 (by first | rfl | assumption) (by first | assumption | simp) .here (SetN.all (by first | rfl | assumption | simp_all)) ?_
  refine ow_nil ?_
  refine xw_then ?_
  refine cw_ret ?_
  refine ret1 rfl (res_cell rfl (Var.atN Ty.ag62 .here GetN.all (by first | rfl | assumption))) ?_
  exact ⟨(⟨ao5, cap5, ao9, cap9⟩, c5, c9), rfl, ⟨hL5, hL9⟩, (by first | exact Cov.refl _ | (intro p; simp only [List.flatten_cons, List.flatten_nil, List.flatten_append, List.append_nil, List.nil_append, cnt_append, cnt_cons, cnt_nil, List.set_cons_zero, List.set_cons_succ, List.length_nil, List.length_cons, Nat.zero_add, List.append]; omega))⟩

theorem shape_c {B : Nat} {w0 : World} {G : List Hp} {s : ByteArray} {ao : Option Addr} {n cap : Nat} :
    Go.Sl.Fn Try.prog 126 #[.string s, .slice ao n cap] B w0 G fun u G' => u = .agg #[.string s, .slice ao n cap, .bool false] ∧ G' = G := by
  refine Fn.pure ?_
  have b_sh : Build Try.prog 179 #[(0, .string s), (1, .slice ao n cap)] (.agg #[.string s, .slice ao n cap, .bool false]) := fun w => by kernel_rfl
  refine fn_enter Try.func126 rfl (by kernel_rfl) Try.ntmps126 (by simp) ?_
  refine cw_seq ?_
  refine cw_region ?_
  (refine ow_alloc rfl rfl Ty.ze179 ?_; intro b4)
  refine ow_nil ?_
  refine xw_then ?_
  refine cw_seq ?_
  refine cw_region ?_
  refine ow_val rfl rfl (v_move rfl) ?_
  refine ow_val rfl rfl (v_move rfl) ?_
  refine ow_val rfl rfl (v_build rfl (by assumption)) ?_
  refine ow_storeN rfl rfl rfl Ty.ag179 (by first | rfl | assumption) (by first | assumption | simp) .here (SetN.all (by first | rfl | assumption | simp_all)) ?_
  refine ow_nil ?_
  refine xw_then ?_
  refine cw_ret ?_
  refine ret1 rfl (res_cell rfl (Var.atN Ty.ag179 .here GetN.all (by first | rfl | assumption))) ?_
  exact ⟨rfl, (by first | exact Cov.refl _ | (intro p; simp only [List.flatten_cons, List.flatten_nil, List.flatten_append, List.append_nil, List.nil_append, cnt_append, cnt_cons, cnt_nil, List.set_cons_zero, List.set_cons_succ, List.length_nil, List.length_cons, Nat.zero_add, List.append]; omega))⟩
theorem b_sh3 {s : ByteArray} {ao : Option Addr} {n cap : Nat} {d : Bool} : Build Try.prog 179 #[(0, .string s), (1, .slice ao n cap), (2, .bool d)] (.agg #[.string s, .slice ao n cap, .bool d]) := fun w => by kernel_rfl
theorem b_sh0 : Build Try.prog 179 #[] (.agg #[.string ⟨#[]⟩, .slice none 0 0, .bool false]) := fun w => by kernel_rfl
set_option maxHeartbeats 8000000 in
theorem evOf_c {B : Nat} {w0 : World} {G : List Hp} {k : Int} (hk : 0 ≤ k ∧ k ≤ 255) :
    Go.Sl.Fn Try.prog 101 #[.int .u8 k] B w0 G fun u G' => ∃ x : ByteArray × Option Addr × Nat × Nat × Bool × Bool × Hp, u = .tuple #[.agg #[.string x.1, .slice x.2.1 x.2.2.1 x.2.2.2.1, .bool x.2.2.2.2.1], .bool x.2.2.2.2.2.1] ∧ ((x.2.2.2.2.2.1 = true ↔ (1 ≤ k ∧ k ≤ 19)) ∧ (1 ≤ k ∧ k ≤ 19 → (x.2.2.1 : Int) = manyK k.toNat ∧ x.2.2.2.2.1 = dataK k)) ∧ G' = [x.2.2.2.2.2.2] ++ G := by
  refine Fn.new (V := fun x : ByteArray × Option Addr × Nat × Nat × Bool × Bool × Hp => .tuple #[.agg #[.string x.1, .slice x.2.1 x.2.2.1 x.2.2.2.1, .bool x.2.2.2.2.1], .bool x.2.2.2.2.2.1]) (Nw := fun x => [x.2.2.2.2.2.2]) ?_
  refine fn_enter Try.func101 rfl (by kernel_rfl) Try.ntmps101 (by simp) ?_
  refine cw_seq ?_
  refine cw_region ?_
  (refine ow_alloc rfl rfl Ty.ze179 ?_; intro b2)
  refine ow_val rfl rfl (v_assign rfl) ?_
  refine ow_nil ?_
  refine xw_then ?_
  refine cw_seq ?_
  refine cw_seq ?_
  refine cw_region ?_
  refine ow_val rfl rfl (v_move rfl) ?_
  refine ow_nil ?_
  refine xw_then ?_
  refine cw_block ?_
  refine cw_seq ?_
  refine cw_region ?_
  refine ow_val rfl rfl (v_eql rfl rfl) ?_
  refine ow_val rfl rfl (v_assign rfl) ?_
  refine ow_nil ?_
  refine xw_then ?_
  refine cw_dec rfl (fun hc5 => ?_) (fun hc5 => ?_)
  refine cw_seq ?_
  refine cw_region ?_
  (refine ow_buildL (es := ([_])) rfl rfl Try.underlying177 Ty.em177 (sTy) rfl rfl (by first | (simp [*]; done) | (repeat (first | exact List.forall_mem_nil _ | refine List.forall_mem_cons.2 ⟨?_, ?_⟩ | assumption | (show _ ∧ _; omega)))) (by simp only [List.length_cons, List.length_nil]; decide) ?_; intro ao7 c7 hL7)
  refine ow_val rfl rfl (v_call rfl rfl (shape_c)) ?_
  refine ow_storeN rfl rfl rfl Ty.ag179 (by first | rfl | assumption) (by first | assumption | simp) (.there .here) (SetN.all (by first | rfl | assumption | simp_all)) ?_
  refine ow_val rfl rfl (v_assign rfl) ?_
  refine ow_nil ?_
  refine xw_then ?_
  refine cw_ret ?_
  refine xw_block_ret ?_
  refine xw_then_ret ?_
  refine ret2 rfl (res_cell rfl (Var.atN Ty.ag179 (.there .here) GetN.all (by first | rfl | assumption))) (res_tmp rfl) ?_
  rotate_left
  refine cw_seq ?_
  refine cw_region ?_
  refine ow_val rfl rfl (v_eql rfl rfl) ?_
  refine ow_val rfl rfl (v_assign rfl) ?_
  refine ow_nil ?_
  refine xw_then ?_
  refine cw_dec rfl (fun hc9 => ?_) (fun hc9 => ?_)
  refine cw_seq ?_
  refine cw_region ?_
  (refine ow_buildL (es := ([_, _, _, _, _])) rfl rfl Try.underlying177 Ty.em177 (sTy) rfl rfl (by first | (simp [*]; done) | (repeat (first | exact List.forall_mem_nil _ | refine List.forall_mem_cons.2 ⟨?_, ?_⟩ | assumption | (show _ ∧ _; omega)))) (by simp only [List.length_cons, List.length_nil]; decide) ?_; intro ao11 c11 hL11)
  refine ow_val rfl rfl (v_call rfl rfl (shape_c)) ?_
  refine ow_storeN rfl rfl rfl Ty.ag179 (by first | rfl | assumption) (by first | assumption | simp) (.there .here) (SetN.all (by first | rfl | assumption | simp_all)) ?_
  refine ow_val rfl rfl (v_assign rfl) ?_
  refine ow_nil ?_
  refine xw_then ?_
  refine cw_ret ?_
  refine xw_block_ret ?_
  refine xw_then_ret ?_
  refine ret2 rfl (res_cell rfl (Var.atN Ty.ag179 (.there .here) GetN.all (by first | rfl | assumption))) (res_tmp rfl) ?_
  rotate_left
  refine cw_seq ?_
  refine cw_region ?_
  refine ow_val rfl rfl (v_eql rfl rfl) ?_
  refine ow_val rfl rfl (v_assign rfl) ?_
  refine ow_nil ?_
  refine xw_then ?_
  refine cw_dec rfl (fun hc13 => ?_) (fun hc13 => ?_)
  refine cw_seq ?_
  refine cw_region ?_
  (refine ow_buildL (es := ([_, _, _])) rfl rfl Try.underlying177 Ty.em177 (sTy) rfl rfl (by first | (simp [*]; done) | (repeat (first | exact List.forall_mem_nil _ | refine List.forall_mem_cons.2 ⟨?_, ?_⟩ | assumption | (show _ ∧ _; omega)))) (by simp only [List.length_cons, List.length_nil]; decide) ?_; intro ao15 c15 hL15)
  refine ow_val rfl rfl (v_call rfl rfl (shape_c)) ?_
  refine ow_storeN rfl rfl rfl Ty.ag179 (by first | rfl | assumption) (by first | assumption | simp) (.there .here) (SetN.all (by first | rfl | assumption | simp_all)) ?_
  refine ow_val rfl rfl (v_assign rfl) ?_
  refine ow_nil ?_
  refine xw_then ?_
  refine cw_ret ?_
  refine xw_block_ret ?_
  refine xw_then_ret ?_
  refine ret2 rfl (res_cell rfl (Var.atN Ty.ag179 (.there .here) GetN.all (by first | rfl | assumption))) (res_tmp rfl) ?_
  rotate_left
  refine cw_seq ?_
  refine cw_region ?_
  refine ow_val rfl rfl (v_eql rfl rfl) ?_
  refine ow_val rfl rfl (v_assign rfl) ?_
  refine ow_nil ?_
  refine xw_then ?_
  refine cw_dec rfl (fun hc17 => ?_) (fun hc17 => ?_)
  refine cw_seq ?_
  refine cw_region ?_
  (refine ow_buildL (es := ([_, _])) rfl rfl Try.underlying177 Ty.em177 (sTy) rfl rfl (by first | (simp [*]; done) | (repeat (first | exact List.forall_mem_nil _ | refine List.forall_mem_cons.2 ⟨?_, ?_⟩ | assumption | (show _ ∧ _; omega)))) (by simp only [List.length_cons, List.length_nil]; decide) ?_; intro ao19 c19 hL19)
  refine ow_val rfl rfl (v_call rfl rfl (shape_c)) ?_
  refine ow_storeN rfl rfl rfl Ty.ag179 (by first | rfl | assumption) (by first | assumption | simp) (.there .here) (SetN.all (by first | rfl | assumption | simp_all)) ?_
  refine ow_val rfl rfl (v_assign rfl) ?_
  refine ow_nil ?_
  refine xw_then ?_
  refine cw_ret ?_
  refine xw_block_ret ?_
  refine xw_then_ret ?_
  refine ret2 rfl (res_cell rfl (Var.atN Ty.ag179 (.there .here) GetN.all (by first | rfl | assumption))) (res_tmp rfl) ?_
  rotate_left
  refine cw_seq ?_
  refine cw_region ?_
  refine ow_val rfl rfl (v_eql rfl rfl) ?_
  refine ow_val rfl rfl (v_assign rfl) ?_
  refine ow_nil ?_
  refine xw_then ?_
  refine cw_dec rfl (fun hc21 => ?_) (fun hc21 => ?_)
  refine cw_seq ?_
  refine cw_region ?_
  (refine ow_buildL (es := ([_, _, _])) rfl rfl Try.underlying177 Ty.em177 (sTy) rfl rfl (by first | (simp [*]; done) | (repeat (first | exact List.forall_mem_nil _ | refine List.forall_mem_cons.2 ⟨?_, ?_⟩ | assumption | (show _ ∧ _; omega)))) (by simp only [List.length_cons, List.length_nil]; decide) ?_; intro ao23 c23 hL23)
  refine ow_val rfl rfl (v_call rfl rfl (shape_c)) ?_
  refine ow_storeN rfl rfl rfl Ty.ag179 (by first | rfl | assumption) (by first | assumption | simp) (.there .here) (SetN.all (by first | rfl | assumption | simp_all)) ?_
  refine ow_val rfl rfl (v_assign rfl) ?_
  refine ow_nil ?_
  refine xw_then ?_
  refine cw_ret ?_
  refine xw_block_ret ?_
  refine xw_then_ret ?_
  refine ret2 rfl (res_cell rfl (Var.atN Ty.ag179 (.there .here) GetN.all (by first | rfl | assumption))) (res_tmp rfl) ?_
  rotate_left
  refine cw_seq ?_
  refine cw_region ?_
  refine ow_val rfl rfl (v_eql rfl rfl) ?_
  refine ow_val rfl rfl (v_assign rfl) ?_
  refine ow_nil ?_
  refine xw_then ?_
  refine cw_dec rfl (fun hc25 => ?_) (fun hc25 => ?_)
  refine cw_seq ?_
  refine cw_region ?_
  (refine ow_buildL (es := ([_])) rfl rfl Try.underlying177 Ty.em177 (sTy) rfl rfl (by first | (simp [*]; done) | (repeat (first | exact List.forall_mem_nil _ | refine List.forall_mem_cons.2 ⟨?_, ?_⟩ | assumption | (show _ ∧ _; omega)))) (by simp only [List.length_cons, List.length_nil]; decide) ?_; intro ao27 c27 hL27)
  refine ow_val rfl rfl (v_call rfl rfl (shape_c)) ?_
  refine ow_storeN rfl rfl rfl Ty.ag179 (by first | rfl | assumption) (by first | assumption | simp) (.there .here) (SetN.all (by first | rfl | assumption | simp_all)) ?_
  refine ow_val rfl rfl (v_assign rfl) ?_
  refine ow_nil ?_
  refine xw_then ?_
  refine cw_ret ?_
  refine xw_block_ret ?_
  refine xw_then_ret ?_
  refine ret2 rfl (res_cell rfl (Var.atN Ty.ag179 (.there .here) GetN.all (by first | rfl | assumption))) (res_tmp rfl) ?_
  rotate_left
  refine cw_seq ?_
  refine cw_region ?_
  refine ow_val rfl rfl (v_eql rfl rfl) ?_
  refine ow_val rfl rfl (v_assign rfl) ?_
  refine ow_nil ?_
  refine xw_then ?_
  refine cw_dec rfl (fun hc29 => ?_) (fun hc29 => ?_)
  refine cw_seq ?_
  refine cw_region ?_
  (refine ow_buildL (es := ([_, _])) rfl rfl Try.underlying177 Ty.em177 (sTy) rfl rfl (by first | (simp [*]; done) | (repeat (first | exact List.forall_mem_nil _ | refine List.forall_mem_cons.2 ⟨?_, ?_⟩ | assumption | (show _ ∧ _; omega)))) (by simp only [List.length_cons, List.length_nil]; decide) ?_; intro ao31 c31 hL31)
  refine ow_val rfl rfl (v_call rfl rfl (shape_c)) ?_
  refine ow_storeN rfl rfl rfl Ty.ag179 (by first | rfl | assumption) (by first | assumption | simp) (.there .here) (SetN.all (by first | rfl | assumption | simp_all)) ?_
  refine ow_val rfl rfl (v_assign rfl) ?_
  refine ow_nil ?_
  refine xw_then ?_
  refine cw_ret ?_
  refine xw_block_ret ?_
  refine xw_then_ret ?_
  refine ret2 rfl (res_cell rfl (Var.atN Ty.ag179 (.there .here) GetN.all (by first | rfl | assumption))) (res_tmp rfl) ?_
  rotate_left
  refine cw_seq ?_
  refine cw_region ?_
  refine ow_val rfl rfl (v_eql rfl rfl) ?_
  refine ow_val rfl rfl (v_assign rfl) ?_
  refine ow_nil ?_
  refine xw_then ?_
  refine cw_dec rfl (fun hc33 => ?_) (fun hc33 => ?_)
  refine cw_seq ?_
  refine cw_region ?_
  (refine ow_buildL (es := ([_, _, _, _, _, _, _, _])) rfl rfl Try.underlying177 Ty.em177 (sTy) rfl rfl (by first | (simp [*]; done) | (repeat (first | exact List.forall_mem_nil _ | refine List.forall_mem_cons.2 ⟨?_, ?_⟩ | assumption | (show _ ∧ _; omega)))) (by simp only [List.length_cons, List.length_nil]; decide) ?_; intro ao35 c35 hL35)
  refine ow_val rfl rfl (v_call rfl rfl (shape_c)) ?_
  refine ow_storeN rfl rfl rfl Ty.ag179 (by first | rfl | assumption) (by first | assumption | simp) (.there .here) (SetN.all (by first | rfl | assumption | simp_all)) ?_
  refine ow_val rfl rfl (v_assign rfl) ?_
  refine ow_nil ?_
  refine xw_then ?_
  refine cw_ret ?_
  refine xw_block_ret ?_
  refine xw_then_ret ?_
  refine ret2 rfl (res_cell rfl (Var.atN Ty.ag179 (.there .here) GetN.all (by first | rfl | assumption))) (res_tmp rfl) ?_
  rotate_left
  refine cw_seq ?_
  refine cw_region ?_
  refine ow_val rfl rfl (v_eql rfl rfl) ?_
  refine ow_val rfl rfl (v_assign rfl) ?_
  refine ow_nil ?_
  refine xw_then ?_
  refine cw_dec rfl (fun hc37 => ?_) (fun hc37 => ?_)
  refine cw_seq ?_
  refine cw_region ?_
  (refine ow_buildL (es := ([_, _, _, _, _])) rfl rfl Try.underlying177 Ty.em177 (sTy) rfl rfl (by first | (simp [*]; done) | (repeat (first | exact List.forall_mem_nil _ | refine List.forall_mem_cons.2 ⟨?_, ?_⟩ | assumption | (show _ ∧ _; omega)))) (by simp only [List.length_cons, List.length_nil]; decide) ?_; intro ao39 c39 hL39)
  refine ow_val rfl rfl (v_call rfl rfl (shape_c)) ?_
  refine ow_storeN rfl rfl rfl Ty.ag179 (by first | rfl | assumption) (by first | assumption | simp) (.there .here) (SetN.all (by first | rfl | assumption | simp_all)) ?_
  refine ow_val rfl rfl (v_assign rfl) ?_
  refine ow_nil ?_
  refine xw_then ?_
  refine cw_ret ?_
  refine xw_block_ret ?_
  refine xw_then_ret ?_
  refine ret2 rfl (res_cell rfl (Var.atN Ty.ag179 (.there .here) GetN.all (by first | rfl | assumption))) (res_tmp rfl) ?_
  rotate_left
  refine cw_seq ?_
  refine cw_region ?_
  refine ow_val rfl rfl (v_eql rfl rfl) ?_
  refine ow_val rfl rfl (v_assign rfl) ?_
  refine ow_nil ?_
  refine xw_then ?_
  refine cw_dec rfl (fun hc41 => ?_) (fun hc41 => ?_)
  refine cw_seq ?_
  refine cw_region ?_
  (refine ow_buildL (es := ([_, _, _, _, _, _, _])) rfl rfl Try.underlying177 Ty.em177 (sTy) rfl rfl (by first | (simp [*]; done) | (repeat (first | exact List.forall_mem_nil _ | refine List.forall_mem_cons.2 ⟨?_, ?_⟩ | assumption | (show _ ∧ _; omega)))) (by simp only [List.length_cons, List.length_nil]; decide) ?_; intro ao43 c43 hL43)
  refine ow_val rfl rfl (v_call rfl rfl (shape_c)) ?_
  refine ow_storeN rfl rfl rfl Ty.ag179 (by first | rfl | assumption) (by first | assumption | simp) (.there .here) (SetN.all (by first | rfl | assumption | simp_all)) ?_
  refine ow_val rfl rfl (v_assign rfl) ?_
  refine ow_nil ?_
  refine xw_then ?_
  refine cw_ret ?_
  refine xw_block_ret ?_
  refine xw_then_ret ?_
  refine ret2 rfl (res_cell rfl (Var.atN Ty.ag179 (.there .here) GetN.all (by first | rfl | assumption))) (res_tmp rfl) ?_
  rotate_left
  refine cw_seq ?_
  refine cw_region ?_
  refine ow_val rfl rfl (v_eql rfl rfl) ?_
  refine ow_val rfl rfl (v_assign rfl) ?_
  refine ow_nil ?_
  refine xw_then ?_
  refine cw_dec rfl (fun hc45 => ?_) (fun hc45 => ?_)
  refine cw_seq ?_
  refine cw_region ?_
  (refine ow_buildL (es := ([_])) rfl rfl Try.underlying177 Ty.em177 (sTy) rfl rfl (by first | (simp [*]; done) | (repeat (first | exact List.forall_mem_nil _ | refine List.forall_mem_cons.2 ⟨?_, ?_⟩ | assumption | (show _ ∧ _; omega)))) (by simp only [List.length_cons, List.length_nil]; decide) ?_; intro ao47 c47 hL47)
  refine ow_val rfl rfl (v_build rfl (b_sh3)) ?_
  refine ow_storeN rfl rfl rfl Ty.ag179 (by first | rfl | assumption) (by first | assumption | simp) (.there .here) (SetN.all (by first | rfl | assumption | simp_all)) ?_
  refine ow_val rfl rfl (v_assign rfl) ?_
  refine ow_nil ?_
  refine xw_then ?_
  refine cw_ret ?_
  refine xw_block_ret ?_
  refine xw_then_ret ?_
  refine ret2 rfl (res_cell rfl (Var.atN Ty.ag179 (.there .here) GetN.all (by first | rfl | assumption))) (res_tmp rfl) ?_
  rotate_left
  refine cw_seq ?_
  refine cw_region ?_
  refine ow_val rfl rfl (v_eql rfl rfl) ?_
  refine ow_val rfl rfl (v_assign rfl) ?_
  refine ow_nil ?_
  refine xw_then ?_
  refine cw_dec rfl (fun hc49 => ?_) (fun hc49 => ?_)
  refine cw_seq ?_
  refine cw_region ?_
  (refine ow_buildL (es := ([_])) rfl rfl Try.underlying177 Ty.em177 (sTy) rfl rfl (by first | (simp [*]; done) | (repeat (first | exact List.forall_mem_nil _ | refine List.forall_mem_cons.2 ⟨?_, ?_⟩ | assumption | (show _ ∧ _; omega)))) (by simp only [List.length_cons, List.length_nil]; decide) ?_; intro ao51 c51 hL51)
  refine ow_val rfl rfl (v_call rfl rfl (shape_c)) ?_
  refine ow_storeN rfl rfl rfl Ty.ag179 (by first | rfl | assumption) (by first | assumption | simp) (.there .here) (SetN.all (by first | rfl | assumption | simp_all)) ?_
  refine ow_val rfl rfl (v_assign rfl) ?_
  refine ow_nil ?_
  refine xw_then ?_
  refine cw_ret ?_
  refine xw_block_ret ?_
  refine xw_then_ret ?_
  refine ret2 rfl (res_cell rfl (Var.atN Ty.ag179 (.there .here) GetN.all (by first | rfl | assumption))) (res_tmp rfl) ?_
  rotate_left
  refine cw_seq ?_
  refine cw_region ?_
  refine ow_val rfl rfl (v_eql rfl rfl) ?_
  refine ow_val rfl rfl (v_assign rfl) ?_
  refine ow_nil ?_
  refine xw_then ?_
  refine cw_dec rfl (fun hc53 => ?_) (fun hc53 => ?_)
  refine cw_seq ?_
  refine cw_region ?_
  (refine ow_buildL (es := ([_])) rfl rfl Try.underlying177 Ty.em177 (sTy) rfl rfl (by first | (simp [*]; done) | (repeat (first | exact List.forall_mem_nil _ | refine List.forall_mem_cons.2 ⟨?_, ?_⟩ | assumption | (show _ ∧ _; omega)))) (by simp only [List.length_cons, List.length_nil]; decide) ?_; intro ao55 c55 hL55)
  refine ow_val rfl rfl (v_build rfl (b_sh3)) ?_
  refine ow_storeN rfl rfl rfl Ty.ag179 (by first | rfl | assumption) (by first | assumption | simp) (.there .here) (SetN.all (by first | rfl | assumption | simp_all)) ?_
  refine ow_val rfl rfl (v_assign rfl) ?_
  refine ow_nil ?_
  refine xw_then ?_
  refine cw_ret ?_
  refine xw_block_ret ?_
  refine xw_then_ret ?_
  refine ret2 rfl (res_cell rfl (Var.atN Ty.ag179 (.there .here) GetN.all (by first | rfl | assumption))) (res_tmp rfl) ?_
  rotate_left
  refine cw_seq ?_
  refine cw_region ?_
  refine ow_val rfl rfl (v_eql rfl rfl) ?_
  refine ow_val rfl rfl (v_assign rfl) ?_
  refine ow_nil ?_
  refine xw_then ?_
  refine cw_dec rfl (fun hc57 => ?_) (fun hc57 => ?_)
  refine cw_seq ?_
  refine cw_region ?_
  (refine ow_buildL (es := ([_])) rfl rfl Try.underlying177 Ty.em177 (sTy) rfl rfl (by first | (simp [*]; done) | (repeat (first | exact List.forall_mem_nil _ | refine List.forall_mem_cons.2 ⟨?_, ?_⟩ | assumption | (show _ ∧ _; omega)))) (by simp only [List.length_cons, List.length_nil]; decide) ?_; intro ao59 c59 hL59)
  refine ow_val rfl rfl (v_call rfl rfl (shape_c)) ?_
  refine ow_storeN rfl rfl rfl Ty.ag179 (by first | rfl | assumption) (by first | assumption | simp) (.there .here) (SetN.all (by first | rfl | assumption | simp_all)) ?_
  refine ow_val rfl rfl (v_assign rfl) ?_
  refine ow_nil ?_
  refine xw_then ?_
  refine cw_ret ?_
  refine xw_block_ret ?_
  refine xw_then_ret ?_
  refine ret2 rfl (res_cell rfl (Var.atN Ty.ag179 (.there .here) GetN.all (by first | rfl | assumption))) (res_tmp rfl) ?_
  rotate_left
  refine cw_seq ?_
  refine cw_region ?_
  refine ow_val rfl rfl (v_eql rfl rfl) ?_
  refine ow_val rfl rfl (v_assign rfl) ?_
  refine ow_nil ?_
  refine xw_then ?_
  refine cw_dec rfl (fun hc61 => ?_) (fun hc61 => ?_)
  refine cw_seq ?_
  refine cw_region ?_
  (refine ow_buildL (es := ([_])) rfl rfl Try.underlying177 Ty.em177 (sTy) rfl rfl (by first | (simp [*]; done) | (repeat (first | exact List.forall_mem_nil _ | refine List.forall_mem_cons.2 ⟨?_, ?_⟩ | assumption | (show _ ∧ _; omega)))) (by simp only [List.length_cons, List.length_nil]; decide) ?_; intro ao63 c63 hL63)
  refine ow_val rfl rfl (v_call rfl rfl (shape_c)) ?_
  refine ow_storeN rfl rfl rfl Ty.ag179 (by first | rfl | assumption) (by first | assumption | simp) (.there .here) (SetN.all (by first | rfl | assumption | simp_all)) ?_
  refine ow_val rfl rfl (v_assign rfl) ?_
  refine ow_nil ?_
  refine xw_then ?_
  refine cw_ret ?_
  refine xw_block_ret ?_
  refine xw_then_ret ?_
  refine ret2 rfl (res_cell rfl (Var.atN Ty.ag179 (.there .here) GetN.all (by first | rfl | assumption))) (res_tmp rfl) ?_
  rotate_left
  refine cw_seq ?_
  refine cw_region ?_
  refine ow_val rfl rfl (v_eql rfl rfl) ?_
  refine ow_val rfl rfl (v_assign rfl) ?_
  refine ow_nil ?_
  refine xw_then ?_
  refine cw_dec rfl (fun hc65 => ?_) (fun hc65 => ?_)
  refine cw_seq ?_
  refine cw_region ?_
  (refine ow_buildL (es := ([_, _])) rfl rfl Try.underlying177 Ty.em177 (sTy) rfl rfl (by first | (simp [*]; done) | (repeat (first | exact List.forall_mem_nil _ | refine List.forall_mem_cons.2 ⟨?_, ?_⟩ | assumption | (show _ ∧ _; omega)))) (by simp only [List.length_cons, List.length_nil]; decide) ?_; intro ao67 c67 hL67)
  refine ow_val rfl rfl (v_call rfl rfl (shape_c)) ?_
  refine ow_storeN rfl rfl rfl Ty.ag179 (by first | rfl | assumption) (by first | assumption | simp) (.there .here) (SetN.all (by first | rfl | assumption | simp_all)) ?_
  refine ow_val rfl rfl (v_assign rfl) ?_
  refine ow_nil ?_
  refine xw_then ?_
  refine cw_ret ?_
  refine xw_block_ret ?_
  refine xw_then_ret ?_
  refine ret2 rfl (res_cell rfl (Var.atN Ty.ag179 (.there .here) GetN.all (by first | rfl | assumption))) (res_tmp rfl) ?_
  rotate_left
  refine cw_seq ?_
  refine cw_region ?_
  refine ow_val rfl rfl (v_eql rfl rfl) ?_
  refine ow_val rfl rfl (v_assign rfl) ?_
  refine ow_nil ?_
  refine xw_then ?_
  refine cw_dec rfl (fun hc69 => ?_) (fun hc69 => ?_)
  refine cw_seq ?_
  refine cw_region ?_
  (refine ow_buildL (es := ([_, _])) rfl rfl Try.underlying177 Ty.em177 (sTy) rfl rfl (by first | (simp [*]; done) | (repeat (first | exact List.forall_mem_nil _ | refine List.forall_mem_cons.2 ⟨?_, ?_⟩ | assumption | (show _ ∧ _; omega)))) (by simp only [List.length_cons, List.length_nil]; decide) ?_; intro ao71 c71 hL71)
  refine ow_val rfl rfl (v_call rfl rfl (shape_c)) ?_
  refine ow_storeN rfl rfl rfl Ty.ag179 (by first | rfl | assumption) (by first | assumption | simp) (.there .here) (SetN.all (by first | rfl | assumption | simp_all)) ?_
  refine ow_val rfl rfl (v_assign rfl) ?_
  refine ow_nil ?_
  refine xw_then ?_
  refine cw_ret ?_
  refine xw_block_ret ?_
  refine xw_then_ret ?_
  refine ret2 rfl (res_cell rfl (Var.atN Ty.ag179 (.there .here) GetN.all (by first | rfl | assumption))) (res_tmp rfl) ?_
  rotate_left
  refine cw_seq ?_
  refine cw_region ?_
  refine ow_val rfl rfl (v_eql rfl rfl) ?_
  refine ow_val rfl rfl (v_assign rfl) ?_
  refine ow_nil ?_
  refine xw_then ?_
  refine cw_dec rfl (fun hc73 => ?_) (fun hc73 => ?_)
  refine cw_seq ?_
  refine cw_region ?_
  (refine ow_buildL (es := ([_, _, _])) rfl rfl Try.underlying177 Ty.em177 (sTy) rfl rfl (by first | (simp [*]; done) | (repeat (first | exact List.forall_mem_nil _ | refine List.forall_mem_cons.2 ⟨?_, ?_⟩ | assumption | (show _ ∧ _; omega)))) (by simp only [List.length_cons, List.length_nil]; decide) ?_; intro ao75 c75 hL75)
  refine ow_val rfl rfl (v_call rfl rfl (shape_c)) ?_
  refine ow_storeN rfl rfl rfl Ty.ag179 (by first | rfl | assumption) (by first | assumption | simp) (.there .here) (SetN.all (by first | rfl | assumption | simp_all)) ?_
  refine ow_val rfl rfl (v_assign rfl) ?_
  refine ow_nil ?_
  refine xw_then ?_
  refine cw_ret ?_
  refine xw_block_ret ?_
  refine xw_then_ret ?_
  refine ret2 rfl (res_cell rfl (Var.atN Ty.ag179 (.there .here) GetN.all (by first | rfl | assumption))) (res_tmp rfl) ?_
  rotate_left
  refine cw_seq ?_
  refine cw_region ?_
  refine ow_val rfl rfl (v_eql rfl rfl) ?_
  refine ow_val rfl rfl (v_assign rfl) ?_
  refine ow_nil ?_
  refine xw_then ?_
  refine cw_dec rfl (fun hc77 => ?_) (fun hc77 => ?_)
  refine cw_seq ?_
  refine cw_region ?_
  refine ow_val rfl rfl (v_call rfl rfl (shape_c)) ?_
  refine ow_storeN rfl rfl rfl Ty.ag179 (by first | rfl | assumption) (by first | assumption | simp) .here (SetN.all (by first | rfl | assumption | simp_all)) ?_
  refine ow_val rfl rfl (v_assign rfl) ?_
  refine ow_nil ?_
  refine xw_then ?_
  refine cw_ret ?_
  refine xw_block_ret ?_
  refine xw_then_ret ?_
  refine ret2 rfl (res_cell rfl (Var.atN Ty.ag179 .here GetN.all (by first | rfl | assumption))) (res_tmp rfl) ?_
  rotate_left
  refine cw_skip ?_
  refine xw_block ?_
  refine xw_then ?_
  refine cw_seq ?_
  refine cw_region ?_
  refine ow_val rfl rfl (v_build rfl (b_sh0)) ?_
  refine ow_storeN rfl rfl rfl Ty.ag179 (by first | rfl | assumption) (by first | assumption | simp) .here (SetN.all (by first | rfl | assumption | simp_all)) ?_
  refine ow_val rfl rfl (v_assign rfl) ?_
  refine ow_nil ?_
  refine xw_then ?_
  refine cw_ret ?_
  refine ret2 rfl (res_cell rfl (Var.atN Ty.ag179 .here GetN.all (by first | rfl | assumption))) (res_tmp rfl) ?_
  rotate_left
  all_goals first
    | (subst_vars; exact ⟨(_, _, _, _, _, _, []), rfl, ⟨⟨fun _ => ⟨by omega, by omega⟩, fun _ => rfl⟩, fun _ => ⟨rfl, rfl⟩⟩, (by first | exact Cov.refl _ | (intro p; simp only [List.flatten_cons, List.flatten_nil, List.flatten_append, List.append_nil, List.nil_append, cnt_append, cnt_cons, cnt_nil, List.set_cons_zero, List.set_cons_succ, List.length_nil, List.length_cons, Nat.zero_add, List.append]; omega))⟩)
    | exact ⟨(_, _, _, _, _, _, []), rfl, ⟨⟨fun h => Bool.noConfusion h, fun h => by omega⟩, fun h => by omega⟩, (by first | exact Cov.refl _ | (intro p; simp only [List.flatten_cons, List.flatten_nil, List.flatten_append, List.append_nil, List.nil_append, cnt_append, cnt_cons, cnt_nil, List.set_cons_zero, List.set_cons_succ, List.length_nil, List.length_cons, Nat.zero_add, List.append]; omega))⟩
theorem evCheck_c {B : Nat} {w0 : World} {G : List Hp} {e : EvM} {p : EvP} (hE : EvIn (St B w0 G) e p) (he : e.ok) :
    Go.Sl.Fn Try.prog 73 #[.agg (e.cells p).toArray] B w0 G fun u G' => u = .int .i64 e.chk ∧ G' = G := by
  refine Fn.pure ?_
  have hln := he.ln
  have hld := he.ld
  refine fn_enter Try.func73 rfl (by kernel_rfl) Try.ntmps73 (by simp) ?_
  unfold EvM.cells
  refine cw_seq ?_
  refine cw_region ?_
  (refine ow_box rfl rfl rfl rfl ?_; intro b1)
  refine ow_val rfl rfl (v_assign rfl) ?_
  refine ow_nil ?_
  refine xw_then ?_
  refine cw_seq ?_
  refine cw_region ?_
  refine ow_val rfl rfl (v_fieldAddr0 Ty.fd62_0 rfl) ?_
  refine ow_val rfl rfl (v_load rfl (Var.at1 Ty.sc59 .here (GetN.lit rfl))) ?_
  (refine ow_call rfl rfl rfl rfl (evOf_c he.k) ?_; rintro _ _ ⟨x10, rfl, hq10, rfl⟩)
  refine ow_val rfl rfl (v_move rfl) ?_
  refine ow_val rfl rfl (v_extract rfl rfl) ?_
  refine ow_val rfl rfl (v_extract rfl rfl) ?_
  (refine ow_alloc rfl rfl Ty.ze179 ?_; intro b3)
  refine ow_storeN rfl rfl rfl Ty.ag179 (by first | rfl | assumption) (by first | assumption | simp) .here (SetN.all (by first | rfl | assumption | simp_all)) ?_
  refine ow_val rfl rfl (v_assign rfl) ?_
  refine ow_nil ?_
  refine xw_then ?_
  obtain ⟨nm, ao, n, cap, dt, is, ck⟩ := x10
  obtain ⟨h1, h2⟩ := hq10
  dsimp only at h1 h2 ⊢
  by_cases hk : 1 ≤ e.k ∧ e.k ≤ 19
  · obtain rfl : is = true := h1.2 hk
    obtain ⟨h3, rfl⟩ := h2 hk
    have c1 : ¬ ¬ (1 ≤ e.k ∧ e.k ≤ 19) := fun h => h hk
    refine cw_cut2 (ι := (Unit)) [(1, _)] ⟨rfl, trivial⟩ ((fun _ => [])) ((fun _ => ¬ 1125899906842624 < e.t ∧ ¬ (e.n.length : Int) ≠ manyK e.k.toNat ∧ ¬ (20 < e.d.length ∨ (0 < e.d.length ∧ dataK e.k = false)))) ((fun _ => [(b1, .cells [Value.int .u8 e.k, .int .u64 e.t, .slice p.na e.n.length p.nc, .slice p.da e.d.length p.dc].toArray 62 (0, 0))] :: G)) ?_ ?_
    · refine cw_block ?_
      refine cw_seq ?_
      refine cw_region ?_
      refine ow_val rfl rfl (v_move rfl) ?_
      refine ow_val rfl rfl (v_not_true rfl) ?_
      refine ow_val rfl rfl (v_assign rfl) ?_
      refine ow_nil ?_
      refine xw_then ?_
      refine cw_false rfl ?_
      refine cw_seq ?_
      refine cw_region ?_
      refine ow_val rfl rfl (v_fieldAddr0 Ty.fd62_1 rfl) ?_
      refine ow_val rfl rfl (v_load rfl (Var.at1 Ty.sc22 (.there (.there .here)) (GetN.lit rfl))) ?_
      refine ow_val rfl rfl (v_gtr rfl rfl) ?_
      refine ow_val rfl rfl (v_assign rfl) ?_
      refine ow_nil ?_
      refine xw_then ?_
      refine cw_dec rfl (fun hc16 => ?_) (fun hc16 => ?_)
      refine cw_seq ?_
      refine cw_region ?_
      refine ow_val rfl rfl (v_assign rfl) ?_
      refine ow_nil ?_
      refine xw_then ?_
      refine cw_ret ?_
      refine xw_block_ret ?_
      refine xw_joint_ret ?_
      refine ret1 rfl (res_tmp rfl) ?_
      rotate_left
      refine cw_seq ?_
      refine cw_region ?_
      refine ow_val rfl rfl (v_fieldAddr0 Ty.fd62_2 rfl) ?_
      refine ow_val rfl rfl (v_load rfl (Var.at1 Ty.sc60 (.there (.there .here)) (GetN.lit rfl))) ?_
      refine ow_val rfl rfl (v_len rfl Try.underlying60 rfl) ?_
      refine ow_val rfl rfl (v_fieldAddr0 Ty.fd179_1 rfl) ?_
      refine ow_val rfl rfl (v_load rfl (Var.at1 Ty.sc177 .here (GetN.lit rfl))) ?_
      refine ow_val rfl rfl (v_len rfl Try.underlying177 rfl) ?_
      refine ow_val rfl rfl (v_neq rfl rfl) ?_
      refine ow_val rfl rfl (v_assign rfl) ?_
      refine ow_nil ?_
      refine xw_then ?_
      refine cw_dec rfl (fun hc20 => ?_) (fun hc20 => ?_)
      refine cw_seq ?_
      refine cw_region ?_
      refine ow_val rfl rfl (v_assign rfl) ?_
      refine ow_nil ?_
      refine xw_then ?_
      refine cw_ret ?_
      refine xw_block_ret ?_
      refine xw_joint_ret ?_
      refine ret1 rfl (res_tmp rfl) ?_
      rotate_left
      refine cw_seq ?_
      refine cw_seq ?_
      refine cw_region ?_
      refine ow_val rfl rfl (v_fieldAddr0 Ty.fd62_3 rfl) ?_
      refine ow_val rfl rfl (v_load rfl (Var.at1 Ty.sc23 (.there (.there .here)) (GetN.lit rfl))) ?_
      refine ow_val rfl rfl (v_len rfl Try.underlying23 rfl) ?_
      refine ow_val rfl rfl (v_gtr rfl rfl) ?_
      refine ow_val rfl rfl (v_assign rfl) ?_
      refine ow_nil ?_
      refine xw_then ?_
      refine cw_dec rfl (fun hc28 => ?_) (fun hc28 => ?_)
      refine cw_skip ?_
      refine xw_then ?_
      refine cw_dec rfl (fun hc28 => ?_) (fun hc28 => ?_)
      rotate_left; (exfalso; omega); rotate_right
      refine cw_seq ?_
      refine cw_region ?_
      refine ow_val rfl rfl (v_assign rfl) ?_
      refine ow_nil ?_
      refine xw_then ?_
      refine cw_ret ?_
      refine xw_block_ret ?_
      refine xw_joint_ret ?_
      refine ret1 rfl (res_tmp rfl) ?_
      rotate_left
      refine cw_region ?_
      refine ow_val rfl rfl (v_fieldAddr0 Ty.fd62_3 rfl) ?_
      refine ow_val rfl rfl (v_load rfl (Var.at1 Ty.sc23 (.there (.there .here)) (GetN.lit rfl))) ?_
      refine ow_val rfl rfl (v_len rfl Try.underlying23 rfl) ?_
      refine ow_val rfl rfl (v_gtr rfl rfl) ?_
      refine ow_val rfl rfl (v_move rfl) ?_
      refine ow_dec 37 rfl (fun hc37 => ?_) (fun hc37 => ?_)
      refine ow_val rfl rfl (v_fieldAddr0 Ty.fd179_2 rfl) ?_
      refine ow_val rfl rfl (v_load rfl (Var.at1 Ty.sc4 .here (GetN.lit rfl))) ?_
      refine ow_val rfl rfl (v_not_bool rfl) ?_
      refine ow_val rfl rfl (v_pick_true rfl rfl) ?_
      refine ow_val rfl rfl (v_assign rfl) ?_
      refine ow_nil ?_
      refine xw_then ?_
      refine cw_bool rfl (fun hc28 => ?_) (fun hc28 => ?_)
      refine cw_seq ?_
      refine cw_region ?_
      refine ow_val rfl rfl (v_assign rfl) ?_
      refine ow_nil ?_
      refine xw_then ?_
      refine cw_ret ?_
      refine xw_block_ret ?_
      refine xw_joint_ret ?_
      refine ret1 rfl (res_tmp rfl) ?_
      rotate_left
      refine cw_skip ?_
      refine xw_block ?_
      rotate_left
      refine ow_skip rfl rfl ?_
      refine ow_skip rfl rfl ?_
      refine ow_skip rfl rfl ?_
      refine ow_val rfl rfl (v_pick_false rfl rfl) ?_
      refine ow_val rfl rfl (v_assign rfl) ?_
      refine ow_nil ?_
      refine xw_then ?_
      refine cw_false rfl ?_
      refine cw_skip ?_
      refine xw_block ?_
      rotate_left
      · exact ⟨by rw [EvM.chk, if_neg c1, if_pos hc16], (by first | exact Cov.refl _ | (intro p; simp only [List.flatten_cons, List.flatten_nil, List.flatten_append, List.append_nil, List.nil_append, cnt_append, cnt_cons, cnt_nil, List.set_cons_zero, List.set_cons_succ, List.length_nil, List.length_cons, Nat.zero_add, List.append]; omega))⟩
      · exact ⟨by rw [EvM.chk, if_neg c1, if_neg hc16, if_pos (by omega)], (by first | exact Cov.refl _ | (intro p; simp only [List.flatten_cons, List.flatten_nil, List.flatten_append, List.append_nil, List.nil_append, cnt_append, cnt_cons, cnt_nil, List.set_cons_zero, List.set_cons_succ, List.length_nil, List.length_cons, Nat.zero_add, List.append]; omega))⟩
      · exact ⟨by rw [EvM.chk, if_neg c1, if_neg hc16, if_neg (by omega), if_pos (.inl (by omega))], (by first | exact Cov.refl _ | (intro p; simp only [List.flatten_cons, List.flatten_nil, List.flatten_append, List.append_nil, List.nil_append, cnt_append, cnt_cons, cnt_nil, List.set_cons_zero, List.set_cons_succ, List.length_nil, List.length_cons, Nat.zero_add, List.append]; omega))⟩
      · have hd : dataK e.k = false := by cases h : dataK e.k with | false => rfl | true => rw [h] at hc28; cases hc28
        exact ⟨by rw [EvM.chk, if_neg c1, if_neg hc16, if_neg (by omega), if_pos (.inr ⟨by omega, hd⟩)], (by first | exact Cov.refl _ | (intro p; simp only [List.flatten_cons, List.flatten_nil, List.flatten_append, List.append_nil, List.nil_append, cnt_append, cnt_cons, cnt_nil, List.set_cons_zero, List.set_cons_succ, List.length_nil, List.length_cons, Nat.zero_add, List.append]; omega))⟩
      · have hd : dataK e.k = true := by cases h : dataK e.k with | true => rfl | false => rw [h] at hc28; cases hc28
        exact xw_joint () ⟨hc16, by omega, by rw [hd]; simp; omega⟩ (by first | exact Cov.refl _ | (intro p; simp only [List.flatten_cons, List.flatten_nil, List.flatten_append, List.append_nil, List.nil_append, cnt_append, cnt_cons, cnt_nil, List.set_cons_zero, List.set_cons_succ, List.length_nil, List.length_cons, Nat.zero_add, List.append]; omega)) (by repeat (first | exact True.intro | refine And.intro rfl ?_))
      · exact xw_joint () ⟨hc16, by omega, by omega⟩ (by first | exact Cov.refl _ | (intro p; simp only [List.flatten_cons, List.flatten_nil, List.flatten_append, List.append_nil, List.nil_append, cnt_append, cnt_cons, cnt_nil, List.set_cons_zero, List.set_cons_succ, List.length_nil, List.length_cons, Nat.zero_add, List.append]; omega)) (by repeat (first | exact True.intro | refine And.intro rfl ?_))
    rintro _ ⟨d1, d2, d3⟩
    refine cw_seq ?_
    refine cw_seq ?_
    refine cw_region ?_
    refine ow_val rfl rfl (v_fieldAddr0 Ty.fd62_2 rfl) ?_
    refine ow_val rfl rfl (v_load rfl (Var.at1 Ty.sc60 .here (GetN.lit rfl))) ?_
    refine ow_val rfl rfl (v_len rfl Try.underlying60 rfl) ?_
    refine ow_val rfl rfl (v_move rfl) ?_
    refine ow_nil ?_
    refine xw_then ?_
    refine cw_block ?_
    refine cw_loop2 (ι := (Nat)) [(43, _), (44, _)] ⟨rfl, rfl, trivial⟩ ((fun j => [(45, .int .i64 j)])) ((fun j => j ≤ e.n.length ∧ ∀ i (h : i < e.n.length), i < j → e.n[i] ≤ 4611686018427387903)) ((fun j => e.n.length - j)) ((fun _ => [(b1, .cells [Value.int .u8 e.k, .int .u64 e.t, .slice p.na e.n.length p.nc, .slice p.da e.d.length p.dc].toArray 62 (0, 0))] :: G)) (0) (by repeat (first | exact True.intro | refine And.intro rfl ?_)) (by first | exact Cov.refl _ | (intro p; simp only [List.flatten_cons, List.flatten_nil, List.flatten_append, List.append_nil, List.nil_append, cnt_append, cnt_cons, cnt_nil, List.set_cons_zero, List.set_cons_succ, List.length_nil, List.length_cons, Nat.zero_add, List.append]; omega)) ?_ ?_
    · exact ⟨Nat.zero_le _, fun i h h0 => absurd h0 (Nat.not_lt_zero i)⟩
    rintro j ⟨hj, hall⟩
    refine cw_seq ?_
    refine cw_region ?_
    refine ow_val rfl rfl (v_lss rfl rfl) ?_
    refine ow_nil ?_
    refine xw_then ?_
    refine cw_seq ?_
    refine cw_dec rfl (fun hc46 => ?_) (fun hc46 => ?_)
    refine cw_skip ?_
    refine xw_then ?_
    refine cw_seq ?_
    refine cw_block ?_
    refine cw_seq ?_
    refine cw_region ?_
    refine ow_val rfl rfl (v_indexAddr_vw Try.underlying60 (qTy) rfl rfl ((hE.n.cov (by first | exact Cov.refl _ | (intro p; simp only [List.flatten_cons, List.flatten_nil, List.flatten_append, List.append_nil, List.nil_append, cnt_append, cnt_cons, cnt_nil, List.set_cons_zero, List.set_cons_succ, List.length_nil, List.length_cons, Nat.zero_add, List.append]; omega)))) rfl (by omega)) ?_
    refine ow_val rfl rfl (v_load rfl (Go.Sl.Vw.var (qTy) ((hE.n.cov (by first | exact Cov.refl _ | (intro p; simp only [List.flatten_cons, List.flatten_nil, List.flatten_append, List.append_nil, List.nil_append, cnt_append, cnt_cons, cnt_nil, List.set_cons_zero, List.set_cons_succ, List.length_nil, List.length_cons, Nat.zero_add, List.append]; omega)))) (by omega))) ?_
    refine ow_val rfl rfl (v_assign rfl) ?_
    refine ow_nil ?_
    refine xw_then ?_
    refine cw_seq ?_
    refine cw_region ?_
    refine ow_val rfl rfl (v_move rfl) ?_
    refine ow_val rfl rfl (v_gtr rfl rfl) ?_
    refine ow_nil ?_
    refine xw_then ?_
    refine cw_dec rfl (fun hc50 => ?_) (fun hc50 => ?_)
    refine cw_seq ?_
    refine cw_region ?_
    refine ow_val rfl rfl (v_assign rfl) ?_
    refine ow_nil ?_
    refine xw_then ?_
    refine cw_ret ?_
    refine xw_block_ret ?_
    refine xw_then_ret ?_
    refine xw_round_ret ?_
    refine xw_block_ret ?_
    refine xw_then_ret ?_
    refine ret1 rfl (res_tmp rfl) ?_
    rotate_left
    refine cw_skip ?_
    refine xw_block ?_
    refine xw_then ?_
    refine cw_region ?_
    refine ow_val rfl rfl (v_add rfl rfl (nw_i64 (by omega) (by omega))) ?_
    refine ow_val rfl rfl (v_move rfl) ?_
    refine ow_nil ?_
    rotate_left
    refine cw_exit ?_
    refine xw_then_exit ?_
    refine xw_round_exit ?_
    refine xw_block_exit ?_
    refine xw_then ?_
    refine cw_seq ?_
    refine cw_region ?_
    refine ow_val rfl rfl (v_assign rfl) ?_
    refine ow_nil ?_
    refine xw_then ?_
    refine cw_ret ?_
    refine ret1 rfl (res_tmp rfl) ?_
    rotate_left
    · have hno : ¬ ∀ x ∈ e.n, x ≤ 4611686018427387903 := fun h => by
        have := h _ (List.getElem_mem (show j < e.n.length by omega))
        have h9 : 4611686018427387903 < e.n[j] := hc50
        omega
      exact ⟨by rw [EvM.chk, if_neg c1, if_neg d1, if_neg d2, if_neg d3, if_neg hno], (by first | exact Cov.refl _ | (intro p; simp only [List.flatten_cons, List.flatten_nil, List.flatten_append, List.append_nil, List.nil_append, cnt_append, cnt_cons, cnt_nil, List.set_cons_zero, List.set_cons_succ, List.length_nil, List.length_cons, Nat.zero_add, List.append]; omega))⟩
    · exact xw_round (j + 1) ⟨by omega, fun i h hi => by
        by_cases hij : i = j
        · subst hij
          have h9 : ¬ 4611686018427387903 < e.n[i] := hc50
          omega
        · exact hall i h (by omega)⟩ (by omega) (by first | exact Cov.refl _ | (intro p; simp only [List.flatten_cons, List.flatten_nil, List.flatten_append, List.append_nil, List.nil_append, cnt_append, cnt_cons, cnt_nil, List.set_cons_zero, List.set_cons_succ, List.length_nil, List.length_cons, Nat.zero_add, List.append]; omega)) (by repeat (first | exact True.intro | refine And.intro rfl ?_))
    · have hyes : ∀ x ∈ e.n, x ≤ 4611686018427387903 := fun x hx => by
        obtain ⟨i, hi, rfl⟩ := List.getElem_of_mem hx
        exact hall i hi (by omega)
      exact ⟨by rw [EvM.chk, if_neg c1, if_neg d1, if_neg d2, if_neg d3, if_pos hyes], (by first | exact Cov.refl _ | (intro p; simp only [List.flatten_cons, List.flatten_nil, List.flatten_append, List.append_nil, List.nil_append, cnt_append, cnt_cons, cnt_nil, List.set_cons_zero, List.set_cons_succ, List.length_nil, List.length_cons, Nat.zero_add, List.append]; omega))⟩
  · obtain rfl : is = false := by
      cases is with
      | false => rfl
      | true => exact absurd (h1.1 rfl) hk
    refine cw_seq ?_
    refine cw_block ?_
    refine cw_seq ?_
    refine cw_region ?_
    refine ow_val rfl rfl (v_move rfl) ?_
    refine ow_val rfl rfl (v_not_false rfl) ?_
    refine ow_val rfl rfl (v_assign rfl) ?_
    refine ow_nil ?_
    refine xw_then ?_
    refine cw_true rfl ?_
    refine cw_seq ?_
    refine cw_region ?_
    refine ow_val rfl rfl (v_assign rfl) ?_
    refine ow_nil ?_
    refine xw_then ?_
    refine cw_ret ?_
    refine xw_block_ret ?_
    refine xw_then_ret ?_
    refine ret1 rfl (res_tmp rfl) ?_
    exact ⟨by rw [EvM.chk, if_pos hk], (by first | exact Cov.refl _ | (intro p; simp only [List.flatten_cons, List.flatten_nil, List.flatten_append, List.append_nil, List.nil_append, cnt_append, cnt_cons, cnt_nil, List.set_cons_zero, List.set_cons_succ, List.length_nil, List.length_cons, Nat.zero_add, List.append]; omega))⟩
end Go.Proofs.Ytckdhelnafjddaa
