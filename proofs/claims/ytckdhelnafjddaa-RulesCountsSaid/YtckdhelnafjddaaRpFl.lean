/- Replay in memory: what is on its way. Conditions: numbers fit their types. -/
import Derived.Test.YtckdhelnafjddaaRpH
namespace Go.Proofs.Ytckdhelnafjddaa
open Go Go.Sl Go.Proofs Go.RowKit Go.ChangeShapes Go.WideShapes Go.ChangeAt
set_option maxRecDepth 20000
set_option linter.unusedVariables false
set_option linter.unusedSimpArgs false

theorem v_indexAgg {P : Program} {S : World → Prop} {N : Nat} {E : Env} {ty T : TypeId} {x y : Operand} {k : IntKind} {n : Int} {len e size i : Nat} {cs vs : List Value} (hT : P.underlying T = some (.array len e)) (he : Agg P e size) (hx : Env.ev E x = some (.agg cs.toArray)) (hy : Env.ev E y = some (.int k n)) (hi : n = (i : Int)) (hlt : i < len) (hv : (cs.drop (i * size)).take size = vs) :
    OpV P S N E (.index T x y) ty (.agg vs.toArray) := fun a w ha _ => by
  subst hi hv
  have h1 : (0 : Int) ≤ (i : Int) ∧ (i : Int) < (len : Int) := by omega
  have h2 := Go.Sl.run_sizeOf he.size w
  have h3 := he.agg w
  simp [execOp, ha.ev hx, ha.ev hy, Instr.index, asIntOf, run_underlying hT, h1, hlt, h2, part, h3, Oper.quietUpon]
def fl (l : List PkM) (v : Int) : Int := l.foldl (fun v p => if p.fl = true then IntKind.wrap .u64 (v + p.size) else v) v
theorem fl_succ {l : List PkM} {v : Int} {j : Nat} (h : j < l.length) : fl (l.take (j + 1)) v = if l[j].fl = true then IntKind.wrap .u64 (fl (l.take j) v + l[j].size) else fl (l.take j) v := by
  unfold fl
  rw [List.take_succ_eq_append_getElem h, List.foldl_append]
  rfl
def StM.flight (s : StM) : Int := fl s.s2.sent (fl s.s1.sent (fl s.s0.sent 0))
def flTo (s : StM) (i : Nat) : Int := match i with
  | 0 => 0
  | 1 => fl s.s0.sent 0
  | 2 => fl s.s1.sent (fl s.s0.sent 0)
  | _ => s.flight
theorem flTo_succ {s : StM} {i : Nat} (h : i < 3) : flTo s (i + 1) = fl (s.sp i).sent (flTo s i) := by
  have h3 : i = 0 ∨ i = 1 ∨ i = 2 := by omega
  rcases h3 with rfl | rfl | rfl <;> rfl
theorem get_sps {s : StM} {p : StP} {T : TypeId} {fr : Nat × Nat} : GetN (.cells (s.cells p).toArray T fr) 1 (s.s0.cells p.p0 ++ (s.s1.cells p.p1 ++ s.s2.cells p.p2)) := by
  have h : s.cells p = [.int .u64 s.ph] ++ ((s.s0.cells p.p0 ++ (s.s1.cells p.p1 ++ s.s2.cells p.p2)) ++ (s.mt.map (Value.int .u64) ++ s.tail p)) := by simp [StM.cells]
  rw [h]
  exact GetN.part rfl
theorem sps_part {s : StM} {p : StP} {i : Nat} (h : i < 3) : ((s.s0.cells p.p0 ++ (s.s1.cells p.p1 ++ s.s2.cells p.p2)).drop (i * 5)).take 5 = (s.sp i).cells (p.sp i) := by
  have h3 : i = 0 ∨ i = 1 ∨ i = 2 := by omega
  rcases h3 with rfl | rfl | rfl <;> rfl
set_option maxHeartbeats 4000000 in
theorem flight_c {B : Nat} {w0 : World} {G : List Hp} {s : StM} {p : StP} {D : Hp} (hD : StDeep s p D) (hs : Sub D G) (hw : s.WF) (hz : s.Sz 1000000) :
    Go.Sl.Fn Try.prog 51 #[.agg (s.cells p).toArray] B w0 G fun u G' => u = .int .u64 s.flight ∧ G' = G := by
  refine Fn.pure ?_
  obtain ⟨a0, b0, a1, b1, a2, b2, k1, k2, k3, k4, k5, rfl, hd⟩ := hD
  have vv := fun i (hi : i < 3) => hd.vw (B := B) (w0 := w0) hs hi
  have hcl : (s.cells p).length = 37 := StM.cells_len hw
  have hco : ∀ u ∈ s.cells p, u.oneCell' = true := StM.cells_one
  have hl15 : (s.s0.cells p.p0 ++ (s.s1.cells p.p1 ++ s.s2.cells p.p2)).length = 15 := rfl
  refine fn_enter Try.func51 rfl (by kernel_rfl) Try.ntmps51 (by simp) ?_
  refine cw_seq ?_
  refine cw_region ?_
  (refine ow_box rfl rfl rfl rfl ?_; intro b1)
  refine ow_val rfl rfl (v_assign rfl) ?_
  refine ow_nil ?_
  refine xw_then ?_
  refine cw_seq ?_
  refine cw_region ?_
  refine ow_val rfl rfl (v_assign rfl) ?_
  refine ow_nil ?_
  refine xw_then ?_
  refine cw_seq ?_
  refine cw_seq ?_
  refine cw_region ?_
  refine ow_val rfl rfl (v_fieldAddr0 Ty.fd75_1 rfl) ?_
  refine ow_val rfl rfl (v_load rfl (Var.atN Ty.ag67 .here (get_sps) (by first | rfl | assumption))) ?_
  refine ow_val rfl rfl (v_move rfl) ?_
  refine ow_nil ?_
  refine xw_then ?_
  refine cw_block ?_
  refine cw_loop2 (ι := (Nat)) [(2, _), (9, _)] ⟨rfl, rfl, trivial⟩ ((fun i => [(10, .int .i64 i), (3, .int .u64 (flTo s i))])) ((fun i => i ≤ 3)) ((fun i => 3 - i)) ((fun _ => [(b1, .cells (s.cells p).toArray 75 (0, 0))] :: G)) (0) (by repeat (first | exact True.intro | refine And.intro rfl ?_)) (by first | exact Cov.refl _ | (intro p; simp only [List.flatten_cons, List.flatten_nil, List.flatten_append, List.append_nil, List.nil_append, cnt_append, cnt_cons, cnt_nil, List.set_cons_zero, List.set_cons_succ, List.length_nil, List.length_cons, Nat.zero_add, List.append]; omega)) ?_ ?_
  · exact Nat.zero_le _
  rintro i hi
  refine cw_seq ?_
  refine cw_region ?_
  refine ow_val rfl rfl (v_lss rfl rfl) ?_
  refine ow_nil ?_
  refine xw_then ?_
  refine cw_seq ?_
  refine cw_dec rfl (fun hc11 => ?_) (fun hc11 => ?_)
  refine cw_skip ?_
  refine xw_then ?_
  rotate_left
  refine cw_exit ?_
  refine xw_then_exit ?_
  refine xw_round_exit ?_
  refine xw_block_exit ?_
  refine xw_then ?_
  rotate_left
  · have hi3 : i < 3 := by omega
    have hso : ∀ u ∈ (s.sp i).cells (p.sp i), u.oneCell' = true := SpM.cells_one
    have hsl : ((s.sp i).cells (p.sp i)).length = 5 := rfl
    have hv := (vv i hi3).1
    have hzl : (s.sp i).sent.length ≤ 1000000 := hz.sp i
    refine cw_seq ?_
    refine cw_block ?_
    refine cw_seq ?_
    refine cw_region ?_
    refine ow_val rfl rfl (v_indexAgg Try.underlying67 Ty.ag66 rfl rfl rfl hi3 (sps_part hi3)) ?_
    (refine ow_alloc rfl rfl Ty.ze66 ?_; intro b5)
    refine ow_storeN rfl rfl rfl Ty.ag66 (by first | rfl | assumption) (by first | assumption | simp) .here ((SetN.all hsl)) ?_
    refine ow_nil ?_
    refine xw_then ?_
    refine cw_seq ?_
    refine cw_region ?_
    refine ow_val rfl rfl (v_fieldAddr0 Ty.fd66_1 rfl) ?_
    refine ow_val rfl rfl (v_load rfl (Var.at1 Ty.sc64 .here (GetN.lit rfl))) ?_
    refine ow_val rfl rfl (v_len rfl Try.underlying64 rfl) ?_
    refine ow_val rfl rfl (v_move rfl) ?_
    refine ow_nil ?_
    refine xw_then ?_
    refine cw_block ?_
    refine cw_loop2 (ι := (Nat)) [(2, _), (9, _), (10, _), (14, _), (15, _)] ⟨rfl, rfl, rfl, rfl, rfl, trivial⟩ ((fun j => [(16, .int .i64 j), (3, .int .u64 (fl ((s.sp i).sent.take j) (flTo s i)))])) ((fun j => j ≤ (s.sp i).sent.length)) ((fun j => (s.sp i).sent.length - j)) ((fun _ => [(b5, .cells ((s.sp i).cells (p.sp i)).toArray 66 (0, 0))] :: [(b1, .cells (s.cells p).toArray 75 (0, 0))] :: G)) (0) (by repeat (first | exact True.intro | refine And.intro rfl ?_)) (by first | exact Cov.refl _ | (intro p; simp only [List.flatten_cons, List.flatten_nil, List.flatten_append, List.append_nil, List.nil_append, cnt_append, cnt_cons, cnt_nil, List.set_cons_zero, List.set_cons_succ, List.length_nil, List.length_cons, Nat.zero_add, List.append]; omega)) ?_ ?_
    · exact Nat.zero_le _
    rintro j hj
    refine cw_seq ?_
    refine cw_region ?_
    refine ow_val rfl rfl (v_lss rfl rfl) ?_
    refine ow_nil ?_
    refine xw_then ?_
    refine cw_seq ?_
    refine cw_dec rfl (fun hc17 => ?_) (fun hc17 => ?_)
    refine cw_skip ?_
    refine xw_then ?_
    rotate_left
    refine cw_exit ?_
    refine xw_then_exit ?_
    refine xw_round_exit ?_
    refine xw_block_exit ?_
    refine xw_block ?_
    refine xw_then ?_
    refine cw_region ?_
    refine ow_val rfl rfl (v_add rfl rfl (nw_i64 (by omega) (by omega))) ?_
    refine ow_val rfl rfl (v_move rfl) ?_
    refine ow_nil ?_
    rotate_left
    · have hj2 : j < (s.sp i).sent.length := by omega
      have hokj := hv.ok _ (List.getElem_mem hj2)
      have hso2 : ∀ u ∈ (s.sp i).sent[j].cells, u.oneCell' = true := fun u hu => by
        simp only [PkM.cells, List.mem_cons, List.not_mem_nil, or_false] at hu
        rcases hu with rfl | rfl | rfl | rfl <;> rfl
      have hsl2 : (s.sp i).sent[j].cells.length = 4 := rfl
      refine cw_seq ?_
      refine cw_block ?_
      refine cw_seq ?_
      refine cw_region ?_
      refine ow_val rfl rfl (v_indexAddr_vw Try.underlying64 (pkTy) rfl rfl (by assumption) rfl (by omega)) ?_
      refine ow_val rfl rfl (v_load rfl (Go.Sl.Vw.var (pkTy) (hv.cov (by first | exact Cov.refl _ | (intro p; simp only [List.flatten_cons, List.flatten_nil, List.flatten_append, List.append_nil, List.nil_append, cnt_append, cnt_cons, cnt_nil, List.set_cons_zero, List.set_cons_succ, List.length_nil, List.length_cons, Nat.zero_add, List.append]; omega))) (by omega))) ?_
      (refine ow_alloc rfl rfl Ty.ze120 ?_; intro b7)
      refine ow_storeE rfl (pkTy) rfl rfl .here (by first | rfl | assumption) (by assumption) ?_
      refine ow_nil ?_
      refine xw_then ?_
      refine cw_seq ?_
      refine cw_region ?_
      refine ow_val rfl rfl (v_fieldAddr0 Ty.fd120_3 rfl) ?_
      refine ow_val rfl rfl (v_load rfl (Var.at1 Ty.sc4 .here (GetN.lit rfl))) ?_
      refine ow_nil ?_
      refine xw_then ?_
      refine cw_bool rfl (fun hc21 => ?_) (fun hc21 => ?_)
      refine cw_region ?_
      refine ow_val rfl rfl (v_move rfl) ?_
      refine ow_val rfl rfl (v_fieldAddr0 Ty.fd120_1 rfl) ?_
      refine ow_val rfl rfl (v_load rfl (Var.at1 Ty.sc22 .here (GetN.lit rfl))) ?_
      refine ow_val rfl rfl (v_add rfl rfl rfl) ?_
      refine ow_val rfl rfl (v_assign rfl) ?_
      refine ow_nil ?_
      refine xw_block ?_
      refine xw_then ?_
      refine cw_region ?_
      refine ow_val rfl rfl (v_add rfl rfl (nw_i64 (by omega) (by omega))) ?_
      refine ow_val rfl rfl (v_move rfl) ?_
      refine ow_nil ?_
      rotate_left
      refine cw_skip ?_
      refine xw_block ?_
      refine xw_then ?_
      refine cw_region ?_
      refine ow_val rfl rfl (v_add rfl rfl (nw_i64 (by omega) (by omega))) ?_
      refine ow_val rfl rfl (v_move rfl) ?_
      refine ow_nil ?_
      rotate_left
      · have e := fl_succ (v := flTo s i) hj2
        rw [if_pos hc21] at e
        exact xw_round (j + 1) (by omega) (by omega) (by first | exact Cov.refl _ | (intro p; simp only [List.flatten_cons, List.flatten_nil, List.flatten_append, List.append_nil, List.nil_append, cnt_append, cnt_cons, cnt_nil, List.set_cons_zero, List.set_cons_succ, List.length_nil, List.length_cons, Nat.zero_add, List.append]; omega)) (by rw [e]; exact (by repeat (first | exact True.intro | refine And.intro rfl ?_)))
      · have e := fl_succ (v := flTo s i) hj2
        rw [if_neg (by rw [hc21]; decide)] at e
        exact xw_round (j + 1) (by omega) (by omega) (by first | exact Cov.refl _ | (intro p; simp only [List.flatten_cons, List.flatten_nil, List.flatten_append, List.append_nil, List.nil_append, cnt_append, cnt_cons, cnt_nil, List.set_cons_zero, List.set_cons_succ, List.length_nil, List.length_cons, Nat.zero_add, List.append]; omega)) (by rw [e]; exact (by repeat (first | exact True.intro | refine And.intro rfl ?_)))
    · have hj2 : j = (s.sp i).sent.length := by omega
      subst hj2
      have e := flTo_succ (s := s) hi3
      rw [List.take_length]
      exact xw_round (i + 1) (by omega) (by omega) (by first | exact Cov.refl _ | (intro p; simp only [List.flatten_cons, List.flatten_nil, List.flatten_append, List.append_nil, List.nil_append, cnt_append, cnt_cons, cnt_nil, List.set_cons_zero, List.set_cons_succ, List.length_nil, List.length_cons, Nat.zero_add, List.append]; omega)) (by rw [e]; exact (by repeat (first | exact True.intro | refine And.intro rfl ?_)))
  · have hi2 : i = 3 := by omega
    subst hi2
    refine cw_seq ?_
    refine cw_region ?_
    refine ow_val rfl rfl (v_move rfl) ?_
    refine ow_val rfl rfl (v_assign rfl) ?_
    refine ow_nil ?_
    refine xw_then ?_
    refine cw_ret ?_
    refine ret1 rfl (res_tmp rfl) ?_
    exact ⟨rfl, (by first | exact Cov.refl _ | (intro p; simp only [List.flatten_cons, List.flatten_nil, List.flatten_append, List.append_nil, List.nil_append, cnt_append, cnt_cons, cnt_nil, List.set_cons_zero, List.set_cons_succ, List.length_nil, List.length_cons, Nat.zero_add, List.append]; omega))⟩

theorem runAll_wf {s : StM} {l : List EvM} (hw : s.WF) (he : ∀ e ∈ l, e.ok) : (runAll s l).1.WF := by
  induction l generalizing s with
  | nil => exact hw
  | cons e l ih =>
    rw [runAll]
    split
    · exact hw
    · exact ih (StM.step_wf hw (he e (List.mem_cons_self ..))) fun x hx => he x (List.mem_cons_of_mem _ hx)
theorem runAll_sz {s : StM} {l : List EvM} {n : Nat} (hz : s.Sz n) : (runAll s l).1.Sz (n + l.length) := by
  induction l generalizing s n with
  | nil => exact hz
  | cons e l ih =>
    rw [runAll]
    split
    · exact hz.mono (Nat.le_add_right ..)
    · have h := ih (StM.step_sz (e := e) hz)
      rw [List.length_cons]
      exact h.mono (by omega)
theorem b_ev {k : Int} {ao : Option Addr} {n cap : Nat} : Build Try.prog 62 #[(0, .int .u8 k), (2, .slice ao n cap)] (.agg #[.int .u8 k, .int .u64 0, .slice ao n cap, .slice none 0 0]) := fun w => by kernel_rfl
end Go.Proofs.Ytckdhelnafjddaa
