/- Replay in memory: what is on its way, the law's fixed fact, events in old memory. Conditions: numbers fit their types. -/
import Derived.Test.YtckdhelnafjddaaRpH
import Derived.Test.YtckdhelnafjddaaRpF
import Derived.Test.YtckdhelnafjddaaForm
namespace Go.Proofs.Ytckdhelnafjddaa
open Go Go.Sl Go.Proofs Go.RowKit Go.ChangeShapes Go.WideShapes Go.ChangeAt
set_option maxRecDepth 20000
set_option linter.unusedVariables false
set_option linter.unusedSimpArgs false

theorem v_indexAgg {P : Program} {S : World → Prop} {N : Nat} {E : Env} {ty T : TypeId} {x y : Operand} {k : IntKind} {n : Int} {len e size i : Nat} {cs vs : List Value} (hT : P.underlying T = some (.array len e)) (he : Agg P e size) (hx : Env.ev E x = some (.agg cs.toArray)) (hy : Env.ev E y = some (.int k n)) (hi : n = (i : Int)) (hlt : i < len) (hv : (cs.drop (i * size)).take size = vs) :
    OpV P S N E (.index T x y) ty (.agg vs.toArray) := fun a w ha _ => by
  subst hi hv
  have h1 : (0 : Int) ≤ (i : Int) ∧ (i : Int) < (len : Int) := by omega
  have h2 := Go.Sl.run_sizeOf he.size w
  have h3 := he.agg w
  simp [execOp, ha.ev hx, ha.ev hy, Instr.index, asIntOf, run_underlying hT, h1, hlt, h2, part, h3, Oper.quietUpon]
def fl (l : List PkM) (v : Int) : Int := l.foldl (fun v p => if p.fl = true then IntKind.wrap .u64 (v + p.size) else v) v
theorem fl_succ {l : List PkM} {v : Int} {j : Nat} (h : j < l.length) : fl (l.take (j + 1)) v = if l[j].fl = true then IntKind.wrap .u64 (fl (l.take j) v + l[j].size) else fl (l.take j) v := by
  unfold fl
  rw [List.take_succ_eq_append_getElem h, List.foldl_append]
  rfl
def StM.flight (s : StM) : Int := fl s.s2.sent (fl s.s1.sent (fl s.s0.sent 0))
def flTo (s : StM) (i : Nat) : Int := match i with
  | 0 => 0
  | 1 => fl s.s0.sent 0
  | 2 => fl s.s1.sent (fl s.s0.sent 0)
  | _ => s.flight
theorem flTo_succ {s : StM} {i : Nat} (h : i < 3) : flTo s (i + 1) = fl (s.sp i).sent (flTo s i) := by
  have h3 : i = 0 ∨ i = 1 ∨ i = 2 := by omega
  rcases h3 with rfl | rfl | rfl <;> rfl
theorem get_sps {s : StM} {p : StP} {T : TypeId} {fr : Nat × Nat} : GetN (.cells (s.cells p).toArray T fr) 1 (s.s0.cells p.p0 ++ (s.s1.cells p.p1 ++ s.s2.cells p.p2)) := by
  have h : s.cells p = [.int .u64 s.ph] ++ ((s.s0.cells p.p0 ++ (s.s1.cells p.p1 ++ s.s2.cells p.p2)) ++ (s.mt.map (Value.int .u64) ++ s.tail p)) := by simp [StM.cells]
  rw [h]
  exact GetN.part rfl
theorem sps_part {s : StM} {p : StP} {i : Nat} (h : i < 3) : ((s.s0.cells p.p0 ++ (s.s1.cells p.p1 ++ s.s2.cells p.p2)).drop (i * 5)).take 5 = (s.sp i).cells (p.sp i) := by
  have h3 : i = 0 ∨ i = 1 ∨ i = 2 := by omega
  rcases h3 with rfl | rfl | rfl <;> rfl
set_option maxHeartbeats 4000000 in
theorem flight_c {B : Nat} {w0 : World} {G : List Hp} {s : StM} {p : StP} {D : Hp} (hD : StDeep s p D) (hs : Sub D G) (hw : s.WF) (hz : s.Sz 1000000) :
    Go.Sl.Fn Try.prog 51 #[.agg (s.cells p).toArray] B w0 G fun u G' => u = .int .u64 s.flight ∧ G' = G := by
  refine Fn.pure ?_
  obtain ⟨a0, b0, a1, b1, a2, b2, k1, k2, k3, k4, k5, rfl, hd⟩ := hD
  have vv := fun i (hi : i < 3) => hd.vw (B := B) (w0 := w0) hs hi
  have hcl : (s.cells p).length = 37 := StM.cells_len hw
  have hco : ∀ u ∈ s.cells p, u.oneCell' = true := StM.cells_one
  have hl15 : (s.s0.cells p.p0 ++ (s.s1.cells p.p1 ++ s.s2.cells p.p2)).length = 15 := rfl
  refine fn_enter Try.func51 rfl (by kernel_rfl) Try.ntmps51 (by simp) ?_
  refine Go.Sl.cw_seq ?_
  refine Go.Sl.cw_region ?_
  (refine Go.Sl.ow_box rfl rfl rfl rfl ?_; intro b1)
  refine Go.Sl.ow_val rfl rfl (Go.Sl.v_assign rfl) ?_
  refine Go.Sl.ow_nil ?_
  refine Go.Sl.xw_then ?_
  refine Go.Sl.cw_seq ?_
  refine Go.Sl.cw_region ?_
  refine Go.Sl.ow_val rfl rfl (Go.Sl.v_assign rfl) ?_
  refine Go.Sl.ow_nil ?_
  refine Go.Sl.xw_then ?_
  refine Go.Sl.cw_seq ?_
  refine Go.Sl.cw_seq ?_
  refine Go.Sl.cw_region ?_
  refine Go.Sl.ow_val rfl rfl (Go.Sl.v_fieldAddr0 Ty.fd75_1 rfl) ?_
  refine Go.Sl.ow_val rfl rfl (Go.Sl.v_load rfl (Go.Sl.Var.atN Ty.ag67 .here (get_sps) (by first | rfl | assumption))) ?_
  refine Go.Sl.ow_val rfl rfl (Go.Sl.v_move rfl) ?_
  refine Go.Sl.ow_nil ?_
  refine Go.Sl.xw_then ?_
  refine Go.Sl.cw_block ?_
  refine Go.Sl.cw_loop2 (ι := (Nat)) [(2, _), (9, _)] ⟨rfl, rfl, trivial⟩ ((fun i => [(10, .int .i64 i), (3, .int .u64 (flTo s i))])) ((fun i => i ≤ 3)) ((fun i => 3 - i)) ((fun _ => [(b1, .cells (s.cells p).toArray 75 (0, 0))] :: G)) (0) (by repeat (first | exact True.intro | refine And.intro rfl ?_)) (by first | exact Go.Sl.Cov.refl _ | (intro p; simp only [List.flatten_cons, List.flatten_nil, List.flatten_append, List.append_nil, List.nil_append, Go.Sl.cnt_append, Go.Sl.cnt_cons, Go.Sl.cnt_nil, List.set_cons_zero, List.set_cons_succ, List.length_nil, List.length_cons, Nat.zero_add, List.append]; omega)) ?_ ?_
  · exact Nat.zero_le _
  rintro i hi
  refine Go.Sl.cw_seq ?_
  refine Go.Sl.cw_region ?_
  refine Go.Sl.ow_val rfl rfl (Go.Sl.v_lss rfl rfl) ?_
  refine Go.Sl.ow_nil ?_
  refine Go.Sl.xw_then ?_
  refine Go.Sl.cw_seq ?_
  refine Go.Sl.cw_dec rfl (fun hc11 => ?_) (fun hc11 => ?_)
  refine Go.Sl.cw_skip ?_
  refine Go.Sl.xw_then ?_
  rotate_left
  refine Go.Sl.cw_exit ?_
  refine Go.Sl.xw_then_exit ?_
  refine Go.Sl.xw_round_exit ?_
  refine Go.Sl.xw_block_exit ?_
  refine Go.Sl.xw_then ?_
  rotate_left
  · have hi3 : i < 3 := by omega
    have hso : ∀ u ∈ (s.sp i).cells (p.sp i), u.oneCell' = true := SpM.cells_one
    have hsl : ((s.sp i).cells (p.sp i)).length = 5 := rfl
    have hv := (vv i hi3).1
    have hzl : (s.sp i).sent.length ≤ 1000000 := hz.sp i
    refine Go.Sl.cw_seq ?_
    refine Go.Sl.cw_block ?_
    refine Go.Sl.cw_seq ?_
    refine Go.Sl.cw_region ?_
    refine ow_val rfl rfl (v_indexAgg Try.underlying67 Ty.ag66 rfl rfl rfl hi3 (sps_part hi3)) ?_
    (refine Go.Sl.ow_alloc rfl rfl Ty.ze66 ?_; intro b5)
    refine Go.Sl.ow_storeN rfl rfl rfl Ty.ag66 (by first | rfl | assumption) (by first | assumption | simp) .here ((SetN.all hsl)) ?_
    refine Go.Sl.ow_nil ?_
    refine Go.Sl.xw_then ?_
    refine Go.Sl.cw_seq ?_
    refine Go.Sl.cw_region ?_
    refine Go.Sl.ow_val rfl rfl (Go.Sl.v_fieldAddr0 Ty.fd66_1 rfl) ?_
    refine Go.Sl.ow_val rfl rfl (Go.Sl.v_load rfl (Go.Sl.Var.at1 Ty.sc64 .here (Go.Sl.GetN.lit rfl))) ?_
    refine Go.Sl.ow_val rfl rfl (Go.Sl.v_len rfl Try.underlying64 rfl) ?_
    refine Go.Sl.ow_val rfl rfl (Go.Sl.v_move rfl) ?_
    refine Go.Sl.ow_nil ?_
    refine Go.Sl.xw_then ?_
    refine Go.Sl.cw_block ?_
    refine Go.Sl.cw_loop2 (ι := (Nat)) [(2, _), (9, _), (10, _), (14, _), (15, _)] ⟨rfl, rfl, rfl, rfl, rfl, trivial⟩ ((fun j => [(16, .int .i64 j), (3, .int .u64 (fl ((s.sp i).sent.take j) (flTo s i)))])) ((fun j => j ≤ (s.sp i).sent.length)) ((fun j => (s.sp i).sent.length - j)) ((fun _ => [(b5, .cells ((s.sp i).cells (p.sp i)).toArray 66 (0, 0))] :: [(b1, .cells (s.cells p).toArray 75 (0, 0))] :: G)) (0) (by repeat (first | exact True.intro | refine And.intro rfl ?_)) (by first | exact Go.Sl.Cov.refl _ | (intro p; simp only [List.flatten_cons, List.flatten_nil, List.flatten_append, List.append_nil, List.nil_append, Go.Sl.cnt_append, Go.Sl.cnt_cons, Go.Sl.cnt_nil, List.set_cons_zero, List.set_cons_succ, List.length_nil, List.length_cons, Nat.zero_add, List.append]; omega)) ?_ ?_
    · exact Nat.zero_le _
    rintro j hj
    refine Go.Sl.cw_seq ?_
    refine Go.Sl.cw_region ?_
    refine Go.Sl.ow_val rfl rfl (Go.Sl.v_lss rfl rfl) ?_
    refine Go.Sl.ow_nil ?_
    refine Go.Sl.xw_then ?_
    refine Go.Sl.cw_seq ?_
    refine Go.Sl.cw_dec rfl (fun hc17 => ?_) (fun hc17 => ?_)
    refine Go.Sl.cw_skip ?_
    refine Go.Sl.xw_then ?_
    rotate_left
    refine Go.Sl.cw_exit ?_
    refine Go.Sl.xw_then_exit ?_
    refine Go.Sl.xw_round_exit ?_
    refine Go.Sl.xw_block_exit ?_
    refine Go.Sl.xw_block ?_
    refine Go.Sl.xw_then ?_
    refine Go.Sl.cw_region ?_
    refine Go.Sl.ow_val rfl rfl (Go.Sl.v_add rfl rfl (Go.Sl.nw_i64 (by omega) (by omega))) ?_
    refine Go.Sl.ow_val rfl rfl (Go.Sl.v_move rfl) ?_
    refine Go.Sl.ow_nil ?_
    rotate_left
    · have hj2 : j < (s.sp i).sent.length := by omega
      have hokj := hv.ok _ (List.getElem_mem hj2)
      have hso2 : ∀ u ∈ (s.sp i).sent[j].cells, u.oneCell' = true := fun u hu => by
        simp only [PkM.cells, List.mem_cons, List.not_mem_nil, or_false] at hu
        rcases hu with rfl | rfl | rfl | rfl <;> rfl
      have hsl2 : (s.sp i).sent[j].cells.length = 4 := rfl
      refine Go.Sl.cw_seq ?_
      refine Go.Sl.cw_block ?_
      refine Go.Sl.cw_seq ?_
      refine Go.Sl.cw_region ?_
      refine Go.Sl.ow_val rfl rfl (Go.Sl.v_indexAddr_vw Try.underlying64 (pkTy) rfl rfl (by assumption) rfl (by omega)) ?_
      refine Go.Sl.ow_val rfl rfl (Go.Sl.v_load rfl (Go.Sl.Vw.var (pkTy) (hv.cov (by first | exact Go.Sl.Cov.refl _ | (intro p; simp only [List.flatten_cons, List.flatten_nil, List.flatten_append, List.append_nil, List.nil_append, Go.Sl.cnt_append, Go.Sl.cnt_cons, Go.Sl.cnt_nil, List.set_cons_zero, List.set_cons_succ, List.length_nil, List.length_cons, Nat.zero_add, List.append]; omega))) (by omega))) ?_
      (refine Go.Sl.ow_alloc rfl rfl Ty.ze120 ?_; intro b7)
      refine Go.Sl.ow_storeE rfl (pkTy) rfl rfl .here (by first | rfl | assumption) (by assumption) ?_
      refine Go.Sl.ow_nil ?_
      refine Go.Sl.xw_then ?_
      refine Go.Sl.cw_seq ?_
      refine Go.Sl.cw_region ?_
      refine Go.Sl.ow_val rfl rfl (Go.Sl.v_fieldAddr0 Ty.fd120_3 rfl) ?_
      refine Go.Sl.ow_val rfl rfl (Go.Sl.v_load rfl (Go.Sl.Var.at1 Ty.sc4 .here (Go.Sl.GetN.lit rfl))) ?_
      refine Go.Sl.ow_nil ?_
      refine Go.Sl.xw_then ?_
      refine Go.Sl.cw_bool rfl (fun hc21 => ?_) (fun hc21 => ?_)
      refine Go.Sl.cw_region ?_
      refine Go.Sl.ow_val rfl rfl (Go.Sl.v_move rfl) ?_
      refine Go.Sl.ow_val rfl rfl (Go.Sl.v_fieldAddr0 Ty.fd120_1 rfl) ?_
      refine Go.Sl.ow_val rfl rfl (Go.Sl.v_load rfl (Go.Sl.Var.at1 Ty.sc22 .here (Go.Sl.GetN.lit rfl))) ?_
      refine Go.Sl.ow_val rfl rfl (Go.Sl.v_add rfl rfl rfl) ?_
      refine Go.Sl.ow_val rfl rfl (Go.Sl.v_assign rfl) ?_
      refine Go.Sl.ow_nil ?_
      refine Go.Sl.xw_block ?_
      refine Go.Sl.xw_then ?_
      refine Go.Sl.cw_region ?_
      refine Go.Sl.ow_val rfl rfl (Go.Sl.v_add rfl rfl (Go.Sl.nw_i64 (by omega) (by omega))) ?_
      refine Go.Sl.ow_val rfl rfl (Go.Sl.v_move rfl) ?_
      refine Go.Sl.ow_nil ?_
      rotate_left
      refine Go.Sl.cw_skip ?_
      refine Go.Sl.xw_block ?_
      refine Go.Sl.xw_then ?_
      refine Go.Sl.cw_region ?_
      refine Go.Sl.ow_val rfl rfl (Go.Sl.v_add rfl rfl (Go.Sl.nw_i64 (by omega) (by omega))) ?_
      refine Go.Sl.ow_val rfl rfl (Go.Sl.v_move rfl) ?_
      refine Go.Sl.ow_nil ?_
      rotate_left
      · have e := fl_succ (v := flTo s i) hj2
        rw [if_pos hc21] at e
        exact xw_round (j + 1) (by omega) (by omega) (by first | exact Go.Sl.Cov.refl _ | (intro p; simp only [List.flatten_cons, List.flatten_nil, List.flatten_append, List.append_nil, List.nil_append, Go.Sl.cnt_append, Go.Sl.cnt_cons, Go.Sl.cnt_nil, List.set_cons_zero, List.set_cons_succ, List.length_nil, List.length_cons, Nat.zero_add, List.append]; omega)) (by rw [e]; exact (by repeat (first | exact True.intro | refine And.intro rfl ?_)))
      · have e := fl_succ (v := flTo s i) hj2
        rw [if_neg (by rw [hc21]; decide)] at e
        exact xw_round (j + 1) (by omega) (by omega) (by first | exact Go.Sl.Cov.refl _ | (intro p; simp only [List.flatten_cons, List.flatten_nil, List.flatten_append, List.append_nil, List.nil_append, Go.Sl.cnt_append, Go.Sl.cnt_cons, Go.Sl.cnt_nil, List.set_cons_zero, List.set_cons_succ, List.length_nil, List.length_cons, Nat.zero_add, List.append]; omega)) (by rw [e]; exact (by repeat (first | exact True.intro | refine And.intro rfl ?_)))
    · have hj2 : j = (s.sp i).sent.length := by omega
      subst hj2
      have e := flTo_succ (s := s) hi3
      rw [List.take_length]
      exact xw_round (i + 1) (by omega) (by omega) (by first | exact Go.Sl.Cov.refl _ | (intro p; simp only [List.flatten_cons, List.flatten_nil, List.flatten_append, List.append_nil, List.nil_append, Go.Sl.cnt_append, Go.Sl.cnt_cons, Go.Sl.cnt_nil, List.set_cons_zero, List.set_cons_succ, List.length_nil, List.length_cons, Nat.zero_add, List.append]; omega)) (by rw [e]; exact (by repeat (first | exact True.intro | refine And.intro rfl ?_)))
  · have hi2 : i = 3 := by omega
    subst hi2
    refine Go.Sl.cw_seq ?_
    refine Go.Sl.cw_region ?_
    refine Go.Sl.ow_val rfl rfl (Go.Sl.v_move rfl) ?_
    refine Go.Sl.ow_val rfl rfl (Go.Sl.v_assign rfl) ?_
    refine Go.Sl.ow_nil ?_
    refine Go.Sl.xw_then ?_
    refine Go.Sl.cw_ret ?_
    refine Go.Sl.ret1 rfl (Go.Sl.res_tmp rfl) ?_
    exact ⟨rfl, (by first | exact Go.Sl.Cov.refl _ | (intro p; simp only [List.flatten_cons, List.flatten_nil, List.flatten_append, List.append_nil, List.nil_append, Go.Sl.cnt_append, Go.Sl.cnt_cons, Go.Sl.cnt_nil, List.set_cons_zero, List.set_cons_succ, List.length_nil, List.length_cons, Nat.zero_add, List.append]; omega))⟩

/-! ### the law's fixed fact -/
def aw1 : EvM := ⟨2, 0, [0, 0, 100, 1, 1], []⟩
def aw2 : EvM := ⟨4, 0, [0, 0], []⟩
theorem aw_all : (runAll StM.zero [aw1, aw2]).2 = (2, 0) := by decide +kernel
theorem aw_flight : (runAll StM.zero [aw1, aw2]).1.flight = 0 := by decide +kernel
theorem aw_nx : (runAll StM.zero [aw1, aw2]).1.s0.nx = 1 := by decide +kernel
theorem aw_ev : (runAll StM.zero [aw1, aw2]).1.ev = 2 := by decide +kernel
theorem runAll_wf {s : StM} {l : List EvM} (hw : s.WF) (he : ∀ e ∈ l, e.ok) : (runAll s l).1.WF := by
  induction l generalizing s with
  | nil => exact hw
  | cons e l ih =>
    rw [runAll]
    split
    · exact hw
    · exact ih (StM.step_wf hw (he e (List.mem_cons_self ..))) fun x hx => he x (List.mem_cons_of_mem _ hx)
theorem runAll_sz {s : StM} {l : List EvM} {n : Nat} (hz : s.Sz n) : (runAll s l).1.Sz (n + l.length) := by
  induction l generalizing s n with
  | nil => exact hz
  | cons e l ih =>
    rw [runAll]
    split
    · exact hz.mono (Nat.le_add_right ..)
    · have h := ih (StM.step_sz (e := e) hz)
      rw [List.length_cons]
      exact h.mono (by omega)
theorem aw1_ok : aw1.ok := ⟨⟨by decide, by decide⟩, ⟨by decide, by decide⟩, by simp [aw1, inQ], by decide, by decide⟩
theorem aw2_ok : aw2.ok := ⟨⟨by decide, by decide⟩, ⟨by decide, by decide⟩, by simp [aw2, inQ], by decide, by decide⟩
theorem aw_wf : (runAll StM.zero [aw1, aw2]).1.WF := runAll_wf StM.zero_wf (List.forall_mem_cons.2 ⟨aw1_ok, List.forall_mem_cons.2 ⟨aw2_ok, List.forall_mem_nil _⟩⟩)
theorem aw_sz : (runAll StM.zero [aw1, aw2]).1.Sz 1000000 := (runAll_sz StM.zero_sz).mono (by decide)
theorem b_ev {k : Int} {ao : Option Addr} {n cap : Nat} : Build Try.prog 62 #[(0, .int .u8 k), (2, .slice ao n cap)] (.agg #[.int .u8 k, .int .u64 0, .slice ao n cap, .slice none 0 0]) := fun w => by kernel_rfl
theorem aw_st : ∃ s : StM, runAll StM.zero [aw1, aw2] = (s, 2, 0) ∧ s.flight = 0 ∧ s.s0.nx = 1 ∧ s.ev = 2 ∧ s.WF ∧ s.Sz 1000000 :=
  ⟨(runAll StM.zero [aw1, aw2]).1, Prod.ext rfl aw_all, aw_flight, aw_nx, aw_ev, aw_wf, aw_sz⟩
set_option maxHeartbeats 4000000 in
theorem awake28_c {B : Nat} {w0 : World} {G : List Hp} :
    Go.Sl.Fn Try.prog 25 #[] B w0 G fun u G' => u = .bool true ∧ G' = G := by
  refine Fn.pure ?_
  have k1 := aw1_ok
  have k2 := aw2_ok
  obtain ⟨s, hs, hf, hnx, hev, hwf, hsz⟩ := aw_st
  refine fn_enter Try.func25 rfl (by kernel_rfl) Try.ntmps25 (by simp) ?_
  refine Go.Sl.cw_seq ?_
  refine Go.Sl.cw_region ?_
  refine Go.Sl.ow_val rfl rfl (Go.Sl.v_assign rfl) ?_
  refine Go.Sl.ow_nil ?_
  refine Go.Sl.xw_then ?_
  refine Go.Sl.cw_seq ?_
  refine Go.Sl.cw_region ?_
  (refine Go.Sl.ow_buildL (es := ([0, 0, 100, 1, 1])) rfl rfl Try.underlying60 Ty.em60 (qTy) rfl rfl (by first | (simp [*]; done) | (repeat (first | exact List.forall_mem_nil _ | refine List.forall_mem_cons.2 ⟨?_, ?_⟩ | assumption | (show _ ∧ _; omega)))) (by simp only [List.length_cons, List.length_nil]; decide) ?_; intro ao5 c5 hL5)
  refine Go.Sl.ow_val rfl rfl (Go.Sl.v_build rfl (b_ev)) ?_
  (refine Go.Sl.ow_buildL (es := ([0, 0])) rfl rfl Try.underlying60 Ty.em60 (qTy) rfl rfl (by first | (simp [*]; done) | (repeat (first | exact List.forall_mem_nil _ | refine List.forall_mem_cons.2 ⟨?_, ?_⟩ | assumption | (show _ ∧ _; omega)))) (by simp only [List.length_cons, List.length_nil]; decide) ?_; intro ao7 c7 hL7)
  refine Go.Sl.ow_val rfl rfl (Go.Sl.v_build rfl (b_ev)) ?_
  (refine Go.Sl.ow_buildL (es := ([(⟨aw1, ⟨ao5, 5, none, 0⟩⟩ : EvE), ⟨aw2, ⟨ao7, 2, none, 0⟩⟩])) rfl rfl Try.underlying57 Ty.em57 (evTy) rfl rfl (by first | (simp [*]; done) | (repeat (first | exact List.forall_mem_nil _ | refine List.forall_mem_cons.2 ⟨?_, ?_⟩ | assumption | (show _ ∧ _; omega)))) (by simp only [List.length_cons, List.length_nil]; decide) ?_; intro ao9 c9 hL9)
  have hle : [(⟨aw1, ⟨ao5, 5, none, 0⟩⟩ : EvE), ⟨aw2, ⟨ao7, 2, none, 0⟩⟩].length ≤ 100000 := by show 2 ≤ 100000; decide
  have hDe : ∀ x ∈ [(⟨aw1, ⟨ao5, 5, none, 0⟩⟩ : EvE), ⟨aw2, ⟨ao7, 2, none, 0⟩⟩], EvDeep B w0 x.m x.p (c5 ++ c7) := List.forall_mem_cons.2 ⟨fun G h => ⟨hL5.vw h.left, Ls.nil.vw (e := 5) Sub.nil⟩, List.forall_mem_cons.2 ⟨fun G h => ⟨hL7.vw h.right, Ls.nil.vw (e := 5) Sub.nil⟩, List.forall_mem_nil _⟩⟩
  have hV := Go.Sl.Ls.vw (B := B) (w0 := w0) hL9 (Sub.here (G := c7 :: c5 :: G))
  have hA := stAll_c (es := [(⟨aw1, ⟨ao5, 5, none, 0⟩⟩ : EvE), ⟨aw2, ⟨ao7, 2, none, 0⟩⟩]) hV hle hDe (Sub.app (by repeat (first | exact Go.Sl.Sub.here | exact Go.Sl.Sub.nil | assumption | refine Go.Sl.Sub.there ?_)) (by repeat (first | exact Go.Sl.Sub.here | exact Go.Sl.Sub.nil | assumption | refine Go.Sl.Sub.there ?_)))
  rw [show ([(⟨aw1, ⟨ao5, 5, none, 0⟩⟩ : EvE), ⟨aw2, ⟨ao7, 2, none, 0⟩⟩].map (·.m)) = [aw1, aw2] from rfl, hs] at hA
  dsimp only at hA
  have hcl : ∀ p, (s.cells p).length = 37 := fun p => StM.cells_len hwf
  have hco : ∀ p, ∀ u ∈ s.cells p, u.oneCell' = true := fun p => StM.cells_one
  have hzl : zeroL.length = 37 := rfl
  (refine Go.Sl.ow_call rfl rfl rfl rfl (hA) ?_; rintro _ _ ⟨x10, rfl, hq10, rfl⟩)
  refine Go.Sl.ow_val rfl rfl (Go.Sl.v_move rfl) ?_
  refine Go.Sl.ow_val rfl rfl (Go.Sl.v_extract rfl rfl) ?_
  refine Go.Sl.ow_val rfl rfl (Go.Sl.v_extract rfl rfl) ?_
  refine Go.Sl.ow_val rfl rfl (Go.Sl.v_extract rfl rfl) ?_
  (refine Go.Sl.ow_alloc rfl rfl Ty.ze75 ?_; intro b1)
  obtain ⟨p10, D10⟩ := x10
  obtain ⟨hD10, hl10⟩ := hq10
  dsimp only at hD10 hl10 ⊢
  have g1 := hcl p10
  have g2 := hco p10
  refine Go.Sl.ow_storeN rfl rfl rfl Ty.ag75 (by first | rfl | assumption) (by first | assumption | simp) .here ((SetN.all (g1.trans hzl.symm))) ?_
  refine Go.Sl.ow_val rfl rfl (Go.Sl.v_assign rfl) ?_
  refine Go.Sl.ow_val rfl rfl (Go.Sl.v_assign rfl) ?_
  refine Go.Sl.ow_nil ?_
  refine Go.Sl.xw_then ?_
  refine Go.Sl.cw_seq ?_
  refine Go.Sl.cw_region ?_
  refine Go.Sl.ow_val rfl rfl (Go.Sl.v_move rfl) ?_
  refine Go.Sl.ow_val rfl rfl (Go.Sl.v_eql rfl rfl) ?_
  refine Go.Sl.ow_val rfl rfl (Go.Sl.v_move rfl) ?_
  refine Go.Sl.ow_dec 16 rfl (fun hc16 => ?_) (fun hc16 => ?_)
  rotate_left; (exfalso; omega); rotate_right
  refine Go.Sl.ow_val rfl rfl (Go.Sl.v_move rfl) ?_
  refine Go.Sl.ow_val rfl rfl (Go.Sl.v_eql rfl rfl) ?_
  refine Go.Sl.ow_val rfl rfl (Go.Sl.v_pick_true rfl rfl) ?_
  refine Go.Sl.ow_val rfl rfl (Go.Sl.v_move rfl) ?_
  refine Go.Sl.ow_dec 20 rfl (fun hc20 => ?_) (fun hc20 => ?_)
  rotate_left; (exfalso; omega); rotate_right
  refine Go.Sl.ow_val rfl rfl (Go.Sl.v_load rfl (Go.Sl.Var.atN Ty.ag75 .here Go.Sl.GetN.all (by first | rfl | assumption))) ?_
  refine Go.Sl.ow_val rfl rfl (Go.Sl.v_call rfl rfl (flight_c hD10 (by repeat (first | exact Go.Sl.Sub.here | exact Go.Sl.Sub.nil | assumption | refine Go.Sl.Sub.there ?_)) hwf hsz)) ?_
  refine Go.Sl.ow_val rfl rfl (Go.Sl.v_eql rfl rfl) ?_
  refine Go.Sl.ow_val rfl rfl (Go.Sl.v_pick_true rfl rfl) ?_
  refine Go.Sl.ow_val rfl rfl (Go.Sl.v_move rfl) ?_
  refine Go.Sl.ow_dec 25 rfl (fun hc25 => ?_) (fun hc25 => ?_)
  rotate_left; (exfalso; omega); rotate_right
  refine Go.Sl.ow_val rfl rfl (Go.Sl.v_fieldAddr0 Ty.fd75_1 rfl) ?_
  refine Go.Sl.ow_val rfl rfl (Go.Sl.v_indexAddrA (i := 0) Try.underlying67 Ty.el67 rfl rfl rfl (by omega)) ?_
  refine Go.Sl.ow_val rfl rfl (Go.Sl.v_fieldAddr Ty.fd66_0 rfl) ?_
  refine Go.Sl.ow_val rfl rfl (Go.Sl.v_load rfl (Go.Sl.Var.at1 Ty.sc22 .here (Go.Sl.GetN.lit rfl))) ?_
  refine Go.Sl.ow_val rfl rfl (Go.Sl.v_eql rfl rfl) ?_
  refine Go.Sl.ow_val rfl rfl (Go.Sl.v_pick_true rfl rfl) ?_
  refine Go.Sl.ow_val rfl rfl (Go.Sl.v_move rfl) ?_
  refine Go.Sl.ow_dec 32 rfl (fun hc32 => ?_) (fun hc32 => ?_)
  rotate_left; (exfalso; omega); rotate_right
  refine Go.Sl.ow_val rfl rfl (Go.Sl.v_fieldAddr0 Ty.fd75_13 rfl) ?_
  refine Go.Sl.ow_val rfl rfl (Go.Sl.v_load rfl (Go.Sl.Var.at1 Ty.sc3 .here ((get_tail (j := 12) hwf rfl)))) ?_
  refine Go.Sl.ow_val rfl rfl (Go.Sl.v_eql rfl rfl) ?_
  refine Go.Sl.ow_val rfl rfl (Go.Sl.v_pick_true rfl rfl) ?_
  refine Go.Sl.ow_val rfl rfl (Go.Sl.v_assign rfl) ?_
  refine Go.Sl.ow_nil ?_
  refine Go.Sl.xw_then ?_
  refine Go.Sl.cw_ret ?_
  refine Go.Sl.ret1 rfl (Go.Sl.res_tmp rfl) ?_
  exact ⟨congrArg Value.bool (decide_eq_true hev), (by first | exact Go.Sl.Cov.refl _ | (intro p; simp only [List.flatten_cons, List.flatten_nil, List.flatten_append, List.append_nil, List.nil_append, Go.Sl.cnt_append, Go.Sl.cnt_cons, Go.Sl.cnt_nil, List.set_cons_zero, List.set_cons_succ, List.length_nil, List.length_cons, Nat.zero_add, List.append]; omega))⟩
end Go.Proofs.Ytckdhelnafjddaa
