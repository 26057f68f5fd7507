/- Replay in memory: packets, events, a space. Conditions: numbers fit their types. -/
import Derived.Test.YtckdhelnafjddaaRpM
import Derived.Test.YtckdhelnafjddaaMapR
import Derived.Test.YtckdhelnafjddaaVb
namespace Go.Proofs.Ytckdhelnafjddaa
open Go Go.Sl Go.Proofs Go.RowKit Go.ChangeShapes Go.WideShapes Go.ChangeAt
set_option maxRecDepth 20000
set_option linter.unusedVariables false
set_option linter.unusedSimpArgs false

theorem Sub.rest {D : Hp} {R : Hp → List Hp} {F : List Hp} (h : Sub D (R [])) (hR : ∀ x, (R x).Perm (x :: F)) : Sub D F := fun p hp => by
  have h1 := (hR []).flatten.mem_iff.1 (h p hp)
  simpa using h1
def enQ : Enc Int := ⟨fun n => [.int .u64 n], 1, fun n => .int .u64 n, inQ⟩
theorem qTy : EncTy Try.prog 22 enQ := EncTy.scalar Ty.sc22 rfl (fun _ => rfl) (fun _ => rfl)
def PkM.cells (p : PkM) : List Value := [.int .u64 p.num, .int .u64 p.size, .bool p.el, .bool p.fl]
def enPk : Enc PkM := ⟨PkM.cells, 4, fun p => .agg p.cells.toArray, fun p => inQ p.num ∧ inQ p.size⟩
theorem pkTy : EncTy Try.prog 120 enPk := EncTy.agg Ty.ag120 (by decide) (fun _ => rfl) (fun _ _ => rfl) (fun a _ u hu => by
  simp only [enPk, PkM.cells, List.mem_cons, List.not_mem_nil, or_false] at hu
  rcases hu with rfl | rfl | rfl | rfl <;> rfl)
structure EvP where
  na : Option Addr
  nc : Nat
  da : Option Addr
  dc : Nat
def EvM.cells (e : EvM) (p : EvP) : List Value := [.int .u8 e.k, .int .u64 e.t, .slice p.na e.n.length p.nc, .slice p.da e.d.length p.dc]
structure EvE where
  m : EvM
  p : EvP
def enEv : Enc EvE := ⟨fun e => e.m.cells e.p, 4, fun e => .agg (e.m.cells e.p).toArray, fun e => e.m.ok⟩
theorem EvM.cells_one {e : EvM} {p : EvP} : ∀ u ∈ e.cells p, u.oneCell' = true := by
  intro u hu
  simp only [EvM.cells, List.mem_cons, List.not_mem_nil, or_false] at hu
  rcases hu with rfl | rfl | rfl | rfl <;> rfl
theorem evTy : EncTy Try.prog 62 enEv := EncTy.agg Ty.ag62 (by decide) (fun _ => rfl) (fun _ _ => rfl) (fun a _ u hu => EvM.cells_one u hu)
/-- its lists can be read -/
structure EvIn (S : World → Prop) (e : EvM) (p : EvP) : Prop where
  n : Vw enQ S (.slice p.na e.n.length p.nc) e.n
  d : Vw enB S (.slice p.da e.d.length p.dc) e.d
/-- .. from a chunk -/
def EvDeep (B : Nat) (w0 : World) (e : EvM) (p : EvP) (D : Hp) : Prop := ∀ G, Sub D G → EvIn (St B w0 G) e p

/-! ### A space -/
structure SpP where
  sa : Option Addr
  sc : Nat
  ca : Option Addr
  cc : Nat
def SpM.cells (x : SpM) (p : SpP) : List Value := [.int .u64 x.nx, .slice p.sa x.sent.length p.sc, .slice p.ca x.came.length p.cc, .int .u64 x.bl, .bool x.dr]
def SpAt (pre post : List Value) (T : TypeId) (x : SpM) (b : Nat) (c : Hp) : Prop := ∃ p cs cc, c = [(b, .cells (pre ++ (x.cells p ++ post)).toArray T (0, 0))] ++ (cs ++ cc) ∧
  Ls enPk 120 (.slice p.sa x.sent.length p.sc) cs x.sent ∧ Ls enR 102 (.slice p.ca x.came.length p.cc) cc x.came
theorem sp_get {pre post cells : List Value} {T : TypeId} {fr : Nat × Nat} {j : Nat} {v : Value} (h : cells[j]? = some v) : GetN (.cells (pre ++ (cells ++ post)).toArray T fr) (pre.length + j) [v] := by
  have hj := (List.getElem?_eq_some_iff.1 h).1
  refine GetN.one ?_
  rw [List.getElem?_toArray, List.getElem?_append_right (by omega), Nat.add_sub_cancel_left, List.getElem?_append_left hj]
  exact h
theorem sp_set {pre post cells : List Value} {T : TypeId} {j : Nat} {v : Value} (h : j < cells.length) : SetN (.cells (pre ++ (cells ++ post)).toArray T (0, 0)) (pre.length + j) [v] (.cells (pre ++ (cells.set j v ++ post)).toArray T (0, 0)) := by
  have h1 := SetN.one (l := pre ++ (cells ++ post)) (e := T) (off := pre.length + j) (v := v) (by simp; omega)
  rw [List.set_append_right _ _ (by omega), Nat.add_sub_cancel_left, List.set_append_left _ _ h] at h1
  exact h1
theorem indexPk_c {B : Nat} {w0 : World} {G : List Hp} {v : Value} {l} {f : FuncId} {cs : List Value} {p} (hV : Vw enPk (St B w0 G) v l) (hb : l.length ≤ 100000000)
    (hf : ∀ a ∈ l, Go.Sl.Fn Try.prog f ([] ++ [enPk.val a] ++ cs).toArray B w0 G fun u G' => u = .bool (p a) ∧ G' = G) :
    Go.Sl.Fn Try.prog 104 #[v, .func (.func f) #[] cs.toArray] B w0 G fun u G' => u = .int .i64 (idxF p l) ∧ G' = G := by
  refine Fn.pure ?_
  obtain ⟨ao, cap, rfl, hcap⟩ := hV.view
  refine fn_enter Try.func104 rfl (by kernel_rfl) Try.ntmps104 (by simp) ?_
  refine Go.Sl.cw_seq ?_
  refine Go.Sl.cw_region ?_
  refine Go.Sl.ow_val rfl rfl (Go.Sl.v_assign rfl) ?_
  refine Go.Sl.ow_nil ?_
  refine Go.Sl.xw_then ?_
  refine Go.Sl.cw_seq ?_
  refine Go.Sl.cw_seq ?_
  refine Go.Sl.cw_region ?_
  refine Go.Sl.ow_val rfl rfl (Go.Sl.v_move rfl) ?_
  refine Go.Sl.ow_val rfl rfl (Go.Sl.v_len rfl Try.underlying64 rfl) ?_
  refine Go.Sl.ow_val rfl rfl (Go.Sl.v_move rfl) ?_
  refine Go.Sl.ow_nil ?_
  refine Go.Sl.xw_then ?_
  refine Go.Sl.cw_block ?_
  refine Go.Sl.cw_loop2 (ι := (Nat)) [(0, _), (1, _), (7, _)] ⟨rfl, rfl, rfl, trivial⟩ ((fun i => [(8, .int .i64 i)])) ((fun i => i ≤ l.length ∧ ∀ j (h : j < l.length), j < i → p l[j] = false)) ((fun i => l.length - i)) ((fun _ => G)) (0) (by repeat (first | exact True.intro | refine And.intro rfl ?_)) (by first | exact Go.Sl.Cov.refl _ | (intro p; simp only [List.flatten_cons, List.flatten_nil, List.flatten_append, List.append_nil, List.nil_append, Go.Sl.cnt_append, Go.Sl.cnt_cons, Go.Sl.cnt_nil, List.set_cons_zero, List.set_cons_succ, List.length_nil, List.length_cons, Nat.zero_add, List.append]; omega)) ?_ ?_
  · exact ⟨Nat.zero_le _, fun j _ h => absurd h (by omega)⟩
  rintro i ⟨hi, hno⟩
  refine Go.Sl.cw_seq ?_
  refine Go.Sl.cw_region ?_
  refine Go.Sl.ow_val rfl rfl (Go.Sl.v_lss rfl rfl) ?_
  refine Go.Sl.ow_nil ?_
  refine Go.Sl.xw_then ?_
  refine Go.Sl.cw_seq ?_
  refine Go.Sl.cw_dec rfl (fun hc9 => ?_) (fun hc9 => ?_)
  refine Go.Sl.cw_skip ?_
  refine Go.Sl.xw_then ?_
  refine Go.Sl.cw_seq ?_
  refine Go.Sl.cw_block ?_
  refine Go.Sl.cw_seq ?_
  refine Go.Sl.cw_region ?_
  refine Go.Sl.ow_val rfl rfl (Go.Sl.v_move rfl) ?_
  refine Go.Sl.ow_val rfl rfl (Go.Sl.v_assign rfl) ?_
  refine Go.Sl.ow_nil ?_
  refine Go.Sl.xw_then ?_
  refine Go.Sl.cw_seq ?_
  refine Go.Sl.cw_region ?_
  refine Go.Sl.ow_val rfl rfl (Go.Sl.v_move rfl) ?_
  refine Go.Sl.ow_val rfl rfl (Go.Sl.v_move rfl) ?_
  refine Go.Sl.ow_val rfl rfl (Go.Sl.v_move rfl) ?_
  refine Go.Sl.ow_val rfl rfl (Go.Sl.v_indexAddr_vw Try.underlying64 (pkTy) rfl rfl (by assumption) rfl (by omega)) ?_
  refine Go.Sl.ow_val rfl rfl (Go.Sl.v_load rfl (Go.Sl.Vw.var (pkTy) (hV) (by omega))) ?_
  refine Go.Sl.ow_val rfl rfl (Go.Sl.v_call rfl rfl (hf (l[i]'(by omega)) (List.getElem_mem _))) ?_
  refine Go.Sl.ow_nil ?_
  refine Go.Sl.xw_then ?_
  refine Go.Sl.cw_bool rfl (fun hc16 => ?_) (fun hc16 => ?_)
  refine Go.Sl.cw_seq ?_
  refine Go.Sl.cw_region ?_
  refine Go.Sl.ow_val rfl rfl (Go.Sl.v_move rfl) ?_
  refine Go.Sl.ow_val rfl rfl (Go.Sl.v_assign rfl) ?_
  refine Go.Sl.ow_nil ?_
  refine Go.Sl.xw_then ?_
  refine Go.Sl.cw_ret ?_
  refine Go.Sl.xw_block_ret ?_
  refine Go.Sl.xw_then_ret ?_
  refine Go.Sl.xw_round_ret ?_
  refine Go.Sl.xw_block_ret ?_
  refine Go.Sl.xw_then_ret ?_
  refine Go.Sl.ret1 rfl (Go.Sl.res_tmp rfl) ?_
  rotate_left
  refine Go.Sl.cw_skip ?_
  refine Go.Sl.xw_block ?_
  refine Go.Sl.xw_then ?_
  refine Go.Sl.cw_region ?_
  refine Go.Sl.ow_val rfl rfl (Go.Sl.v_add rfl rfl (Go.Sl.nw_i64 (by omega) (by omega))) ?_
  refine Go.Sl.ow_val rfl rfl (Go.Sl.v_move rfl) ?_
  refine Go.Sl.ow_nil ?_
  rotate_left
  refine Go.Sl.cw_exit ?_
  refine Go.Sl.xw_then_exit ?_
  refine Go.Sl.xw_round_exit ?_
  refine Go.Sl.xw_block_exit ?_
  refine Go.Sl.xw_then ?_
  refine Go.Sl.cw_seq ?_
  refine Go.Sl.cw_region ?_
  refine Go.Sl.ow_val rfl rfl (Go.Sl.v_assign rfl) ?_
  refine Go.Sl.ow_nil ?_
  refine Go.Sl.xw_then ?_
  refine Go.Sl.cw_ret ?_
  refine Go.Sl.ret1 rfl (Go.Sl.res_tmp rfl) ?_
  rotate_left
  · refine ⟨?_, (by first | exact Go.Sl.Cov.refl _ | (intro p; simp only [List.flatten_cons, List.flatten_nil, List.flatten_append, List.append_nil, List.nil_append, Go.Sl.cnt_append, Go.Sl.cnt_cons, Go.Sl.cnt_nil, List.set_cons_zero, List.set_cons_succ, List.length_nil, List.length_cons, Nat.zero_add, List.append]; omega))⟩
    rw [idxF_at (i := i) (by omega) hc16 hno]
  · exact xw_round (i + 1) ⟨by omega, fun j h hj => by
      by_cases hji : j = i
      · subst hji; exact hc16
      · exact hno j h (by omega)⟩ (by omega) (by first | exact Go.Sl.Cov.refl _ | (intro p; simp only [List.flatten_cons, List.flatten_nil, List.flatten_append, List.append_nil, List.nil_append, Go.Sl.cnt_append, Go.Sl.cnt_cons, Go.Sl.cnt_nil, List.set_cons_zero, List.set_cons_succ, List.length_nil, List.length_cons, Nat.zero_add, List.append]; omega)) (by repeat (first | exact True.intro | refine And.intro rfl ?_))
  · refine ⟨?_, (by first | exact Go.Sl.Cov.refl _ | (intro p; simp only [List.flatten_cons, List.flatten_nil, List.flatten_append, List.append_nil, List.nil_append, Go.Sl.cnt_append, Go.Sl.cnt_cons, Go.Sl.cnt_nil, List.set_cons_zero, List.set_cons_succ, List.length_nil, List.length_cons, Nat.zero_add, List.append]; omega))⟩
    rw [idxF_none (fun j h => hno j h (by omega))]

theorem deletePk_c {B : Nat} {w0 : World} {G : List Hp} {R : Hp → List Hp} {v : Value} {c : Hp} {l} {i j : Nat} {x y : Int} (hx : x = (i : Int)) (hy : y = (j : Int)) (hs : Sel G c R) (hL : Ls enPk 120 v c l) (hi : i ≤ j) (hj : j ≤ l.length) (hb : l.length ≤ 100000000) :
    Go.Sl.Fn Try.prog 106 #[v, .int .i64 x, .int .i64 y] B w0 G fun u G' => ∃ x : Option Addr × Nat × Hp, u = .slice x.1 (l.take i ++ l.drop j).length x.2.1 ∧ Ls enPk 120 (.slice x.1 (l.take i ++ l.drop j).length x.2.1) x.2.2 (l.take i ++ l.drop j) ∧ G' = R x.2.2 := by
  subst hx
  subst hy
  refine Fn.sel0 hs fun F _ _ => ?_
  obtain ⟨ao, cap, rfl, hcap⟩ := hL.view
  refine fn_enter Try.func106 rfl (by kernel_rfl) Try.ntmps106 (by simp) ?_
  refine Go.Sl.cw_seq ?_
  refine Go.Sl.cw_region ?_
  refine Go.Sl.ow_val rfl rfl (Go.Sl.v_assign rfl) ?_
  refine Go.Sl.ow_nil ?_
  refine Go.Sl.xw_then ?_
  refine Go.Sl.cw_seq ?_
  refine Go.Sl.cw_region ?_
  refine Go.Sl.ow_val rfl rfl (Go.Sl.v_move rfl) ?_
  refine Go.Sl.ow_val rfl rfl (Go.Sl.v_move rfl) ?_
  refine Go.Sl.ow_val rfl rfl (Go.Sl.v_move rfl) ?_
  refine Go.Sl.ow_val rfl rfl (Go.Sl.v_move rfl) ?_
  refine Go.Sl.ow_val rfl rfl (Go.Sl.v_len rfl Try.underlying64 rfl) ?_
  refine Go.Sl.ow_val rfl rfl (Go.Sl.v_slice_lhm Try.underlying64 Ty.el64 rfl rfl rfl rfl rfl rfl rfl (by omega) (by omega) (by omega)) ?_
  refine Go.Sl.ow_nil ?_
  refine Go.Sl.xw_then ?_
  refine Go.Sl.cw_seq ?_
  refine Go.Sl.cw_seq ?_
  refine Go.Sl.cw_region ?_
  refine Go.Sl.ow_val rfl rfl (Go.Sl.v_move rfl) ?_
  refine Go.Sl.ow_val rfl rfl (Go.Sl.v_move rfl) ?_
  refine Go.Sl.ow_val rfl rfl (Go.Sl.v_eql rfl rfl) ?_
  refine Go.Sl.ow_nil ?_
  refine Go.Sl.xw_then ?_
  refine Go.Sl.cw_dec rfl (fun hc16 => ?_) (fun hc16 => ?_)
  refine Go.Sl.cw_seq ?_
  refine Go.Sl.cw_region ?_
  refine Go.Sl.ow_val rfl rfl (Go.Sl.v_move rfl) ?_
  refine Go.Sl.ow_val rfl rfl (Go.Sl.v_assign rfl) ?_
  refine Go.Sl.ow_nil ?_
  refine Go.Sl.xw_then ?_
  refine Go.Sl.cw_ret ?_
  refine Go.Sl.xw_then_ret ?_
  refine Go.Sl.ret1 rfl (Go.Sl.res_tmp rfl) ?_
  rotate_left
  refine Go.Sl.cw_skip ?_
  refine Go.Sl.xw_then ?_
  refine Go.Sl.cw_seq ?_
  refine Go.Sl.cw_region ?_
  refine Go.Sl.ow_val rfl rfl (Go.Sl.v_move rfl) ?_
  refine Go.Sl.ow_val rfl rfl (Go.Sl.v_len rfl Try.underlying64 rfl) ?_
  refine Go.Sl.ow_val rfl rfl (Go.Sl.v_assign rfl) ?_
  refine Go.Sl.ow_nil ?_
  refine Go.Sl.xw_then ?_
  refine Go.Sl.cw_seq ?_
  refine Go.Sl.cw_mix [] [6, 7] [0, 1, 2, 3, 4, 5] Ty.mixed rfl rfl rfl rfl (by decide +kernel) ?_
  refine Go.Sl.hw_pure rfl rfl (Go.Sl.v_move rfl) rfl ?_
  refine Go.Sl.hw_pure rfl rfl (Go.Sl.v_move rfl) rfl ?_
  refine Go.Sl.hw_pure rfl rfl (Go.Sl.v_slice_nh Try.underlying64 Ty.el64 rfl rfl rfl (by omega)) rfl ?_
  refine Go.Sl.hw_pure rfl rfl (Go.Sl.v_move rfl) rfl ?_
  refine Go.Sl.hw_pure rfl rfl (Go.Sl.v_move rfl) rfl ?_
  refine Go.Sl.hw_pure rfl rfl (Go.Sl.v_slice_ln Try.underlying64 Ty.el64 rfl rfl rfl (by omega)) rfl ?_
  refine Go.Sl.hw_nil ?_
  refine Go.Sl.sw_nil ?_
  rotate_left
  · have hij : i = j := by omega
    subst hij
    exact ⟨(ao, cap, c), by simp, by simpa using hL, (by first | exact Go.Sl.Cov.refl _ | (intro p; simp only [List.flatten_cons, List.flatten_nil, List.flatten_append, List.append_nil, List.nil_append, Go.Sl.cnt_append, Go.Sl.cnt_cons, Go.Sl.cnt_nil, List.set_cons_zero, List.set_cons_succ, List.length_nil, List.length_cons, Nat.zero_add, List.append]; omega))⟩
  have hL1 := hL.take pkTy (m := i) (by omega)
  have hV2 := (hL.vw (B := B) (w0 := w0) (G := c :: F) Sub.here).sub2 pkTy (m := j) (by omega)
  refine Go.Sl.ow_appendL_room rfl rfl Try.underlying64 Try.underlying64 pkTy rfl rfl hL1 .here hV2 (by rw [List.length_take, List.length_drop]; omega) ?_
  intro c26 hL26
  have hlen : (l.take i ++ l.drop j).length ≤ l.length := by rw [List.length_append, List.length_take, List.length_drop]; omega
  refine Go.Sl.ow_val rfl rfl (Go.Sl.v_assign rfl) ?_
  refine Go.Sl.ow_nil ?_
  refine Go.Sl.xw_np ?_
  refine Go.Sl.xw_then ?_
  refine Go.Sl.cw_seq ?_
  refine Go.Sl.cw_region ?_
  refine Go.Sl.ow_val rfl rfl (Go.Sl.v_move rfl) ?_
  refine Go.Sl.ow_val rfl rfl (Go.Sl.v_move rfl) ?_
  refine Go.Sl.ow_val rfl rfl (Go.Sl.v_len rfl Try.underlying64 rfl) ?_
  refine Go.Sl.ow_val rfl rfl (Go.Sl.v_move rfl) ?_
  refine Go.Sl.ow_val rfl rfl (Go.Sl.v_slice_lh Try.underlying64 Ty.el64 rfl rfl rfl rfl rfl (by omega) (by omega)) ?_
  refine Go.Sl.ow_clearL (En := enPk) (e := 120) rfl Try.underlying64 Ty.em64 Ty.zo64 rfl (by omega) hL26 .here ?_
  intro c32 hL32
  refine Go.Sl.ow_nil ?_
  refine Go.Sl.xw_then ?_
  refine Go.Sl.cw_seq ?_
  refine Go.Sl.cw_region ?_
  refine Go.Sl.ow_val rfl rfl (Go.Sl.v_move rfl) ?_
  refine Go.Sl.ow_val rfl rfl (Go.Sl.v_assign rfl) ?_
  refine Go.Sl.ow_nil ?_
  refine Go.Sl.xw_then ?_
  refine Go.Sl.cw_ret ?_
  refine Go.Sl.ret1 rfl (Go.Sl.res_tmp rfl) ?_
  exact ⟨(ao, cap, c32), rfl, hL32, (by first | exact Go.Sl.Cov.refl _ | (intro p; simp only [List.flatten_cons, List.flatten_nil, List.flatten_append, List.append_nil, List.nil_append, Go.Sl.cnt_append, Go.Sl.cnt_cons, Go.Sl.cnt_nil, List.set_cons_zero, List.set_cons_succ, List.length_nil, List.length_cons, Nat.zero_add, List.append]; omega))⟩

theorem b_pk {a b : Int} {c d : Bool} : Build Try.prog 120 #[(0, .int .u64 a), (1, .int .u64 b), (2, .bool c), (3, .bool d)] (.agg (PkM.cells ⟨a, b, c, d⟩).toArray) := fun w => by kernel_rfl

theorem spSend_c {B : Nat} {w0 : World} {G : List Hp} {R : Hp → List Hp} {pre post : List Value} {T : TypeId} {x : SpM} {b : Nat} {c : Hp} {p : PkM} {wrong : Bool} (hsel : Sel G c R) (hO : SpAt pre post T x b c) (hw : x.WF) (hp : enPk.ok p) (hm : p.num ≤ 4611686018427387903) (hb : x.sent.length ≤ 1000000) :
    Go.Sl.Fn Try.prog 102 #[.pointer (some ⟨b, pre.length, none⟩), enPk.val p, .bool wrong] B w0 G fun u G' => ∃ c' : Hp, u = .int .i64 (x.send p wrong).2 ∧ SpAt pre post T (x.send p wrong).1 b c' ∧ G' = R c' := by
  refine Fn.sel0 hsel fun F hR hF => ?_
  obtain ⟨q, cs, cc, rfl, hS, hC⟩ := hO
  have hp' := hp
  obtain ⟨⟨p1, p2⟩, _⟩ := hp'
  refine fn_enter Try.func102 rfl (by kernel_rfl) Try.ntmps102 (by simp) ?_
  refine cw_split3 ?_
  unfold SpM.cells
  refine Go.Sl.cw_seq ?_
  refine Go.Sl.cw_region ?_
  (refine Go.Sl.ow_box rfl rfl rfl rfl ?_; intro b4)
  refine Go.Sl.ow_val rfl rfl (Go.Sl.v_assign rfl) ?_
  refine Go.Sl.ow_nil ?_
  refine Go.Sl.xw_then ?_
  refine Go.Sl.cw_seq ?_
  refine Go.Sl.cw_seq ?_
  refine Go.Sl.cw_quiet Ty.mixed (by decide +kernel) ?_
  refine Go.Sl.kw_val rfl rfl (Go.Sl.v_fieldAddr0 Ty.fd120_0 rfl) ?_
  refine Go.Sl.kw_val rfl rfl (Go.Sl.v_load rfl (Go.Sl.Var.at1 Ty.sc22 .here (Go.Sl.GetN.lit rfl))) ?_
  refine Go.Sl.kw_val rfl rfl (Go.Sl.v_move rfl) ?_
  refine Go.Sl.kw_val rfl rfl (Go.Sl.v_nilCheck rfl) ?_
  refine Go.Sl.kw_val rfl rfl (Go.Sl.v_fieldAddr Ty.fd66_0 rfl) ?_
  refine Go.Sl.kw_val rfl rfl (Go.Sl.v_load rfl (Go.Sl.Var.at1 Ty.sc22 (.there .here) ((sp_get (j := 0) rfl)))) ?_
  refine Go.Sl.kw_val rfl rfl (Go.Sl.v_lss rfl rfl) ?_
  refine Go.Sl.kw_val rfl rfl (Go.Sl.v_move rfl) ?_
  refine Go.Sl.kw_dec 14 rfl (fun hc14 => ?_) (fun hc14 => ?_)
  refine Go.Sl.kw_skip rfl rfl ?_
  refine Go.Sl.kw_skip rfl rfl ?_
  refine Go.Sl.kw_skip rfl rfl ?_
  refine Go.Sl.kw_skip rfl rfl ?_
  refine Go.Sl.kw_val rfl rfl (Go.Sl.v_pick_true rfl rfl) ?_
  refine Go.Sl.kw_val rfl rfl (Go.Sl.v_move rfl) ?_
  refine Go.Sl.kw_skip rfl rfl ?_
  refine Go.Sl.kw_val rfl rfl (Go.Sl.v_pick_true rfl rfl) ?_
  refine Go.Sl.kw_nil ?_
  refine Go.Sl.xw_then ?_
  refine Go.Sl.cw_true rfl ?_
  refine Go.Sl.cw_seq ?_
  refine Go.Sl.cw_region ?_
  refine Go.Sl.ow_val rfl rfl (Go.Sl.v_assign rfl) ?_
  refine Go.Sl.ow_nil ?_
  refine Go.Sl.xw_then ?_
  refine Go.Sl.cw_ret ?_
  refine Go.Sl.xw_then_ret ?_
  refine Go.Sl.ret1 rfl (Go.Sl.res_tmp rfl) ?_
  rotate_left
  refine Go.Sl.kw_val rfl rfl (Go.Sl.v_move rfl) ?_
  refine Go.Sl.kw_val rfl rfl (Go.Sl.v_nilCheck rfl) ?_
  refine Go.Sl.kw_val rfl rfl (Go.Sl.v_fieldAddr Ty.fd66_4 rfl) ?_
  refine Go.Sl.kw_val rfl rfl (Go.Sl.v_load rfl (Go.Sl.Var.at1 Ty.sc4 (.there .here) ((sp_get (j := 4) rfl)))) ?_
  refine Go.Sl.kw_val rfl rfl (Go.Sl.v_pick_false rfl rfl) ?_
  refine Go.Sl.kw_val rfl rfl (Go.Sl.v_move rfl) ?_
  refine Go.Sl.kw_bool 20 rfl (fun hc20 => ?_) (fun hc20 => ?_)
  refine Go.Sl.kw_skip rfl rfl ?_
  refine Go.Sl.kw_val rfl rfl (Go.Sl.v_pick_true rfl rfl) ?_
  refine Go.Sl.kw_nil ?_
  refine Go.Sl.xw_then ?_
  refine Go.Sl.cw_true rfl ?_
  refine Go.Sl.cw_seq ?_
  refine Go.Sl.cw_region ?_
  refine Go.Sl.ow_val rfl rfl (Go.Sl.v_assign rfl) ?_
  refine Go.Sl.ow_nil ?_
  refine Go.Sl.xw_then ?_
  refine Go.Sl.cw_ret ?_
  refine Go.Sl.xw_then_ret ?_
  refine Go.Sl.ret1 rfl (Go.Sl.res_tmp rfl) ?_
  rotate_left
  refine Go.Sl.kw_val rfl rfl (Go.Sl.v_move rfl) ?_
  refine Go.Sl.kw_val rfl rfl (Go.Sl.v_pick_false rfl rfl) ?_
  refine Go.Sl.kw_nil ?_
  refine Go.Sl.xw_then ?_
  refine Go.Sl.cw_bool rfl (fun hc22 => ?_) (fun hc22 => ?_)
  refine Go.Sl.cw_seq ?_
  refine Go.Sl.cw_region ?_
  refine Go.Sl.ow_val rfl rfl (Go.Sl.v_assign rfl) ?_
  refine Go.Sl.ow_nil ?_
  refine Go.Sl.xw_then ?_
  refine Go.Sl.cw_ret ?_
  refine Go.Sl.xw_then_ret ?_
  refine Go.Sl.ret1 rfl (Go.Sl.res_tmp rfl) ?_
  rotate_left
  refine Go.Sl.cw_skip ?_
  refine Go.Sl.xw_then ?_
  refine Go.Sl.cw_seq ?_
  refine Go.Sl.cw_region ?_
  refine Go.Sl.ow_val rfl rfl (Go.Sl.v_move rfl) ?_
  refine Go.Sl.ow_val rfl rfl (Go.Sl.v_fieldAddr0 Ty.fd120_0 rfl) ?_
  refine Go.Sl.ow_val rfl rfl (Go.Sl.v_load rfl (Go.Sl.Var.at1 Ty.sc22 .here (Go.Sl.GetN.lit rfl))) ?_
  refine Go.Sl.ow_val rfl rfl (Go.Sl.v_add rfl rfl (Go.Sl.nw_u64 (by omega) (by omega))) ?_
  refine Go.Sl.ow_val rfl rfl (Go.Sl.v_nilCheck rfl) ?_
  refine Go.Sl.ow_val rfl rfl (Go.Sl.v_fieldAddr Ty.fd66_0 rfl) ?_
  refine Go.Sl.ow_store1 rfl rfl rfl rfl Ty.sc22 (.there .here) ((sp_set (j := 0) (Nat.le_of_ble_eq_true rfl))) ?_
  refine Go.Sl.ow_nil ?_
  refine Go.Sl.xw_then ?_
  refine Go.Sl.cw_seq ?_
  refine Go.Sl.cw_seq ?_
  refine Go.Sl.cw_region ?_
  refine Go.Sl.ow_val rfl rfl (Go.Sl.v_fieldAddr0 Ty.fd120_3 rfl) ?_
  refine Go.Sl.ow_val rfl rfl (Go.Sl.v_load rfl (Go.Sl.Var.at1 Ty.sc4 .here (Go.Sl.GetN.lit rfl))) ?_
  refine Go.Sl.ow_nil ?_
  refine Go.Sl.xw_then ?_
  refine Go.Sl.cw_bool rfl (fun hc30 => ?_) (fun hc30 => ?_)
  refine Go.Sl.cw_mix [6] [7, 8, 9, 10] [0, 1, 2, 3, 4, 5] Ty.mixed rfl rfl rfl rfl (by decide +kernel) ?_
  refine Go.Sl.hw_pure rfl rfl (Go.Sl.v_move rfl) rfl ?_
  refine Go.Sl.hw_pure rfl rfl (Go.Sl.v_move rfl) rfl ?_
  refine Go.Sl.hw_pure rfl rfl (Go.Sl.v_nilCheck rfl) rfl ?_
  refine Go.Sl.hw_pure rfl rfl (Go.Sl.v_fieldAddr Ty.fd66_1 rfl) rfl ?_
  refine Go.Sl.hw_read rfl rfl rfl (Go.Sl.v_load rfl (Go.Sl.Var.at1 Ty.sc64 (.there .here) ((sp_get (j := 1) rfl)))) ?_
  refine Go.Sl.hw_read rfl rfl rfl (Go.Sl.v_load rfl (Go.Sl.Var.atN Ty.ag120 .here Go.Sl.GetN.all (by first | rfl | assumption))) ?_
  refine Go.Sl.hw_nil ?_
  (refine Go.Sl.sw_buildL (es := [(p)]) rfl rfl Try.underlying64 Ty.em64 (pkTy) rfl rfl (by first | (simp [*]; done) | (repeat (first | exact List.forall_mem_nil _ | refine List.forall_mem_cons.2 ⟨?_, ?_⟩ | assumption | (show _ ∧ _; omega)))) (by simp only [List.length_cons, List.length_nil]; decide) ?_; intro ao37 c37 hL37)
  refine Go.Sl.sw_nil ?_
  (refine Go.Sl.ow_appendL rfl rfl Try.underlying64 Try.underlying64 Ty.em64 (pkTy) rfl rfl (by assumption) (by repeat (first | exact Go.Sl.Sel.here | apply Go.Sl.Sel.there)) (Go.Sl.Ls.vw (by assumption) (by repeat (first | exact Go.Sl.Sub.here | exact Go.Sl.Sub.nil | assumption | refine Go.Sl.Sub.there ?_))) (by first | omega | (simp only [List.length_append, List.length_take, List.length_drop, List.length_nil, List.length_cons]; omega)) (by first | omega | (simp only [List.length_append, List.length_take, List.length_drop, List.length_nil, List.length_cons]; omega)) ?_; intro ao38 cap38 c38 hL38)
  refine Go.Sl.ow_val rfl rfl (Go.Sl.v_nilCheck rfl) ?_
  refine Go.Sl.ow_val rfl rfl (Go.Sl.v_fieldAddr Ty.fd66_1 rfl) ?_
  refine Go.Sl.ow_store1 rfl rfl rfl rfl Ty.sc64 (.there (.there .here)) ((sp_set (j := 1) (Nat.le_of_ble_eq_true rfl))) ?_
  refine Go.Sl.ow_nil ?_
  refine Go.Sl.xw_np ?_
  refine Go.Sl.xw_then ?_
  refine Go.Sl.cw_seq ?_
  refine Go.Sl.cw_region ?_
  refine Go.Sl.ow_val rfl rfl (Go.Sl.v_assign rfl) ?_
  refine Go.Sl.ow_nil ?_
  refine Go.Sl.xw_then ?_
  refine Go.Sl.cw_ret ?_
  refine Go.Sl.ret1 rfl (Go.Sl.res_tmp rfl) ?_
  rotate_left
  refine Go.Sl.cw_skip ?_
  refine Go.Sl.xw_then ?_
  refine Go.Sl.cw_seq ?_
  refine Go.Sl.cw_region ?_
  refine Go.Sl.ow_val rfl rfl (Go.Sl.v_assign rfl) ?_
  refine Go.Sl.ow_nil ?_
  refine Go.Sl.xw_then ?_
  refine Go.Sl.cw_ret ?_
  refine Go.Sl.ret1 rfl (Go.Sl.res_tmp rfl) ?_
  rotate_left
  · have e : x.send p wrong = (x, 10) := if_pos (.inl hc14)
    rw [e]
    refine ⟨_, rfl, ⟨q, cs, cc, rfl, hS, hC⟩, ?_⟩
    dsimp only [SpM.cells]
    exact (by first | exact Go.Sl.Cov.refl _ | (intro p; simp only [List.flatten_cons, List.flatten_nil, List.flatten_append, List.append_nil, List.nil_append, Go.Sl.cnt_append, Go.Sl.cnt_cons, Go.Sl.cnt_nil, List.set_cons_zero, List.set_cons_succ, List.length_nil, List.length_cons, Nat.zero_add, List.append]; omega))
  · have e : x.send p wrong = (x, 10) := if_pos (.inr (.inl hc20))
    rw [e]
    refine ⟨_, rfl, ⟨q, cs, cc, rfl, hS, hC⟩, ?_⟩
    dsimp only [SpM.cells]
    exact (by first | exact Go.Sl.Cov.refl _ | (intro p; simp only [List.flatten_cons, List.flatten_nil, List.flatten_append, List.append_nil, List.nil_append, Go.Sl.cnt_append, Go.Sl.cnt_cons, Go.Sl.cnt_nil, List.set_cons_zero, List.set_cons_succ, List.length_nil, List.length_cons, Nat.zero_add, List.append]; omega))
  · have e : x.send p wrong = (x, 10) := if_pos (.inr (.inr hc22))
    rw [e]
    refine ⟨_, rfl, ⟨q, cs, cc, rfl, hS, hC⟩, ?_⟩
    dsimp only [SpM.cells]
    exact (by first | exact Go.Sl.Cov.refl _ | (intro p; simp only [List.flatten_cons, List.flatten_nil, List.flatten_append, List.append_nil, List.nil_append, Go.Sl.cnt_append, Go.Sl.cnt_cons, Go.Sl.cnt_nil, List.set_cons_zero, List.set_cons_succ, List.length_nil, List.length_cons, Nat.zero_add, List.append]; omega))
  · have e : x.send p wrong = ({ x with nx := p.num + 1, sent := x.sent ++ [p] }, 0) := by rw [SpM.send, if_neg (by rw [hc20, hc22]; simp; omega), if_pos hc30]
    rw [e]
    refine ⟨_, rfl, ⟨⟨ao38, cap38, q.ca, q.cc⟩, c38, cc, rfl, hL38, hC⟩, ?_⟩
    dsimp only [SpM.cells, List.set]
    exact (by first | exact Go.Sl.Cov.refl _ | (intro p; simp only [List.flatten_cons, List.flatten_nil, List.flatten_append, List.append_nil, List.nil_append, Go.Sl.cnt_append, Go.Sl.cnt_cons, Go.Sl.cnt_nil, List.set_cons_zero, List.set_cons_succ, List.length_nil, List.length_cons, Nat.zero_add, List.append]; omega))
  · have e : x.send p wrong = ({ x with nx := p.num + 1 }, 0) := by rw [SpM.send, if_neg (by rw [hc20, hc22]; simp; omega), if_neg (by rw [hc30]; decide)]
    rw [e]
    refine ⟨_, rfl, ⟨q, cs, cc, rfl, hS, hC⟩, ?_⟩
    dsimp only [SpM.cells, List.set]
    exact (by first | exact Go.Sl.Cov.refl _ | (intro p; simp only [List.flatten_cons, List.flatten_nil, List.flatten_append, List.append_nil, List.nil_append, Go.Sl.cnt_append, Go.Sl.cnt_cons, Go.Sl.cnt_nil, List.set_cons_zero, List.set_cons_succ, List.length_nil, List.length_cons, Nat.zero_add, List.append]; omega))

/-! ### What came -/
theorem addLast_take {l : List Rg} (hl : Good l) (h32 : l.length ≤ 32) {i : Nat} (hi : i < l.length) : (⟨32, l.take i⟩ : SetM).addLast l[i] = (⟨32, l.take (i + 1)⟩, 0) := by
  have hok := hl.1 _ (List.getElem_mem hi)
  have h1 : Good (l.take (i + 1)) := by
    have := hl
    rw [← List.take_append_drop (i + 1) l] at this
    exact (Good.append.1 this).1
  have h0 : Good (l.take i) := by
    have := hl
    rw [← List.take_append_drop i l] at this
    exact (Good.append.1 this).1
  have h2 := add_spec h0 hok
  have h3 : l.take (i + 1) = l.take i ++ [l[i]] := List.take_succ_eq_append_getElem hi
  have h4 : addL (l.take i) l[i] = l.take (i + 1) := Good.ext h2.1 h1 fun n => by
    rw [h2.2.1 n, h3, InR.append, InR.cons]
    simp [InR.nil]
  unfold SetM.addLast
  rw [if_neg (by have := hok.2.1; omega)]
  dsimp only
  rw [h4]
  have h5 : (l.take (i + 1)).length = i + 1 := by rw [List.length_take]; omega
  rw [h5]
  have h6 : max (((i + 1 : Nat) : Int) - max 32 1) 0 = 0 := by omega
  rw [h6]
  rfl
theorem set32 {l : List Rg} (h : Good l) (h32 : l.length ≤ 32) : (⟨32, l⟩ : SetM).WF := ⟨h, by dsimp only; omega, by dsimp only; omega⟩
theorem Good.take' {l : List Rg} (h : Good l) (n : Nat) : Good (l.take n) := by
  have := h
  rw [← List.take_append_drop n l] at this
  exact (Good.append.1 this).1
theorem spCame_c {B : Nat} {w0 : World} {G : List Hp} {pre post : List Value} {T : TypeId} {x : SpM} {b : Nat} {c : Hp} (hO : SpAt pre post T x b c) (hs : Sub c G) (hw : x.WF) :
    Go.Sl.Fn Try.prog 107 #[.pointer (some ⟨b, pre.length, none⟩)] B w0 G fun u G' => ∃ y : Nat × Hp, u = .pointer (some ⟨y.1, 0, none⟩) ∧ SetAt ⟨32, x.came⟩ y.1 y.2 ∧ G' = [y.2] ++ G := by
  refine Fn.new ?_
  obtain ⟨q, cs, cc, rfl, hS, hC⟩ := hO
  have hs1 := hs.left
  have hs2 := hs.right.right
  have hg := hw.good
  have hl := hw.len
  have hin : ∀ i (h : i < x.came.length), RgIn x.came[i] := fun i h => by
    have := hg.1 _ (List.getElem_mem h)
    unfold RgOk at this
    unfold RgIn
    omega
  refine fn_enter Try.func107 rfl (by kernel_rfl) Try.ntmps107 (by simp) ?_
  unfold SpM.cells at hs1
  refine Go.Sl.cw_seq ?_
  refine Go.Sl.cw_region ?_
  refine Go.Sl.ow_val rfl rfl (Go.Sl.v_assign rfl) ?_
  refine Go.Sl.ow_nil ?_
  refine Go.Sl.xw_then ?_
  refine Go.Sl.cw_seq ?_
  refine Go.Sl.cw_region ?_
  (refine Go.Sl.ow_call rfl rfl rfl rfl (newSet_c) ?_; rintro _ _ ⟨x6, rfl, hq6, rfl⟩)
  refine Go.Sl.ow_val rfl rfl (Go.Sl.v_assign rfl) ?_
  refine Go.Sl.ow_nil ?_
  refine Go.Sl.xw_then ?_
  refine Go.Sl.cw_seq ?_
  refine Go.Sl.cw_seq ?_
  refine Go.Sl.cw_region ?_
  refine Go.Sl.ow_val rfl rfl (Go.Sl.v_move rfl) ?_
  refine Go.Sl.ow_val rfl rfl (Go.Sl.v_nilCheck rfl) ?_
  refine Go.Sl.ow_val rfl rfl (Go.Sl.v_fieldAddr Ty.fd66_2 rfl) ?_
  refine Go.Sl.ow_val rfl rfl (Go.Sl.v_load rfl (Go.Sl.Var.sub1 Ty.sc27 (by repeat (first | assumption | refine Go.Sl.Sub.there ?_)) (.head _) ((sp_get (j := 2) rfl)))) ?_
  refine Go.Sl.ow_val rfl rfl (Go.Sl.v_len rfl Try.underlying27 rfl) ?_
  refine Go.Sl.ow_val rfl rfl (Go.Sl.v_move rfl) ?_
  refine Go.Sl.ow_nil ?_
  refine Go.Sl.xw_then ?_
  refine Go.Sl.cw_block ?_
  obtain ⟨bs, c6⟩ := x6
  dsimp only at hq6 ⊢
  refine Go.Sl.cw_loop2 (ι := ((Nat × Hp))) [(2, _), (3, _), (10, _), (11, _)] ⟨rfl, rfl, rfl, rfl, trivial⟩ ((fun y => [(12, .int .i64 y.1)])) ((fun y => y.1 ≤ x.came.length ∧ SetAt ⟨32, x.came.take y.1⟩ bs y.2)) ((fun y => x.came.length - y.1)) ((fun y => y.2 :: G)) (((0, c6) : Nat × Hp)) (by repeat (first | exact True.intro | refine And.intro rfl ?_)) (by first | exact Go.Sl.Cov.refl _ | (intro p; simp only [List.flatten_cons, List.flatten_nil, List.flatten_append, List.append_nil, List.nil_append, Go.Sl.cnt_append, Go.Sl.cnt_cons, Go.Sl.cnt_nil, List.set_cons_zero, List.set_cons_succ, List.length_nil, List.length_cons, Nat.zero_add, List.append]; omega)) ?_ ?_
  · exact ⟨Nat.zero_le _, hq6⟩
  rintro ⟨i, ci⟩ ⟨hi, hSi⟩
  dsimp only at hi hSi ⊢
  refine Go.Sl.cw_seq ?_
  refine Go.Sl.cw_region ?_
  refine Go.Sl.ow_val rfl rfl (Go.Sl.v_lss rfl rfl) ?_
  refine Go.Sl.ow_nil ?_
  refine Go.Sl.xw_then ?_
  refine Go.Sl.cw_seq ?_
  refine Go.Sl.cw_dec rfl (fun hc13 => ?_) (fun hc13 => ?_)
  refine Go.Sl.cw_skip ?_
  refine Go.Sl.xw_then ?_
  rotate_left
  refine Go.Sl.cw_exit ?_
  refine Go.Sl.xw_then_exit ?_
  refine Go.Sl.xw_round_exit ?_
  refine Go.Sl.xw_block_exit ?_
  refine Go.Sl.xw_then ?_
  refine Go.Sl.cw_seq ?_
  refine Go.Sl.cw_region ?_
  refine Go.Sl.ow_val rfl rfl (Go.Sl.v_move rfl) ?_
  refine Go.Sl.ow_val rfl rfl (Go.Sl.v_assign rfl) ?_
  refine Go.Sl.ow_nil ?_
  refine Go.Sl.xw_then ?_
  refine Go.Sl.cw_ret ?_
  refine Go.Sl.ret1 rfl (Go.Sl.res_tmp rfl) ?_
  rotate_left
  · have hi2 : i < x.came.length := by omega
    have hri := hin i hi2
    have hV := (hC.vw (B := B) (w0 := w0) (G := G) hs2)
    have hwt := set32 (hg.take' i) (by rw [List.length_take]; omega)
    have ha : ∀ {G : List Hp} {R : Hp → List Hp}, Sel G ci R → Go.Sl.Fn Try.prog 128 #[.pointer (some ⟨bs, 0, none⟩), enR.val x.came[i]] B w0 G fun u G' => ∃ c' : Hp, u = .int .i64 0 ∧ SetAt ⟨32, x.came.take (i + 1)⟩ bs c' ∧ G' = R c' := fun hs => by
      have h := setAddLast_c (B := B) (w0 := w0) hs hSi hwt hri
      rw [addLast_take hg hl hi2] at h
      exact h
    refine Go.Sl.cw_seq ?_
    refine Go.Sl.cw_block ?_
    refine Go.Sl.cw_seq ?_
    refine Go.Sl.cw_region ?_
    refine Go.Sl.ow_val rfl rfl (Go.Sl.v_indexAddr_ls Try.underlying27 (rTy) rfl rfl (by assumption) rfl (by omega)) ?_
    refine Go.Sl.ow_val rfl rfl (Go.Sl.v_load rfl (Go.Sl.Vw.var (rTy) (hV.cov (by first | exact Go.Sl.Cov.refl _ | (intro p; simp only [List.flatten_cons, List.flatten_nil, List.flatten_append, List.append_nil, List.nil_append, Go.Sl.cnt_append, Go.Sl.cnt_cons, Go.Sl.cnt_nil, List.set_cons_zero, List.set_cons_succ, List.length_nil, List.length_cons, Nat.zero_add, List.append]; omega))) (by omega))) ?_
    (refine Go.Sl.ow_alloc rfl rfl Ty.ze102 ?_; intro b5)
    refine Go.Sl.ow_storeE rfl (rTy) rfl rfl .here (by first | rfl | assumption) (by assumption) ?_
    refine Go.Sl.ow_nil ?_
    refine Go.Sl.xw_then ?_
    refine Go.Sl.cw_region ?_
    refine Go.Sl.ow_val rfl rfl (Go.Sl.v_move rfl) ?_
    refine Go.Sl.ow_val rfl rfl (Go.Sl.v_load rfl (Go.Sl.Var.atN Ty.ag102 .here Go.Sl.GetN.all (by first | rfl | assumption))) ?_
    (refine Go.Sl.ow_call rfl rfl rfl rfl (ha (by repeat (first | exact Go.Sl.Sel.here | apply Go.Sl.Sel.there))) ?_; rintro _ _ ⟨x18, rfl, hq18, rfl⟩)
    refine Go.Sl.ow_nil ?_
    refine Go.Sl.xw_block ?_
    refine Go.Sl.xw_then ?_
    refine Go.Sl.cw_region ?_
    refine Go.Sl.ow_val rfl rfl (Go.Sl.v_add rfl rfl (Go.Sl.nw_i64 (by omega) (by omega))) ?_
    refine Go.Sl.ow_val rfl rfl (Go.Sl.v_move rfl) ?_
    refine Go.Sl.ow_nil ?_
    exact xw_round ((i + 1, x18) : Nat × Hp) ⟨by dsimp only; omega, hq18⟩ (by dsimp only; omega) (by first | exact Go.Sl.Cov.refl _ | (intro p; simp only [List.flatten_cons, List.flatten_nil, List.flatten_append, List.append_nil, List.nil_append, Go.Sl.cnt_append, Go.Sl.cnt_cons, Go.Sl.cnt_nil, List.set_cons_zero, List.set_cons_succ, List.length_nil, List.length_cons, Nat.zero_add, List.append]; omega)) (by repeat (first | exact True.intro | refine And.intro rfl ?_))
  · have hi2 : i = x.came.length := by omega
    subst hi2
    rw [List.take_length] at hSi
    exact ⟨(bs, ci), rfl, hSi, (by first | exact Go.Sl.Cov.refl _ | (intro p; simp only [List.flatten_cons, List.flatten_nil, List.flatten_append, List.append_nil, List.nil_append, Go.Sl.cnt_append, Go.Sl.cnt_cons, Go.Sl.cnt_nil, List.set_cons_zero, List.set_cons_succ, List.length_nil, List.length_cons, Nat.zero_add, List.append]; omega))⟩

theorem fold1_c {B : Nat} {w0 : World} {G : List Hp} {e : EvM} {p : EvP} {a : PkM} {be : Nat} (hs : Sub [(be, .cells (e.cells p).toArray 62 (0, 0))] G) (hE : EvIn (St B w0 G) e p) (hn : 2 ≤ e.n.length) :
    Go.Sl.Fn Try.prog 105 #[enPk.val a, .pointer (some ⟨be, 0, none⟩)] B w0 G fun u G' => u = .bool (decide (a.num = e.at 1)) ∧ G' = G := by
  refine Fn.pure ?_
  have hat : e.at 1 = e.n[1]'(by omega) := by unfold EvM.at; rw [List.getD_eq_getElem?_getD, List.getElem?_eq_getElem (by omega)]; rfl
  refine fn_enter Try.func105 rfl (by kernel_rfl) Try.ntmps105 (by simp) ?_
  unfold EvM.cells at hs
  have h1 : 1 < e.n.length := by omega
  refine Go.Sl.cw_seq ?_
  refine Go.Sl.cw_region ?_
  (refine Go.Sl.ow_box rfl rfl rfl rfl ?_; intro b2)
  refine Go.Sl.ow_val rfl rfl (Go.Sl.v_assign rfl) ?_
  refine Go.Sl.ow_nil ?_
  refine Go.Sl.xw_then ?_
  refine Go.Sl.cw_seq ?_
  refine Go.Sl.cw_quiet Ty.mixed (by decide +kernel) ?_
  refine Go.Sl.kw_val rfl rfl (Go.Sl.v_fieldAddr0 Ty.fd120_0 rfl) ?_
  refine Go.Sl.kw_val rfl rfl (Go.Sl.v_load rfl (Go.Sl.Var.at1 Ty.sc22 .here (Go.Sl.GetN.lit rfl))) ?_
  refine Go.Sl.kw_val rfl rfl (Go.Sl.v_fieldAddr0 Ty.fd62_2 rfl) ?_
  refine Go.Sl.kw_val rfl rfl (Go.Sl.v_load rfl (Go.Sl.Var.sub1 Ty.sc60 (by repeat (first | assumption | refine Go.Sl.Sub.there ?_)) (.head _) (Go.Sl.GetN.lit rfl))) ?_
  refine Go.Sl.kw_val rfl rfl (Go.Sl.v_indexAddr_vw (i := 1) Try.underlying60 (qTy) rfl rfl (hE.n.cov (by first | exact Go.Sl.Cov.refl _ | (intro p; simp only [List.flatten_cons, List.flatten_nil, List.flatten_append, List.append_nil, List.nil_append, Go.Sl.cnt_append, Go.Sl.cnt_cons, Go.Sl.cnt_nil, List.set_cons_zero, List.set_cons_succ, List.length_nil, List.length_cons, Nat.zero_add, List.append]; omega))) rfl (by omega)) ?_
  refine Go.Sl.kw_val rfl rfl (Go.Sl.v_load rfl (Go.Sl.Vw.var (qTy) (hE.n.cov (by first | exact Go.Sl.Cov.refl _ | (intro p; simp only [List.flatten_cons, List.flatten_nil, List.flatten_append, List.append_nil, List.nil_append, Go.Sl.cnt_append, Go.Sl.cnt_cons, Go.Sl.cnt_nil, List.set_cons_zero, List.set_cons_succ, List.length_nil, List.length_cons, Nat.zero_add, List.append]; omega))) (by omega))) ?_
  refine Go.Sl.kw_val rfl rfl (Go.Sl.v_eql rfl rfl) ?_
  refine Go.Sl.kw_val rfl rfl (Go.Sl.v_assign rfl) ?_
  refine Go.Sl.kw_nil ?_
  refine Go.Sl.xw_then ?_
  refine Go.Sl.cw_ret ?_
  refine Go.Sl.ret1 rfl (Go.Sl.res_tmp rfl) ?_
  exact ⟨by rw [hat], (by first | exact Go.Sl.Cov.refl _ | (intro p; simp only [List.flatten_cons, List.flatten_nil, List.flatten_append, List.append_nil, List.nil_append, Go.Sl.cnt_append, Go.Sl.cnt_cons, Go.Sl.cnt_nil, List.set_cons_zero, List.set_cons_succ, List.length_nil, List.length_cons, Nat.zero_add, List.append]; omega))⟩
end Go.Proofs.Ytckdhelnafjddaa
