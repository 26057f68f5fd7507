/- Frames in memory, and which may be written. Conditions: numbers fit their types. -/
import Derived.Test.YtckdhelnafjddaaFrP
namespace Go.Proofs.Ytckdhelnafjddaa
open Go Go.Sl Go.Proofs Go.RowKit Go.ChangeShapes Go.WideShapes Go.ChangeAt
set_option maxRecDepth 20000
set_option linter.unusedVariables false
set_option linter.unusedSimpArgs false

/-- where a frame's lists lie -/
structure FrP where
  da : Option Addr
  dc : Nat
  ra : Option Addr
  rc : Nat
  ia : Option Addr
  ic : Nat
def u8V (b : UInt8) : Value := .int .u8 b.toNat
def FrM.tail (f : FrM) : List Value := f.tok.map u8V ++ f.wd.map u8V
def FrM.cells (f : FrM) (p : FrP) : List Value :=
  .int .u8 f.k :: .int .u64 f.st :: .int .u64 f.off :: .int .u64 f.lim :: .int .u64 f.cod :: .slice p.da f.data.length p.dc :: .bool f.fin :: .slice p.ra f.rg.length p.rc :: .int .u64 f.dl ::
    .int .u64 f.e0 :: .int .u64 f.e1 :: .int .u64 f.e2 :: .int .u64 f.sq :: .int .u64 f.pr :: .slice p.ia f.id.length p.ic :: f.tail
structure FrE where
  m : FrM
  p : FrP
def enF : Enc FrE := ⟨fun e => e.m.cells e.p, 39, fun e => .agg (e.m.cells e.p).toArray, fun e => e.m.ok⟩
theorem FrM.cells_len {f : FrM} {p : FrP} (h : f.ok) : (f.cells p).length = 39 := by
  have h1 := h.tok
  have h2 := h.wd
  simp only [FrM.cells, FrM.tail, List.length_cons, List.length_append, List.length_map]
  omega
theorem FrM.cells_one {f : FrM} {p : FrP} : ∀ u ∈ f.cells p, u.oneCell' = true := by
  intro u hu
  simp only [FrM.cells, FrM.tail, List.mem_cons, List.mem_append, List.mem_map] at hu
  rcases hu with rfl | rfl | rfl | rfl | rfl | rfl | rfl | rfl | rfl | rfl | rfl | rfl | rfl | rfl | rfl | ⟨b, _, rfl⟩ | ⟨b, _, rfl⟩ <;> rfl
theorem fTy : EncTy Try.prog 30 enF := EncTy.agg Ty.ag30 (by decide) (fun _ => rfl) (fun a h => FrM.cells_len h) (fun a _ u hu => FrM.cells_one u hu)
/-- its lists can be read -/
structure FrIn (S : World → Prop) (f : FrM) (p : FrP) : Prop where
  d : Vw enB S (.slice p.da f.data.length p.dc) f.data
  r : Vw enR S (.slice p.ra f.rg.length p.rc) f.rg
  i : Vw enB S (.slice p.ia f.id.length p.ic) f.id
theorem FrIn.mono {S S' : World → Prop} {f : FrM} {p : FrP} (h : FrIn S f p) (hS : ∀ w, S' w → S w) : FrIn S' f p := ⟨h.d.mono hS, h.r.mono hS, h.i.mono hS⟩
theorem FrIn.cov {B : Nat} {w0 : World} {G G' : List Hp} {f : FrM} {p : FrP} (h : FrIn (St B w0 G) f p) (hc : Cov G G') : FrIn (St B w0 G') f p := h.mono fun _ hw => hw.cov hc

theorem exists_c {B : Nat} {w0 : World} {G : List Hp} {k : Int} (hk : 0 ≤ k) :
    Go.Sl.Fn Try.prog 85 #[.int .u8 k] B w0 G fun u G' => u = .bool (decide (k ≤ 8 ∨ 16 ≤ k ∧ k ≤ 30)) ∧ G' = G := by
  refine Fn.pure ?_
  refine fn_enter Try.func85 rfl (by kernel_rfl) Try.ntmps85 (by simp) ?_
  refine Go.Sl.cw_seq ?_
  refine Go.Sl.cw_region ?_
  refine Go.Sl.ow_val rfl rfl (Go.Sl.v_assign rfl) ?_
  refine Go.Sl.ow_nil ?_
  refine Go.Sl.xw_then ?_
  refine Go.Sl.cw_seq ?_
  refine Go.Sl.cw_region ?_
  refine Go.Sl.ow_val rfl rfl (Go.Sl.v_move rfl) ?_
  refine Go.Sl.ow_val rfl rfl (Go.Sl.v_leq rfl rfl) ?_
  refine Go.Sl.ow_val rfl rfl (Go.Sl.v_move rfl) ?_
  refine Go.Sl.ow_dec 5 rfl (fun hc5 => ?_) (fun hc5 => ?_)
  refine Go.Sl.ow_skip rfl rfl ?_
  refine Go.Sl.ow_skip rfl rfl ?_
  refine Go.Sl.ow_skip rfl rfl ?_
  refine Go.Sl.ow_skip rfl rfl ?_
  refine Go.Sl.ow_skip rfl rfl ?_
  refine Go.Sl.ow_skip rfl rfl ?_
  refine Go.Sl.ow_val rfl rfl (Go.Sl.v_pick_true rfl rfl) ?_
  refine Go.Sl.ow_val rfl rfl (Go.Sl.v_assign rfl) ?_
  refine Go.Sl.ow_nil ?_
  refine Go.Sl.xw_then ?_
  refine Go.Sl.cw_ret ?_
  refine Go.Sl.ret1 rfl (Go.Sl.res_tmp rfl) ?_
  rotate_left
  refine Go.Sl.ow_val rfl rfl (Go.Sl.v_move rfl) ?_
  refine Go.Sl.ow_val rfl rfl (Go.Sl.v_geq rfl rfl) ?_
  refine Go.Sl.ow_val rfl rfl (Go.Sl.v_move rfl) ?_
  refine Go.Sl.ow_dec 8 rfl (fun hc8 => ?_) (fun hc8 => ?_)
  refine Go.Sl.ow_val rfl rfl (Go.Sl.v_move rfl) ?_
  refine Go.Sl.ow_val rfl rfl (Go.Sl.v_leq rfl rfl) ?_
  refine Go.Sl.ow_val rfl rfl (Go.Sl.v_pick_true rfl rfl) ?_
  refine Go.Sl.ow_val rfl rfl (Go.Sl.v_pick_false rfl rfl) ?_
  refine Go.Sl.ow_val rfl rfl (Go.Sl.v_assign rfl) ?_
  refine Go.Sl.ow_nil ?_
  refine Go.Sl.xw_then ?_
  refine Go.Sl.cw_ret ?_
  refine Go.Sl.ret1 rfl (Go.Sl.res_tmp rfl) ?_
  rotate_left
  refine Go.Sl.ow_skip rfl rfl ?_
  refine Go.Sl.ow_skip rfl rfl ?_
  refine Go.Sl.ow_val rfl rfl (Go.Sl.v_pick_false rfl rfl) ?_
  refine Go.Sl.ow_val rfl rfl (Go.Sl.v_pick_false rfl rfl) ?_
  refine Go.Sl.ow_val rfl rfl (Go.Sl.v_assign rfl) ?_
  refine Go.Sl.ow_nil ?_
  refine Go.Sl.xw_then ?_
  refine Go.Sl.cw_ret ?_
  refine Go.Sl.ret1 rfl (Go.Sl.res_tmp rfl) ?_
  rotate_left
  · exact ⟨by rw [decide_eq_true (by omega)], (by first | exact Go.Sl.Cov.refl _ | (intro p; simp only [List.flatten_cons, List.flatten_nil, List.flatten_append, List.append_nil, List.nil_append, Go.Sl.cnt_append, Go.Sl.cnt_cons, Go.Sl.cnt_nil, List.set_cons_zero, List.set_cons_succ, List.length_nil, List.length_cons, Nat.zero_add, List.append]; omega))⟩
  · exact ⟨by congr 1; exact decide_eq_decide.2 (by omega), (by first | exact Go.Sl.Cov.refl _ | (intro p; simp only [List.flatten_cons, List.flatten_nil, List.flatten_append, List.append_nil, List.nil_append, Go.Sl.cnt_append, Go.Sl.cnt_cons, Go.Sl.cnt_nil, List.set_cons_zero, List.set_cons_succ, List.length_nil, List.length_cons, Nat.zero_add, List.append]; omega))⟩
  · exact ⟨by rw [decide_eq_false (by omega)], (by first | exact Go.Sl.Cov.refl _ | (intro p; simp only [List.flatten_cons, List.flatten_nil, List.flatten_append, List.append_nil, List.nil_append, Go.Sl.cnt_append, Go.Sl.cnt_cons, Go.Sl.cnt_nil, List.set_cons_zero, List.set_cons_succ, List.length_nil, List.length_cons, Nat.zero_add, List.append]; omega))⟩

/-- nothing changes; a value of a kind -/
theorem Fn.val {P : Program} {f : FuncId} {args : Array Value} {B : Nat} {w0 : World} {G : List Hp} {τ : Type} {V : τ → Value} {Pd : τ → Prop}
    (h : Go.Sl.Fn P f args B w0 G fun u G' => ∃ x, u = V x ∧ Pd x ∧ Cov G G') : Go.Sl.Fn P f args B w0 G fun u G' => ∃ x : τ, u = V x ∧ Pd x ∧ G' = G :=
  h.weak fun v G' ⟨x, hu, hp, hc⟩ => ⟨_, ⟨x, hu, hp, rfl⟩, fun w hw => hw.cov hc⟩
theorem checkRanges_c {B : Nat} {w0 : World} {G : List Hp} {ao : Option Addr} {n cap : Nat} {l : List Rg} (hV : Vw enR (St B w0 G) (.slice ao n cap) l) (hn : l.length ≤ 9223372036854775807) :
    Go.Sl.Fn Try.prog 86 #[.slice ao n cap] B w0 G fun u G' => ∃ e : Int, u = .int .i64 e ∧ (e = 0 ↔ RgUp l) ∧ G' = G := by
  refine Fn.val (V := fun e : Int => .int .i64 e) ?_
  have hl := hV.len
  subst hl
  refine fn_enter Try.func86 rfl (by kernel_rfl) Try.ntmps86 (by simp) ?_
  refine Go.Sl.cw_seq ?_
  refine Go.Sl.cw_region ?_
  refine Go.Sl.ow_val rfl rfl (Go.Sl.v_assign rfl) ?_
  refine Go.Sl.ow_nil ?_
  refine Go.Sl.xw_then ?_
  refine Go.Sl.cw_seq ?_
  refine Go.Sl.cw_seq ?_
  refine Go.Sl.cw_region ?_
  refine Go.Sl.ow_val rfl rfl (Go.Sl.v_move rfl) ?_
  refine Go.Sl.ow_val rfl rfl (Go.Sl.v_len rfl Try.underlying27 rfl) ?_
  refine Go.Sl.ow_val rfl rfl (Go.Sl.v_eql rfl rfl) ?_
  refine Go.Sl.ow_val rfl rfl (Go.Sl.v_move rfl) ?_
  refine Go.Sl.ow_dec 8 rfl (fun hc8 => ?_) (fun hc8 => ?_)
  refine Go.Sl.ow_skip rfl rfl ?_
  refine Go.Sl.ow_skip rfl rfl ?_
  refine Go.Sl.ow_skip rfl rfl ?_
  refine Go.Sl.ow_val rfl rfl (Go.Sl.v_pick_true rfl rfl) ?_
  refine Go.Sl.ow_nil ?_
  refine Go.Sl.xw_then ?_
  refine Go.Sl.cw_true rfl ?_
  refine Go.Sl.cw_seq ?_
  refine Go.Sl.cw_region ?_
  refine Go.Sl.ow_val rfl rfl (Go.Sl.v_assign rfl) ?_
  refine Go.Sl.ow_nil ?_
  refine Go.Sl.xw_then ?_
  refine Go.Sl.cw_ret ?_
  refine Go.Sl.xw_then_ret ?_
  refine Go.Sl.ret1 rfl (Go.Sl.res_tmp rfl) ?_
  rotate_left
  refine Go.Sl.ow_val rfl rfl (Go.Sl.v_move rfl) ?_
  refine Go.Sl.ow_val rfl rfl (Go.Sl.v_len rfl Try.underlying27 rfl) ?_
  refine Go.Sl.ow_val rfl rfl (Go.Sl.v_gtr rfl rfl) ?_
  refine Go.Sl.ow_val rfl rfl (Go.Sl.v_pick_false rfl rfl) ?_
  refine Go.Sl.ow_nil ?_
  refine Go.Sl.xw_then ?_
  refine Go.Sl.cw_dec rfl (fun hc12 => ?_) (fun hc12 => ?_)
  refine Go.Sl.cw_seq ?_
  refine Go.Sl.cw_region ?_
  refine Go.Sl.ow_val rfl rfl (Go.Sl.v_assign rfl) ?_
  refine Go.Sl.ow_nil ?_
  refine Go.Sl.xw_then ?_
  refine Go.Sl.cw_ret ?_
  refine Go.Sl.xw_then_ret ?_
  refine Go.Sl.ret1 rfl (Go.Sl.res_tmp rfl) ?_
  rotate_left
  refine Go.Sl.cw_skip ?_
  refine Go.Sl.xw_then ?_
  refine Go.Sl.cw_seq ?_
  refine Go.Sl.cw_seq ?_
  refine Go.Sl.cw_region ?_
  refine Go.Sl.ow_val rfl rfl (Go.Sl.v_move rfl) ?_
  refine Go.Sl.ow_val rfl rfl (Go.Sl.v_len rfl Try.underlying27 rfl) ?_
  refine Go.Sl.ow_val rfl rfl (Go.Sl.v_move rfl) ?_
  refine Go.Sl.ow_nil ?_
  refine Go.Sl.xw_then ?_
  refine Go.Sl.cw_block ?_
  rotate_left
  · exact ⟨7, rfl, ⟨fun h => absurd h (by decide), fun h => by have := h.pos; omega⟩, (by first | exact Go.Sl.Cov.refl _ | (intro p; simp only [List.flatten_cons, List.flatten_nil, List.flatten_append, List.append_nil, List.nil_append, Go.Sl.cnt_append, Go.Sl.cnt_cons, Go.Sl.cnt_nil, List.set_cons_zero, List.set_cons_succ, List.length_nil, List.length_cons, Nat.zero_add, List.append]; omega))⟩
  · exact ⟨7, rfl, ⟨fun h => absurd h (by decide), fun h => by have := h.len; omega⟩, (by first | exact Go.Sl.Cov.refl _ | (intro p; simp only [List.flatten_cons, List.flatten_nil, List.flatten_append, List.append_nil, List.nil_append, Go.Sl.cnt_append, Go.Sl.cnt_cons, Go.Sl.cnt_nil, List.set_cons_zero, List.set_cons_succ, List.length_nil, List.length_cons, Nat.zero_add, List.append]; omega))⟩
  refine Go.Sl.cw_loop2 (ι := (Nat)) [(0, _), (5, _), (8, _), (13, _), (14, _)] ⟨rfl, rfl, rfl, rfl, rfl, trivial⟩ ((fun j => [(15, .int .i64 j)])) ((fun j => j ≤ l.length ∧ (∀ i (h : i < l.length), i < j → l[i].a < l[i].b) ∧ (∀ i (h : i + 1 < l.length), i + 1 < j → l[i].b < l[i + 1].a))) ((fun j => l.length - j)) ((fun _ => G)) (0) (by repeat (first | exact True.intro | refine And.intro rfl ?_)) (by first | exact Go.Sl.Cov.refl _ | (intro p; simp only [List.flatten_cons, List.flatten_nil, List.flatten_append, List.append_nil, List.nil_append, Go.Sl.cnt_append, Go.Sl.cnt_cons, Go.Sl.cnt_nil, List.set_cons_zero, List.set_cons_succ, List.length_nil, List.length_cons, Nat.zero_add, List.append]; omega)) ?_ ?_
  · exact ⟨Nat.zero_le _, fun i _ h => by omega, fun i _ h => by omega⟩
  rintro j ⟨hj, h1, h2⟩
  refine Go.Sl.cw_seq ?_
  refine Go.Sl.cw_region ?_
  refine Go.Sl.ow_val rfl rfl (Go.Sl.v_lss rfl rfl) ?_
  refine Go.Sl.ow_nil ?_
  refine Go.Sl.xw_then ?_
  refine Go.Sl.cw_seq ?_
  refine Go.Sl.cw_dec rfl (fun hc16 => ?_) (fun hc16 => ?_)
  refine Go.Sl.cw_skip ?_
  refine Go.Sl.xw_then ?_
  rotate_left
  refine Go.Sl.cw_exit ?_
  refine Go.Sl.xw_then_exit ?_
  refine Go.Sl.xw_round_exit ?_
  refine Go.Sl.xw_block_exit ?_
  refine Go.Sl.xw_then ?_
  refine Go.Sl.cw_seq ?_
  refine Go.Sl.cw_region ?_
  refine Go.Sl.ow_val rfl rfl (Go.Sl.v_assign rfl) ?_
  refine Go.Sl.ow_nil ?_
  refine Go.Sl.xw_then ?_
  refine Go.Sl.cw_ret ?_
  refine Go.Sl.ret1 rfl (Go.Sl.res_tmp rfl) ?_
  rotate_left
  · have hj2 : j < l.length := by omega
    have hok := hV.ok _ (List.getElem_mem hj2)
    refine Go.Sl.cw_seq ?_
    refine Go.Sl.cw_block ?_
    refine Go.Sl.cw_seq ?_
    refine Go.Sl.cw_region ?_
    refine Go.Sl.ow_val rfl rfl (Go.Sl.v_move rfl) ?_
    refine Go.Sl.ow_val rfl rfl (Go.Sl.v_indexAddr_vw Try.underlying27 (rTy) rfl rfl (by assumption) rfl (by omega)) ?_
    refine Go.Sl.ow_val rfl rfl (Go.Sl.v_load rfl (Go.Sl.Vw.var (rTy) (hV.cov (by first | exact Go.Sl.Cov.refl _ | (intro p; simp only [List.flatten_cons, List.flatten_nil, List.flatten_append, List.append_nil, List.nil_append, Go.Sl.cnt_append, Go.Sl.cnt_cons, Go.Sl.cnt_nil, List.set_cons_zero, List.set_cons_succ, List.length_nil, List.length_cons, Nat.zero_add, List.append]; omega))) (by omega))) ?_
    (refine Go.Sl.ow_alloc rfl rfl Ty.ze102 ?_; intro b4)
    refine Go.Sl.ow_val rfl rfl (Go.Sl.v_assign rfl) ?_
    refine Go.Sl.ow_storeE rfl (rTy) rfl rfl .here (by first | rfl | assumption) (by assumption) ?_
    refine Go.Sl.ow_nil ?_
    refine Go.Sl.xw_then ?_
    refine Go.Sl.cw_seq ?_
    refine Go.Sl.cw_quiet Ty.mixed (by decide +kernel) ?_
    refine Go.Sl.kw_val rfl rfl (Go.Sl.v_fieldAddr0 Ty.fd102_0 rfl) ?_
    refine Go.Sl.kw_val rfl rfl (Go.Sl.v_load rfl (Go.Sl.Var.at1 Ty.sc22 .here (Go.Sl.GetN.lit rfl))) ?_
    refine Go.Sl.kw_val rfl rfl (Go.Sl.v_fieldAddr0 Ty.fd102_1 rfl) ?_
    refine Go.Sl.kw_val rfl rfl (Go.Sl.v_load rfl (Go.Sl.Var.at1 Ty.sc22 .here (Go.Sl.GetN.lit rfl))) ?_
    refine Go.Sl.kw_val rfl rfl (Go.Sl.v_geq rfl rfl) ?_
    refine Go.Sl.kw_val rfl rfl (Go.Sl.v_move rfl) ?_
    refine Go.Sl.kw_dec 25 rfl (fun hc25 => ?_) (fun hc25 => ?_)
    refine Go.Sl.kw_skip rfl rfl ?_
    refine Go.Sl.kw_skip rfl rfl ?_
    refine Go.Sl.kw_skip rfl rfl ?_
    refine Go.Sl.kw_skip rfl rfl ?_
    refine Go.Sl.kw_skip rfl rfl ?_
    refine Go.Sl.kw_skip rfl rfl ?_
    refine Go.Sl.kw_skip rfl rfl ?_
    refine Go.Sl.kw_skip rfl rfl ?_
    refine Go.Sl.kw_skip rfl rfl ?_
    refine Go.Sl.kw_skip rfl rfl ?_
    refine Go.Sl.kw_skip rfl rfl ?_
    refine Go.Sl.kw_skip rfl rfl ?_
    refine Go.Sl.kw_skip rfl rfl ?_
    refine Go.Sl.kw_val rfl rfl (Go.Sl.v_pick_true rfl rfl) ?_
    refine Go.Sl.kw_nil ?_
    refine Go.Sl.xw_then ?_
    refine Go.Sl.cw_true rfl ?_
    refine Go.Sl.cw_seq ?_
    refine Go.Sl.cw_region ?_
    refine Go.Sl.ow_val rfl rfl (Go.Sl.v_assign rfl) ?_
    refine Go.Sl.ow_nil ?_
    refine Go.Sl.xw_then ?_
    refine Go.Sl.cw_ret ?_
    refine Go.Sl.xw_block_ret ?_
    refine Go.Sl.xw_then_ret ?_
    refine Go.Sl.xw_round_ret ?_
    refine Go.Sl.xw_block_ret ?_
    refine Go.Sl.xw_then_ret ?_
    refine Go.Sl.ret1 rfl (Go.Sl.res_tmp rfl) ?_
    rotate_left
    refine Go.Sl.kw_val rfl rfl (Go.Sl.v_move rfl) ?_
    refine Go.Sl.kw_val rfl rfl (Go.Sl.v_gtr rfl rfl) ?_
    refine Go.Sl.kw_val rfl rfl (Go.Sl.v_move rfl) ?_
    refine Go.Sl.kw_dec 28 rfl (fun hc28 => ?_) (fun hc28 => ?_)
    refine Go.Sl.kw_val rfl rfl (Go.Sl.v_fieldAddr0 Ty.fd102_0 rfl) ?_
    refine Go.Sl.kw_val rfl rfl (Go.Sl.v_load rfl (Go.Sl.Var.at1 Ty.sc22 .here (Go.Sl.GetN.lit rfl))) ?_
    refine Go.Sl.kw_val rfl rfl (Go.Sl.v_move rfl) ?_
    refine Go.Sl.kw_val rfl rfl (Go.Sl.v_move rfl) ?_
    refine Go.Sl.kw_val rfl rfl (Go.Sl.v_sub rfl rfl (Go.Sl.nw_i64 (by omega) (by omega))) ?_
    refine Go.Sl.kw_val rfl rfl (Go.Sl.v_indexAddr_vw Try.underlying27 (rTy) rfl rfl (hV.cov (by first | exact Go.Sl.Cov.refl _ | (intro p; simp only [List.flatten_cons, List.flatten_nil, List.flatten_append, List.append_nil, List.nil_append, Go.Sl.cnt_append, Go.Sl.cnt_cons, Go.Sl.cnt_nil, List.set_cons_zero, List.set_cons_succ, List.length_nil, List.length_cons, Nat.zero_add, List.append]; omega))) (Int.toNat_of_nonneg (by omega)).symm (by omega)) ?_
    refine Go.Sl.kw_val rfl rfl (Go.Sl.v_fieldAddr Ty.fd102_1 rfl) ?_
    refine Go.Sl.kw_val rfl rfl (Go.Sl.v_load rfl (Go.Sl.Vw.fld1 (rTy) Ty.sc22 (hV.cov (by first | exact Go.Sl.Cov.refl _ | (intro p; simp only [List.flatten_cons, List.flatten_nil, List.flatten_append, List.append_nil, List.nil_append, Go.Sl.cnt_append, Go.Sl.cnt_cons, Go.Sl.cnt_nil, List.set_cons_zero, List.set_cons_succ, List.length_nil, List.length_cons, Nat.zero_add, List.append]; omega))) (by omega) rfl)) ?_
    refine Go.Sl.kw_val rfl rfl (Go.Sl.v_leq rfl rfl) ?_
    refine Go.Sl.kw_val rfl rfl (Go.Sl.v_pick_true rfl rfl) ?_
    refine Go.Sl.kw_val rfl rfl (Go.Sl.v_pick_false rfl rfl) ?_
    refine Go.Sl.kw_nil ?_
    refine Go.Sl.xw_then ?_
    refine Go.Sl.cw_dec rfl (fun hc39 => ?_) (fun hc39 => ?_)
    refine Go.Sl.cw_seq ?_
    refine Go.Sl.cw_region ?_
    refine Go.Sl.ow_val rfl rfl (Go.Sl.v_assign rfl) ?_
    refine Go.Sl.ow_nil ?_
    refine Go.Sl.xw_then ?_
    refine Go.Sl.cw_ret ?_
    refine Go.Sl.xw_block_ret ?_
    refine Go.Sl.xw_then_ret ?_
    refine Go.Sl.xw_round_ret ?_
    refine Go.Sl.xw_block_ret ?_
    refine Go.Sl.xw_then_ret ?_
    refine Go.Sl.ret1 rfl (Go.Sl.res_tmp rfl) ?_
    rotate_left
    refine Go.Sl.cw_skip ?_
    refine Go.Sl.xw_block ?_
    refine Go.Sl.xw_then ?_
    refine Go.Sl.cw_region ?_
    refine Go.Sl.ow_val rfl rfl (Go.Sl.v_add rfl rfl (Go.Sl.nw_i64 (by omega) (by omega))) ?_
    refine Go.Sl.ow_val rfl rfl (Go.Sl.v_move rfl) ?_
    refine Go.Sl.ow_nil ?_
    rotate_left
    refine Go.Sl.kw_skip rfl rfl ?_
    refine Go.Sl.kw_skip rfl rfl ?_
    refine Go.Sl.kw_skip rfl rfl ?_
    refine Go.Sl.kw_skip rfl rfl ?_
    refine Go.Sl.kw_skip rfl rfl ?_
    refine Go.Sl.kw_skip rfl rfl ?_
    refine Go.Sl.kw_skip rfl rfl ?_
    refine Go.Sl.kw_skip rfl rfl ?_
    refine Go.Sl.kw_skip rfl rfl ?_
    refine Go.Sl.kw_val rfl rfl (Go.Sl.v_pick_false rfl rfl) ?_
    refine Go.Sl.kw_val rfl rfl (Go.Sl.v_pick_false rfl rfl) ?_
    refine Go.Sl.kw_nil ?_
    refine Go.Sl.xw_then ?_
    refine Go.Sl.cw_false rfl ?_
    refine Go.Sl.cw_skip ?_
    refine Go.Sl.xw_block ?_
    refine Go.Sl.xw_then ?_
    refine Go.Sl.cw_region ?_
    refine Go.Sl.ow_val rfl rfl (Go.Sl.v_add rfl rfl (Go.Sl.nw_i64 (by omega) (by omega))) ?_
    refine Go.Sl.ow_val rfl rfl (Go.Sl.v_move rfl) ?_
    refine Go.Sl.ow_nil ?_
    rotate_left
    · exact ⟨10, rfl, ⟨fun h => absurd h (by decide), fun h => by have := h.lt j hj2; omega⟩, (by first | exact Go.Sl.Cov.refl _ | (intro p; simp only [List.flatten_cons, List.flatten_nil, List.flatten_append, List.append_nil, List.nil_append, Go.Sl.cnt_append, Go.Sl.cnt_cons, Go.Sl.cnt_nil, List.set_cons_zero, List.set_cons_succ, List.length_nil, List.length_cons, Nat.zero_add, List.append]; omega))⟩
    · refine ⟨10, rfl, ⟨fun h => absurd h (by decide), fun h => ?_⟩, (by first | exact Go.Sl.Cov.refl _ | (intro p; simp only [List.flatten_cons, List.flatten_nil, List.flatten_append, List.append_nil, List.nil_append, Go.Sl.cnt_append, Go.Sl.cnt_cons, Go.Sl.cnt_nil, List.set_cons_zero, List.set_cons_succ, List.length_nil, List.length_cons, Nat.zero_add, List.append]; omega))⟩
      obtain ⟨i, rfl⟩ : ∃ i, j = i + 1 := ⟨j - 1, by omega⟩
      have e : ((i + 1 : Nat) : Int).toNat - 1 = i := by omega
      have := h.up i hj2
      simp only [show (((i + 1 : Nat) : Int) - 1).toNat = i from by omega] at hc39
      omega
    · refine xw_round (j + 1) ⟨by omega, fun i h hi => ?_, fun i h hi => ?_⟩ (by omega) (by first | exact Go.Sl.Cov.refl _ | (intro p; simp only [List.flatten_cons, List.flatten_nil, List.flatten_append, List.append_nil, List.nil_append, Go.Sl.cnt_append, Go.Sl.cnt_cons, Go.Sl.cnt_nil, List.set_cons_zero, List.set_cons_succ, List.length_nil, List.length_cons, Nat.zero_add, List.append]; omega)) (by repeat (first | exact True.intro | refine And.intro rfl ?_))
      · by_cases he : i = j
        · subst he; omega
        · exact h1 i h (by omega)
      · by_cases he : i + 1 = j
        · subst he
          simp only [show (((i + 1 : Nat) : Int) - 1).toNat = i from by omega] at hc39
          omega
        · exact h2 i h (by omega)
    · refine xw_round (j + 1) ⟨by omega, fun i h hi => ?_, fun i h hi => ?_⟩ (by omega) (by first | exact Go.Sl.Cov.refl _ | (intro p; simp only [List.flatten_cons, List.flatten_nil, List.flatten_append, List.append_nil, List.nil_append, Go.Sl.cnt_append, Go.Sl.cnt_cons, Go.Sl.cnt_nil, List.set_cons_zero, List.set_cons_succ, List.length_nil, List.length_cons, Nat.zero_add, List.append]; omega)) (by repeat (first | exact True.intro | refine And.intro rfl ?_))
      · by_cases he : i = j
        · subst he; omega
        · exact h1 i h (by omega)
      · omega
  · exact ⟨0, rfl, ⟨fun _ => ⟨by omega, by omega, fun i h => h1 i h (by omega), fun i h => h2 i h (by omega)⟩, fun _ => rfl⟩, (by first | exact Go.Sl.Cov.refl _ | (intro p; simp only [List.flatten_cons, List.flatten_nil, List.flatten_append, List.append_nil, List.nil_append, Go.Sl.cnt_append, Go.Sl.cnt_cons, Go.Sl.cnt_nil, List.set_cons_zero, List.set_cons_succ, List.length_nil, List.length_cons, Nat.zero_add, List.append]; omega))⟩

theorem check_c {B : Nat} {w0 : World} {G : List Hp} {f : FrM} {p : FrP} (hok : f.ok) (hV : FrIn (St B w0 G) f p) (hr : f.rg.length ≤ 9223372036854775807) (hd : f.data.length ≤ 9223372036854775807) (hi : f.id.length ≤ 9223372036854775807) :
    Go.Sl.Fn Try.prog 62 #[.agg (f.cells p).toArray] B w0 G fun u G' => ∃ e : Int, u = .int .i64 e ∧ (e = 0 ↔ Chk f) ∧ G' = G := by
  refine Fn.val (V := fun e : Int => .int .i64 e) ?_
  have hk := hok.k
  have hoff := hok.off
  have hlim := hok.lim
  unfold inU at hoff hlim
  refine fn_enter Try.func62 rfl (by kernel_rfl) Try.ntmps62 (by simp) ?_
  refine Go.Sl.cw_seq ?_
  refine Go.Sl.cw_region ?_
  (refine Go.Sl.ow_box rfl rfl rfl rfl ?_; intro b1)
  refine Go.Sl.ow_val rfl rfl (Go.Sl.v_assign rfl) ?_
  refine Go.Sl.ow_nil ?_
  refine Go.Sl.xw_then ?_
  refine Go.Sl.cw_seq ?_
  refine Go.Sl.cw_seq ?_
  refine Go.Sl.cw_region ?_
  refine Go.Sl.ow_val rfl rfl (Go.Sl.v_fieldAddr0 Ty.fd30_0 rfl) ?_
  refine Go.Sl.ow_val rfl rfl (Go.Sl.v_load rfl (Go.Sl.Var.at1 Ty.sc26 .here (Go.Sl.GetN.lit rfl))) ?_
  refine Go.Sl.ow_val rfl rfl (Go.Sl.v_call rfl rfl (exists_c (by omega))) ?_
  refine Go.Sl.ow_val rfl rfl (Go.Sl.v_not rfl) ?_
  refine Go.Sl.ow_nil ?_
  refine Go.Sl.xw_then ?_
  refine Go.Sl.cw_dec rfl (fun hc6 => ?_) (fun hc6 => ?_)
  refine Go.Sl.cw_seq ?_
  refine Go.Sl.cw_region ?_
  refine Go.Sl.ow_val rfl rfl (Go.Sl.v_assign rfl) ?_
  refine Go.Sl.ow_nil ?_
  refine Go.Sl.xw_then ?_
  refine Go.Sl.cw_ret ?_
  refine Go.Sl.xw_then_ret ?_
  refine Go.Sl.ret1 rfl (Go.Sl.res_tmp rfl) ?_
  rotate_left
  refine Go.Sl.cw_skip ?_
  refine Go.Sl.xw_then ?_
  refine Go.Sl.cw_seq ?_
  refine Go.Sl.cw_seq ?_
  refine Go.Sl.cw_region ?_
  refine Go.Sl.ow_val rfl rfl (Go.Sl.v_fieldAddr0 Ty.fd30_0 rfl) ?_
  refine Go.Sl.ow_val rfl rfl (Go.Sl.v_load rfl (Go.Sl.Var.at1 Ty.sc26 .here (Go.Sl.GetN.lit rfl))) ?_
  refine Go.Sl.ow_nil ?_
  refine Go.Sl.xw_then ?_
  refine Go.Sl.cw_block ?_
  refine Go.Sl.cw_seq ?_
  refine Go.Sl.cw_seq ?_
  refine Go.Sl.cw_region ?_
  refine Go.Sl.ow_val rfl rfl (Go.Sl.v_eql rfl rfl) ?_
  refine Go.Sl.ow_val rfl rfl (Go.Sl.v_assign rfl) ?_
  refine Go.Sl.ow_nil ?_
  refine Go.Sl.xw_then ?_
  refine Go.Sl.cw_dec rfl (fun hc9 => ?_) (fun hc9 => ?_)
  refine Go.Sl.cw_skip ?_
  refine Go.Sl.xw_then ?_
  refine Go.Sl.cw_dec rfl (fun hc9 => ?_) (fun hc9 => ?_)
  rotate_left; (exfalso; omega); rotate_right
  refine Go.Sl.cw_seq ?_
  refine Go.Sl.cw_region ?_
  refine Go.Sl.ow_val rfl rfl (Go.Sl.v_fieldAddr0 Ty.fd30_7 rfl) ?_
  refine Go.Sl.ow_val rfl rfl (Go.Sl.v_load rfl (Go.Sl.Var.at1 Ty.sc27 .here (Go.Sl.GetN.lit rfl))) ?_
  (refine Go.Sl.ow_call rfl rfl rfl rfl (checkRanges_c (hV.r.cov (by first | exact Go.Sl.Cov.refl _ | (intro p; simp only [List.flatten_cons, List.flatten_nil, List.flatten_append, List.append_nil, List.nil_append, Go.Sl.cnt_append, Go.Sl.cnt_cons, Go.Sl.cnt_nil, List.set_cons_zero, List.set_cons_succ, List.length_nil, List.length_cons, Nat.zero_add, List.append]; omega))) hr) ?_; rintro _ _ ⟨x14, rfl, hq14, rfl⟩)
  refine Go.Sl.ow_val rfl rfl (Go.Sl.v_assign rfl) ?_
  refine Go.Sl.ow_nil ?_
  refine Go.Sl.xw_then ?_
  refine Go.Sl.cw_ret ?_
  refine Go.Sl.xw_block_ret ?_
  refine Go.Sl.xw_then_ret ?_
  refine Go.Sl.ret1 rfl (Go.Sl.res_tmp rfl) ?_
  rotate_left
  refine Go.Sl.cw_region ?_
  refine Go.Sl.ow_val rfl rfl (Go.Sl.v_eql rfl rfl) ?_
  refine Go.Sl.ow_val rfl rfl (Go.Sl.v_assign rfl) ?_
  refine Go.Sl.ow_nil ?_
  refine Go.Sl.xw_then ?_
  refine Go.Sl.cw_dec rfl (fun hc9 => ?_) (fun hc9 => ?_)
  refine Go.Sl.cw_seq ?_
  refine Go.Sl.cw_region ?_
  refine Go.Sl.ow_val rfl rfl (Go.Sl.v_fieldAddr0 Ty.fd30_7 rfl) ?_
  refine Go.Sl.ow_val rfl rfl (Go.Sl.v_load rfl (Go.Sl.Var.at1 Ty.sc27 .here (Go.Sl.GetN.lit rfl))) ?_
  (refine Go.Sl.ow_call rfl rfl rfl rfl (checkRanges_c (hV.r.cov (by first | exact Go.Sl.Cov.refl _ | (intro p; simp only [List.flatten_cons, List.flatten_nil, List.flatten_append, List.append_nil, List.nil_append, Go.Sl.cnt_append, Go.Sl.cnt_cons, Go.Sl.cnt_nil, List.set_cons_zero, List.set_cons_succ, List.length_nil, List.length_cons, Nat.zero_add, List.append]; omega))) hr) ?_; rintro _ _ ⟨x14, rfl, hq14, rfl⟩)
  refine Go.Sl.ow_val rfl rfl (Go.Sl.v_assign rfl) ?_
  refine Go.Sl.ow_nil ?_
  refine Go.Sl.xw_then ?_
  refine Go.Sl.cw_ret ?_
  refine Go.Sl.xw_block_ret ?_
  refine Go.Sl.xw_then_ret ?_
  refine Go.Sl.ret1 rfl (Go.Sl.res_tmp rfl) ?_
  rotate_left
  refine Go.Sl.cw_seq ?_
  refine Go.Sl.cw_seq ?_
  refine Go.Sl.cw_region ?_
  refine Go.Sl.ow_val rfl rfl (Go.Sl.v_eql rfl rfl) ?_
  refine Go.Sl.ow_val rfl rfl (Go.Sl.v_assign rfl) ?_
  refine Go.Sl.ow_nil ?_
  refine Go.Sl.xw_then ?_
  refine Go.Sl.cw_dec rfl (fun hc15 => ?_) (fun hc15 => ?_)
  refine Go.Sl.cw_skip ?_
  refine Go.Sl.xw_then ?_
  refine Go.Sl.cw_dec rfl (fun hc15 => ?_) (fun hc15 => ?_)
  rotate_left; (exfalso; omega); rotate_right
  refine Go.Sl.cw_seq ?_
  refine Go.Sl.cw_seq ?_
  refine Go.Sl.cw_region ?_
  refine Go.Sl.ow_val rfl rfl (Go.Sl.v_fieldAddr0 Ty.fd30_5 rfl) ?_
  refine Go.Sl.ow_val rfl rfl (Go.Sl.v_load rfl (Go.Sl.Var.at1 Ty.sc23 .here (Go.Sl.GetN.lit rfl))) ?_
  refine Go.Sl.ow_val rfl rfl (Go.Sl.v_len rfl Try.underlying23 rfl) ?_
  refine Go.Sl.ow_val rfl rfl (Go.Sl.v_gtr rfl rfl) ?_
  refine Go.Sl.ow_nil ?_
  refine Go.Sl.xw_then ?_
  refine Go.Sl.cw_dec rfl (fun hc21 => ?_) (fun hc21 => ?_)
  refine Go.Sl.cw_seq ?_
  refine Go.Sl.cw_region ?_
  refine Go.Sl.ow_val rfl rfl (Go.Sl.v_assign rfl) ?_
  refine Go.Sl.ow_nil ?_
  refine Go.Sl.xw_then ?_
  refine Go.Sl.cw_ret ?_
  refine Go.Sl.xw_then_ret ?_
  refine Go.Sl.xw_block_ret ?_
  refine Go.Sl.xw_then_ret ?_
  refine Go.Sl.ret1 rfl (Go.Sl.res_tmp rfl) ?_
  rotate_left
  refine Go.Sl.cw_skip ?_
  refine Go.Sl.xw_then ?_
  refine Go.Sl.cw_seq ?_
  refine Go.Sl.cw_region ?_
  refine Go.Sl.ow_val rfl rfl (Go.Sl.v_fieldAddr0 Ty.fd30_2 rfl) ?_
  refine Go.Sl.ow_val rfl rfl (Go.Sl.v_load rfl (Go.Sl.Var.at1 Ty.sc22 .here (Go.Sl.GetN.lit rfl))) ?_
  refine Go.Sl.ow_val rfl rfl (Go.Sl.v_fieldAddr0 Ty.fd30_5 rfl) ?_
  refine Go.Sl.ow_val rfl rfl (Go.Sl.v_load rfl (Go.Sl.Var.at1 Ty.sc23 .here (Go.Sl.GetN.lit rfl))) ?_
  refine Go.Sl.ow_val rfl rfl (Go.Sl.v_len rfl Try.underlying23 rfl) ?_
  refine Go.Sl.ow_val rfl rfl (Go.Sl.v_convert Try.underlying3 Try.underlying22 rfl (Go.Sl.nw_u64 (by omega) (by omega))) ?_
  refine Go.Sl.ow_val rfl rfl (Go.Sl.v_sub rfl rfl (Go.Sl.nw_u64 (by omega) (by omega))) ?_
  refine Go.Sl.ow_val rfl rfl (Go.Sl.v_gtr rfl rfl) ?_
  refine Go.Sl.ow_nil ?_
  refine Go.Sl.xw_then ?_
  refine Go.Sl.cw_dec rfl (fun hc29 => ?_) (fun hc29 => ?_)
  refine Go.Sl.cw_seq ?_
  refine Go.Sl.cw_region ?_
  refine Go.Sl.ow_val rfl rfl (Go.Sl.v_assign rfl) ?_
  refine Go.Sl.ow_nil ?_
  refine Go.Sl.xw_then ?_
  refine Go.Sl.cw_ret ?_
  refine Go.Sl.xw_block_ret ?_
  refine Go.Sl.xw_then_ret ?_
  refine Go.Sl.ret1 rfl (Go.Sl.res_tmp rfl) ?_
  rotate_left
  refine Go.Sl.cw_skip ?_
  refine Go.Sl.xw_block ?_
  refine Go.Sl.xw_then ?_
  refine Go.Sl.cw_seq ?_
  refine Go.Sl.cw_region ?_
  refine Go.Sl.ow_val rfl rfl (Go.Sl.v_assign rfl) ?_
  refine Go.Sl.ow_nil ?_
  refine Go.Sl.xw_then ?_
  refine Go.Sl.cw_ret ?_
  refine Go.Sl.ret1 rfl (Go.Sl.res_tmp rfl) ?_
  rotate_left
  refine Go.Sl.cw_region ?_
  refine Go.Sl.ow_val rfl rfl (Go.Sl.v_eql rfl rfl) ?_
  refine Go.Sl.ow_val rfl rfl (Go.Sl.v_assign rfl) ?_
  refine Go.Sl.ow_nil ?_
  refine Go.Sl.xw_then ?_
  refine Go.Sl.cw_dec rfl (fun hc15 => ?_) (fun hc15 => ?_)
  refine Go.Sl.cw_seq ?_
  refine Go.Sl.cw_seq ?_
  refine Go.Sl.cw_region ?_
  refine Go.Sl.ow_val rfl rfl (Go.Sl.v_fieldAddr0 Ty.fd30_5 rfl) ?_
  refine Go.Sl.ow_val rfl rfl (Go.Sl.v_load rfl (Go.Sl.Var.at1 Ty.sc23 .here (Go.Sl.GetN.lit rfl))) ?_
  refine Go.Sl.ow_val rfl rfl (Go.Sl.v_len rfl Try.underlying23 rfl) ?_
  refine Go.Sl.ow_val rfl rfl (Go.Sl.v_gtr rfl rfl) ?_
  refine Go.Sl.ow_nil ?_
  refine Go.Sl.xw_then ?_
  refine Go.Sl.cw_dec rfl (fun hc21 => ?_) (fun hc21 => ?_)
  refine Go.Sl.cw_seq ?_
  refine Go.Sl.cw_region ?_
  refine Go.Sl.ow_val rfl rfl (Go.Sl.v_assign rfl) ?_
  refine Go.Sl.ow_nil ?_
  refine Go.Sl.xw_then ?_
  refine Go.Sl.cw_ret ?_
  refine Go.Sl.xw_then_ret ?_
  refine Go.Sl.xw_block_ret ?_
  refine Go.Sl.xw_then_ret ?_
  refine Go.Sl.ret1 rfl (Go.Sl.res_tmp rfl) ?_
  rotate_left
  refine Go.Sl.cw_skip ?_
  refine Go.Sl.xw_then ?_
  refine Go.Sl.cw_seq ?_
  refine Go.Sl.cw_region ?_
  refine Go.Sl.ow_val rfl rfl (Go.Sl.v_fieldAddr0 Ty.fd30_2 rfl) ?_
  refine Go.Sl.ow_val rfl rfl (Go.Sl.v_load rfl (Go.Sl.Var.at1 Ty.sc22 .here (Go.Sl.GetN.lit rfl))) ?_
  refine Go.Sl.ow_val rfl rfl (Go.Sl.v_fieldAddr0 Ty.fd30_5 rfl) ?_
  refine Go.Sl.ow_val rfl rfl (Go.Sl.v_load rfl (Go.Sl.Var.at1 Ty.sc23 .here (Go.Sl.GetN.lit rfl))) ?_
  refine Go.Sl.ow_val rfl rfl (Go.Sl.v_len rfl Try.underlying23 rfl) ?_
  refine Go.Sl.ow_val rfl rfl (Go.Sl.v_convert Try.underlying3 Try.underlying22 rfl (Go.Sl.nw_u64 (by omega) (by omega))) ?_
  refine Go.Sl.ow_val rfl rfl (Go.Sl.v_sub rfl rfl (Go.Sl.nw_u64 (by omega) (by omega))) ?_
  refine Go.Sl.ow_val rfl rfl (Go.Sl.v_gtr rfl rfl) ?_
  refine Go.Sl.ow_nil ?_
  refine Go.Sl.xw_then ?_
  refine Go.Sl.cw_dec rfl (fun hc29 => ?_) (fun hc29 => ?_)
  refine Go.Sl.cw_seq ?_
  refine Go.Sl.cw_region ?_
  refine Go.Sl.ow_val rfl rfl (Go.Sl.v_assign rfl) ?_
  refine Go.Sl.ow_nil ?_
  refine Go.Sl.xw_then ?_
  refine Go.Sl.cw_ret ?_
  refine Go.Sl.xw_block_ret ?_
  refine Go.Sl.xw_then_ret ?_
  refine Go.Sl.ret1 rfl (Go.Sl.res_tmp rfl) ?_
  rotate_left
  refine Go.Sl.cw_skip ?_
  refine Go.Sl.xw_block ?_
  refine Go.Sl.xw_then ?_
  refine Go.Sl.cw_seq ?_
  refine Go.Sl.cw_region ?_
  refine Go.Sl.ow_val rfl rfl (Go.Sl.v_assign rfl) ?_
  refine Go.Sl.ow_nil ?_
  refine Go.Sl.xw_then ?_
  refine Go.Sl.cw_ret ?_
  refine Go.Sl.ret1 rfl (Go.Sl.res_tmp rfl) ?_
  rotate_left
  refine Go.Sl.cw_seq ?_
  refine Go.Sl.cw_region ?_
  refine Go.Sl.ow_val rfl rfl (Go.Sl.v_eql rfl rfl) ?_
  refine Go.Sl.ow_val rfl rfl (Go.Sl.v_assign rfl) ?_
  refine Go.Sl.ow_nil ?_
  refine Go.Sl.xw_then ?_
  refine Go.Sl.cw_dec rfl (fun hc30 => ?_) (fun hc30 => ?_)
  refine Go.Sl.cw_seq ?_
  refine Go.Sl.cw_region ?_
  refine Go.Sl.ow_val rfl rfl (Go.Sl.v_fieldAddr0 Ty.fd30_5 rfl) ?_
  refine Go.Sl.ow_val rfl rfl (Go.Sl.v_load rfl (Go.Sl.Var.at1 Ty.sc23 .here (Go.Sl.GetN.lit rfl))) ?_
  refine Go.Sl.ow_val rfl rfl (Go.Sl.v_len rfl Try.underlying23 rfl) ?_
  refine Go.Sl.ow_val rfl rfl (Go.Sl.v_eql rfl rfl) ?_
  refine Go.Sl.ow_val rfl rfl (Go.Sl.v_move rfl) ?_
  refine Go.Sl.ow_dec 36 rfl (fun hc36 => ?_) (fun hc36 => ?_)
  refine Go.Sl.ow_skip rfl rfl ?_
  refine Go.Sl.ow_skip rfl rfl ?_
  refine Go.Sl.ow_skip rfl rfl ?_
  refine Go.Sl.ow_skip rfl rfl ?_
  refine Go.Sl.ow_val rfl rfl (Go.Sl.v_pick_true rfl rfl) ?_
  refine Go.Sl.ow_nil ?_
  refine Go.Sl.xw_then ?_
  refine Go.Sl.cw_true rfl ?_
  refine Go.Sl.cw_seq ?_
  refine Go.Sl.cw_region ?_
  refine Go.Sl.ow_val rfl rfl (Go.Sl.v_assign rfl) ?_
  refine Go.Sl.ow_nil ?_
  refine Go.Sl.xw_then ?_
  refine Go.Sl.cw_ret ?_
  refine Go.Sl.xw_block_ret ?_
  refine Go.Sl.xw_then_ret ?_
  refine Go.Sl.ret1 rfl (Go.Sl.res_tmp rfl) ?_
  rotate_left
  refine Go.Sl.ow_val rfl rfl (Go.Sl.v_fieldAddr0 Ty.fd30_5 rfl) ?_
  refine Go.Sl.ow_val rfl rfl (Go.Sl.v_load rfl (Go.Sl.Var.at1 Ty.sc23 .here (Go.Sl.GetN.lit rfl))) ?_
  refine Go.Sl.ow_val rfl rfl (Go.Sl.v_len rfl Try.underlying23 rfl) ?_
  refine Go.Sl.ow_val rfl rfl (Go.Sl.v_gtr rfl rfl) ?_
  refine Go.Sl.ow_val rfl rfl (Go.Sl.v_pick_false rfl rfl) ?_
  refine Go.Sl.ow_nil ?_
  refine Go.Sl.xw_then ?_
  refine Go.Sl.cw_dec rfl (fun hc41 => ?_) (fun hc41 => ?_)
  refine Go.Sl.cw_seq ?_
  refine Go.Sl.cw_region ?_
  refine Go.Sl.ow_val rfl rfl (Go.Sl.v_assign rfl) ?_
  refine Go.Sl.ow_nil ?_
  refine Go.Sl.xw_then ?_
  refine Go.Sl.cw_ret ?_
  refine Go.Sl.xw_block_ret ?_
  refine Go.Sl.xw_then_ret ?_
  refine Go.Sl.ret1 rfl (Go.Sl.res_tmp rfl) ?_
  rotate_left
  refine Go.Sl.cw_skip ?_
  refine Go.Sl.xw_block ?_
  refine Go.Sl.xw_then ?_
  refine Go.Sl.cw_seq ?_
  refine Go.Sl.cw_region ?_
  refine Go.Sl.ow_val rfl rfl (Go.Sl.v_assign rfl) ?_
  refine Go.Sl.ow_nil ?_
  refine Go.Sl.xw_then ?_
  refine Go.Sl.cw_ret ?_
  refine Go.Sl.ret1 rfl (Go.Sl.res_tmp rfl) ?_
  rotate_left
  refine Go.Sl.cw_seq ?_
  refine Go.Sl.cw_seq ?_
  refine Go.Sl.cw_region ?_
  refine Go.Sl.ow_val rfl rfl (Go.Sl.v_eql rfl rfl) ?_
  refine Go.Sl.ow_val rfl rfl (Go.Sl.v_assign rfl) ?_
  refine Go.Sl.ow_nil ?_
  refine Go.Sl.xw_then ?_
  refine Go.Sl.cw_dec rfl (fun hc42 => ?_) (fun hc42 => ?_)
  refine Go.Sl.cw_skip ?_
  refine Go.Sl.xw_then ?_
  refine Go.Sl.cw_dec rfl (fun hc42 => ?_) (fun hc42 => ?_)
  rotate_left; (exfalso; omega); rotate_right
  refine Go.Sl.cw_seq ?_
  refine Go.Sl.cw_region ?_
  refine Go.Sl.ow_val rfl rfl (Go.Sl.v_fieldAddr0 Ty.fd30_3 rfl) ?_
  refine Go.Sl.ow_val rfl rfl (Go.Sl.v_load rfl (Go.Sl.Var.at1 Ty.sc22 .here (Go.Sl.GetN.lit rfl))) ?_
  refine Go.Sl.ow_val rfl rfl (Go.Sl.v_gtr rfl rfl) ?_
  refine Go.Sl.ow_nil ?_
  refine Go.Sl.xw_then ?_
  refine Go.Sl.cw_dec rfl (fun hc49 => ?_) (fun hc49 => ?_)
  refine Go.Sl.cw_seq ?_
  refine Go.Sl.cw_region ?_
  refine Go.Sl.ow_val rfl rfl (Go.Sl.v_assign rfl) ?_
  refine Go.Sl.ow_nil ?_
  refine Go.Sl.xw_then ?_
  refine Go.Sl.cw_ret ?_
  refine Go.Sl.xw_block_ret ?_
  refine Go.Sl.xw_then_ret ?_
  refine Go.Sl.ret1 rfl (Go.Sl.res_tmp rfl) ?_
  rotate_left
  refine Go.Sl.cw_skip ?_
  refine Go.Sl.xw_block ?_
  refine Go.Sl.xw_then ?_
  refine Go.Sl.cw_seq ?_
  refine Go.Sl.cw_region ?_
  refine Go.Sl.ow_val rfl rfl (Go.Sl.v_assign rfl) ?_
  refine Go.Sl.ow_nil ?_
  refine Go.Sl.xw_then ?_
  refine Go.Sl.cw_ret ?_
  refine Go.Sl.ret1 rfl (Go.Sl.res_tmp rfl) ?_
  rotate_left
  refine Go.Sl.cw_seq ?_
  refine Go.Sl.cw_region ?_
  refine Go.Sl.ow_val rfl rfl (Go.Sl.v_eql rfl rfl) ?_
  refine Go.Sl.ow_val rfl rfl (Go.Sl.v_assign rfl) ?_
  refine Go.Sl.ow_nil ?_
  refine Go.Sl.xw_then ?_
  refine Go.Sl.cw_dec rfl (fun hc42 => ?_) (fun hc42 => ?_)
  refine Go.Sl.cw_skip ?_
  refine Go.Sl.xw_then ?_
  refine Go.Sl.cw_dec rfl (fun hc42 => ?_) (fun hc42 => ?_)
  rotate_left; (exfalso; omega); rotate_right
  refine Go.Sl.cw_seq ?_
  refine Go.Sl.cw_region ?_
  refine Go.Sl.ow_val rfl rfl (Go.Sl.v_fieldAddr0 Ty.fd30_3 rfl) ?_
  refine Go.Sl.ow_val rfl rfl (Go.Sl.v_load rfl (Go.Sl.Var.at1 Ty.sc22 .here (Go.Sl.GetN.lit rfl))) ?_
  refine Go.Sl.ow_val rfl rfl (Go.Sl.v_gtr rfl rfl) ?_
  refine Go.Sl.ow_nil ?_
  refine Go.Sl.xw_then ?_
  refine Go.Sl.cw_dec rfl (fun hc49 => ?_) (fun hc49 => ?_)
  refine Go.Sl.cw_seq ?_
  refine Go.Sl.cw_region ?_
  refine Go.Sl.ow_val rfl rfl (Go.Sl.v_assign rfl) ?_
  refine Go.Sl.ow_nil ?_
  refine Go.Sl.xw_then ?_
  refine Go.Sl.cw_ret ?_
  refine Go.Sl.xw_block_ret ?_
  refine Go.Sl.xw_then_ret ?_
  refine Go.Sl.ret1 rfl (Go.Sl.res_tmp rfl) ?_
  rotate_left
  refine Go.Sl.cw_skip ?_
  refine Go.Sl.xw_block ?_
  refine Go.Sl.xw_then ?_
  refine Go.Sl.cw_seq ?_
  refine Go.Sl.cw_region ?_
  refine Go.Sl.ow_val rfl rfl (Go.Sl.v_assign rfl) ?_
  refine Go.Sl.ow_nil ?_
  refine Go.Sl.xw_then ?_
  refine Go.Sl.cw_ret ?_
  refine Go.Sl.ret1 rfl (Go.Sl.res_tmp rfl) ?_
  rotate_left
  refine Go.Sl.cw_seq ?_
  refine Go.Sl.cw_region ?_
  refine Go.Sl.ow_val rfl rfl (Go.Sl.v_eql rfl rfl) ?_
  refine Go.Sl.ow_val rfl rfl (Go.Sl.v_assign rfl) ?_
  refine Go.Sl.ow_nil ?_
  refine Go.Sl.xw_then ?_
  refine Go.Sl.cw_dec rfl (fun hc42 => ?_) (fun hc42 => ?_)
  refine Go.Sl.cw_skip ?_
  refine Go.Sl.xw_then ?_
  refine Go.Sl.cw_dec rfl (fun hc42 => ?_) (fun hc42 => ?_)
  rotate_left; (exfalso; omega); rotate_right
  refine Go.Sl.cw_seq ?_
  refine Go.Sl.cw_region ?_
  refine Go.Sl.ow_val rfl rfl (Go.Sl.v_fieldAddr0 Ty.fd30_3 rfl) ?_
  refine Go.Sl.ow_val rfl rfl (Go.Sl.v_load rfl (Go.Sl.Var.at1 Ty.sc22 .here (Go.Sl.GetN.lit rfl))) ?_
  refine Go.Sl.ow_val rfl rfl (Go.Sl.v_gtr rfl rfl) ?_
  refine Go.Sl.ow_nil ?_
  refine Go.Sl.xw_then ?_
  refine Go.Sl.cw_dec rfl (fun hc49 => ?_) (fun hc49 => ?_)
  refine Go.Sl.cw_seq ?_
  refine Go.Sl.cw_region ?_
  refine Go.Sl.ow_val rfl rfl (Go.Sl.v_assign rfl) ?_
  refine Go.Sl.ow_nil ?_
  refine Go.Sl.xw_then ?_
  refine Go.Sl.cw_ret ?_
  refine Go.Sl.xw_block_ret ?_
  refine Go.Sl.xw_then_ret ?_
  refine Go.Sl.ret1 rfl (Go.Sl.res_tmp rfl) ?_
  rotate_left
  refine Go.Sl.cw_skip ?_
  refine Go.Sl.xw_block ?_
  refine Go.Sl.xw_then ?_
  refine Go.Sl.cw_seq ?_
  refine Go.Sl.cw_region ?_
  refine Go.Sl.ow_val rfl rfl (Go.Sl.v_assign rfl) ?_
  refine Go.Sl.ow_nil ?_
  refine Go.Sl.xw_then ?_
  refine Go.Sl.cw_ret ?_
  refine Go.Sl.ret1 rfl (Go.Sl.res_tmp rfl) ?_
  rotate_left
  refine Go.Sl.cw_region ?_
  refine Go.Sl.ow_val rfl rfl (Go.Sl.v_eql rfl rfl) ?_
  refine Go.Sl.ow_val rfl rfl (Go.Sl.v_assign rfl) ?_
  refine Go.Sl.ow_nil ?_
  refine Go.Sl.xw_then ?_
  refine Go.Sl.cw_dec rfl (fun hc42 => ?_) (fun hc42 => ?_)
  refine Go.Sl.cw_seq ?_
  refine Go.Sl.cw_region ?_
  refine Go.Sl.ow_val rfl rfl (Go.Sl.v_fieldAddr0 Ty.fd30_3 rfl) ?_
  refine Go.Sl.ow_val rfl rfl (Go.Sl.v_load rfl (Go.Sl.Var.at1 Ty.sc22 .here (Go.Sl.GetN.lit rfl))) ?_
  refine Go.Sl.ow_val rfl rfl (Go.Sl.v_gtr rfl rfl) ?_
  refine Go.Sl.ow_nil ?_
  refine Go.Sl.xw_then ?_
  refine Go.Sl.cw_dec rfl (fun hc49 => ?_) (fun hc49 => ?_)
  refine Go.Sl.cw_seq ?_
  refine Go.Sl.cw_region ?_
  refine Go.Sl.ow_val rfl rfl (Go.Sl.v_assign rfl) ?_
  refine Go.Sl.ow_nil ?_
  refine Go.Sl.xw_then ?_
  refine Go.Sl.cw_ret ?_
  refine Go.Sl.xw_block_ret ?_
  refine Go.Sl.xw_then_ret ?_
  refine Go.Sl.ret1 rfl (Go.Sl.res_tmp rfl) ?_
  rotate_left
  refine Go.Sl.cw_skip ?_
  refine Go.Sl.xw_block ?_
  refine Go.Sl.xw_then ?_
  refine Go.Sl.cw_seq ?_
  refine Go.Sl.cw_region ?_
  refine Go.Sl.ow_val rfl rfl (Go.Sl.v_assign rfl) ?_
  refine Go.Sl.ow_nil ?_
  refine Go.Sl.xw_then ?_
  refine Go.Sl.cw_ret ?_
  refine Go.Sl.ret1 rfl (Go.Sl.res_tmp rfl) ?_
  rotate_left
  refine Go.Sl.cw_seq ?_
  refine Go.Sl.cw_region ?_
  refine Go.Sl.ow_val rfl rfl (Go.Sl.v_eql rfl rfl) ?_
  refine Go.Sl.ow_val rfl rfl (Go.Sl.v_assign rfl) ?_
  refine Go.Sl.ow_nil ?_
  refine Go.Sl.xw_then ?_
  refine Go.Sl.cw_dec rfl (fun hc50 => ?_) (fun hc50 => ?_)
  refine Go.Sl.cw_seq ?_
  refine Go.Sl.cw_seq ?_
  refine Go.Sl.cw_region ?_
  refine Go.Sl.ow_val rfl rfl (Go.Sl.v_fieldAddr0 Ty.fd30_12 rfl) ?_
  refine Go.Sl.ow_val rfl rfl (Go.Sl.v_load rfl (Go.Sl.Var.at1 Ty.sc23 .here (Go.Sl.GetN.lit rfl))) ?_
  refine Go.Sl.ow_val rfl rfl (Go.Sl.v_len rfl Try.underlying23 rfl) ?_
  refine Go.Sl.ow_val rfl rfl (Go.Sl.v_eql rfl rfl) ?_
  refine Go.Sl.ow_val rfl rfl (Go.Sl.v_move rfl) ?_
  refine Go.Sl.ow_dec 56 rfl (fun hc56 => ?_) (fun hc56 => ?_)
  refine Go.Sl.ow_skip rfl rfl ?_
  refine Go.Sl.ow_skip rfl rfl ?_
  refine Go.Sl.ow_skip rfl rfl ?_
  refine Go.Sl.ow_skip rfl rfl ?_
  refine Go.Sl.ow_val rfl rfl (Go.Sl.v_pick_true rfl rfl) ?_
  refine Go.Sl.ow_nil ?_
  refine Go.Sl.xw_then ?_
  refine Go.Sl.cw_true rfl ?_
  refine Go.Sl.cw_seq ?_
  refine Go.Sl.cw_region ?_
  refine Go.Sl.ow_val rfl rfl (Go.Sl.v_assign rfl) ?_
  refine Go.Sl.ow_nil ?_
  refine Go.Sl.xw_then ?_
  refine Go.Sl.cw_ret ?_
  refine Go.Sl.xw_then_ret ?_
  refine Go.Sl.xw_block_ret ?_
  refine Go.Sl.xw_then_ret ?_
  refine Go.Sl.ret1 rfl (Go.Sl.res_tmp rfl) ?_
  rotate_left
  refine Go.Sl.ow_val rfl rfl (Go.Sl.v_fieldAddr0 Ty.fd30_12 rfl) ?_
  refine Go.Sl.ow_val rfl rfl (Go.Sl.v_load rfl (Go.Sl.Var.at1 Ty.sc23 .here (Go.Sl.GetN.lit rfl))) ?_
  refine Go.Sl.ow_val rfl rfl (Go.Sl.v_len rfl Try.underlying23 rfl) ?_
  refine Go.Sl.ow_val rfl rfl (Go.Sl.v_gtr rfl rfl) ?_
  refine Go.Sl.ow_val rfl rfl (Go.Sl.v_pick_false rfl rfl) ?_
  refine Go.Sl.ow_nil ?_
  refine Go.Sl.xw_then ?_
  refine Go.Sl.cw_dec rfl (fun hc61 => ?_) (fun hc61 => ?_)
  refine Go.Sl.cw_seq ?_
  refine Go.Sl.cw_region ?_
  refine Go.Sl.ow_val rfl rfl (Go.Sl.v_assign rfl) ?_
  refine Go.Sl.ow_nil ?_
  refine Go.Sl.xw_then ?_
  refine Go.Sl.cw_ret ?_
  refine Go.Sl.xw_then_ret ?_
  refine Go.Sl.xw_block_ret ?_
  refine Go.Sl.xw_then_ret ?_
  refine Go.Sl.ret1 rfl (Go.Sl.res_tmp rfl) ?_
  rotate_left
  refine Go.Sl.cw_skip ?_
  refine Go.Sl.xw_then ?_
  refine Go.Sl.cw_seq ?_
  refine Go.Sl.cw_region ?_
  refine Go.Sl.ow_val rfl rfl (Go.Sl.v_fieldAddr0 Ty.fd30_11 rfl) ?_
  refine Go.Sl.ow_val rfl rfl (Go.Sl.v_load rfl (Go.Sl.Var.at1 Ty.sc22 .here (Go.Sl.GetN.lit rfl))) ?_
  refine Go.Sl.ow_val rfl rfl (Go.Sl.v_fieldAddr0 Ty.fd30_10 rfl) ?_
  refine Go.Sl.ow_val rfl rfl (Go.Sl.v_load rfl (Go.Sl.Var.at1 Ty.sc22 .here (Go.Sl.GetN.lit rfl))) ?_
  refine Go.Sl.ow_val rfl rfl (Go.Sl.v_gtr rfl rfl) ?_
  refine Go.Sl.ow_nil ?_
  refine Go.Sl.xw_then ?_
  refine Go.Sl.cw_dec rfl (fun hc66 => ?_) (fun hc66 => ?_)
  refine Go.Sl.cw_seq ?_
  refine Go.Sl.cw_region ?_
  refine Go.Sl.ow_val rfl rfl (Go.Sl.v_assign rfl) ?_
  refine Go.Sl.ow_nil ?_
  refine Go.Sl.xw_then ?_
  refine Go.Sl.cw_ret ?_
  refine Go.Sl.xw_block_ret ?_
  refine Go.Sl.xw_then_ret ?_
  refine Go.Sl.ret1 rfl (Go.Sl.res_tmp rfl) ?_
  rotate_left
  refine Go.Sl.cw_skip ?_
  refine Go.Sl.xw_block ?_
  refine Go.Sl.xw_then ?_
  refine Go.Sl.cw_seq ?_
  refine Go.Sl.cw_region ?_
  refine Go.Sl.ow_val rfl rfl (Go.Sl.v_assign rfl) ?_
  refine Go.Sl.ow_nil ?_
  refine Go.Sl.xw_then ?_
  refine Go.Sl.cw_ret ?_
  refine Go.Sl.ret1 rfl (Go.Sl.res_tmp rfl) ?_
  rotate_left
  refine Go.Sl.cw_seq ?_
  refine Go.Sl.cw_seq ?_
  refine Go.Sl.cw_region ?_
  refine Go.Sl.ow_val rfl rfl (Go.Sl.v_eql rfl rfl) ?_
  refine Go.Sl.ow_val rfl rfl (Go.Sl.v_assign rfl) ?_
  refine Go.Sl.ow_nil ?_
  refine Go.Sl.xw_then ?_
  refine Go.Sl.cw_dec rfl (fun hc67 => ?_) (fun hc67 => ?_)
  refine Go.Sl.cw_skip ?_
  refine Go.Sl.xw_then ?_
  refine Go.Sl.cw_dec rfl (fun hc67 => ?_) (fun hc67 => ?_)
  rotate_left; (exfalso; omega); rotate_right
  refine Go.Sl.cw_seq ?_
  refine Go.Sl.cw_region ?_
  refine Go.Sl.ow_val rfl rfl (Go.Sl.v_fieldAddr0 Ty.fd30_5 rfl) ?_
  refine Go.Sl.ow_val rfl rfl (Go.Sl.v_load rfl (Go.Sl.Var.at1 Ty.sc23 .here (Go.Sl.GetN.lit rfl))) ?_
  refine Go.Sl.ow_val rfl rfl (Go.Sl.v_len rfl Try.underlying23 rfl) ?_
  refine Go.Sl.ow_val rfl rfl (Go.Sl.v_gtr rfl rfl) ?_
  refine Go.Sl.ow_nil ?_
  refine Go.Sl.xw_then ?_
  refine Go.Sl.cw_dec rfl (fun hc73 => ?_) (fun hc73 => ?_)
  refine Go.Sl.cw_seq ?_
  refine Go.Sl.cw_region ?_
  refine Go.Sl.ow_val rfl rfl (Go.Sl.v_assign rfl) ?_
  refine Go.Sl.ow_nil ?_
  refine Go.Sl.xw_then ?_
  refine Go.Sl.cw_ret ?_
  refine Go.Sl.xw_block_ret ?_
  refine Go.Sl.xw_then_ret ?_
  refine Go.Sl.ret1 rfl (Go.Sl.res_tmp rfl) ?_
  rotate_left
  refine Go.Sl.cw_skip ?_
  refine Go.Sl.xw_block ?_
  refine Go.Sl.xw_then ?_
  refine Go.Sl.cw_seq ?_
  refine Go.Sl.cw_region ?_
  refine Go.Sl.ow_val rfl rfl (Go.Sl.v_assign rfl) ?_
  refine Go.Sl.ow_nil ?_
  refine Go.Sl.xw_then ?_
  refine Go.Sl.cw_ret ?_
  refine Go.Sl.ret1 rfl (Go.Sl.res_tmp rfl) ?_
  rotate_left
  refine Go.Sl.cw_region ?_
  refine Go.Sl.ow_val rfl rfl (Go.Sl.v_eql rfl rfl) ?_
  refine Go.Sl.ow_val rfl rfl (Go.Sl.v_assign rfl) ?_
  refine Go.Sl.ow_nil ?_
  refine Go.Sl.xw_then ?_
  refine Go.Sl.cw_dec rfl (fun hc67 => ?_) (fun hc67 => ?_)
  refine Go.Sl.cw_seq ?_
  refine Go.Sl.cw_region ?_
  refine Go.Sl.ow_val rfl rfl (Go.Sl.v_fieldAddr0 Ty.fd30_5 rfl) ?_
  refine Go.Sl.ow_val rfl rfl (Go.Sl.v_load rfl (Go.Sl.Var.at1 Ty.sc23 .here (Go.Sl.GetN.lit rfl))) ?_
  refine Go.Sl.ow_val rfl rfl (Go.Sl.v_len rfl Try.underlying23 rfl) ?_
  refine Go.Sl.ow_val rfl rfl (Go.Sl.v_gtr rfl rfl) ?_
  refine Go.Sl.ow_nil ?_
  refine Go.Sl.xw_then ?_
  refine Go.Sl.cw_dec rfl (fun hc73 => ?_) (fun hc73 => ?_)
  refine Go.Sl.cw_seq ?_
  refine Go.Sl.cw_region ?_
  refine Go.Sl.ow_val rfl rfl (Go.Sl.v_assign rfl) ?_
  refine Go.Sl.ow_nil ?_
  refine Go.Sl.xw_then ?_
  refine Go.Sl.cw_ret ?_
  refine Go.Sl.xw_block_ret ?_
  refine Go.Sl.xw_then_ret ?_
  refine Go.Sl.ret1 rfl (Go.Sl.res_tmp rfl) ?_
  rotate_left
  refine Go.Sl.cw_skip ?_
  refine Go.Sl.xw_block ?_
  refine Go.Sl.xw_then ?_
  refine Go.Sl.cw_seq ?_
  refine Go.Sl.cw_region ?_
  refine Go.Sl.ow_val rfl rfl (Go.Sl.v_assign rfl) ?_
  refine Go.Sl.ow_nil ?_
  refine Go.Sl.xw_then ?_
  refine Go.Sl.cw_ret ?_
  refine Go.Sl.ret1 rfl (Go.Sl.res_tmp rfl) ?_
  rotate_left
  refine Go.Sl.cw_skip ?_
  refine Go.Sl.xw_block ?_
  refine Go.Sl.xw_then ?_
  refine Go.Sl.cw_seq ?_
  refine Go.Sl.cw_region ?_
  refine Go.Sl.ow_val rfl rfl (Go.Sl.v_assign rfl) ?_
  refine Go.Sl.ow_nil ?_
  refine Go.Sl.xw_then ?_
  refine Go.Sl.cw_ret ?_
  refine Go.Sl.ret1 rfl (Go.Sl.res_tmp rfl) ?_
  rotate_left
  all_goals first
    | (refine ⟨0, rfl, ⟨fun _ => ⟨?_, fun _ => ?_, fun _ => ?_, fun _ => ?_, fun _ => ?_, fun _ => ?_, fun _ => ?_⟩, fun _ => rfl⟩, (by first | exact Go.Sl.Cov.refl _ | (intro p; simp only [List.flatten_cons, List.flatten_nil, List.flatten_append, List.append_nil, List.nil_append, Go.Sl.cnt_append, Go.Sl.cnt_cons, Go.Sl.cnt_nil, List.set_cons_zero, List.set_cons_succ, List.length_nil, List.length_cons, Nat.zero_add, List.append]; omega))⟩ <;> omega)
    | (refine ⟨x14, rfl, ⟨fun h => ⟨?_, fun _ => hq14.1 h, fun _ => ?_, fun _ => ?_, fun _ => ?_, fun _ => ?_, fun _ => ?_⟩, fun h => hq14.2 (h.ack ?_)⟩, (by first | exact Go.Sl.Cov.refl _ | (intro p; simp only [List.flatten_cons, List.flatten_nil, List.flatten_append, List.append_nil, List.nil_append, Go.Sl.cnt_append, Go.Sl.cnt_cons, Go.Sl.cnt_nil, List.set_cons_zero, List.set_cons_succ, List.length_nil, List.length_cons, Nat.zero_add, List.append]; omega))⟩ <;> omega)
    | (refine ⟨_, rfl, ⟨fun h => absurd h (by decide), fun h => ?_⟩, (by first | exact Go.Sl.Cov.refl _ | (intro p; simp only [List.flatten_cons, List.flatten_nil, List.flatten_append, List.append_nil, List.nil_append, Go.Sl.cnt_append, Go.Sl.cnt_cons, Go.Sl.cnt_nil, List.set_cons_zero, List.set_cons_succ, List.length_nil, List.length_cons, Nat.zero_add, List.append]; omega))⟩
       exfalso
       have h1 := h.k
       have h2 := h.str
       have h3 := h.tok
       have h4 := h.lim
       have h5 := h.id
       have h6 := h.cls
       omega)
end Go.Proofs.Ytckdhelnafjddaa
