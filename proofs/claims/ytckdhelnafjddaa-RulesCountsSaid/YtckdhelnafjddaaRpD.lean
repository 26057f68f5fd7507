/- Replay in memory: two alike states do not differ. Conditions: numbers fit their types. -/
import Derived.Test.YtckdhelnafjddaaRpT
namespace Go.Proofs.Ytckdhelnafjddaa
open Go Go.Sl Go.Proofs Go.RowKit Go.ChangeShapes Go.WideShapes Go.ChangeAt
set_option maxRecDepth 20000
set_option linter.unusedVariables false
set_option linter.unusedSimpArgs false

theorem eqPk_c {B : Nat} {w0 : World} {G : List Hp} {a b : Option Addr} {n m ca cb : Nat} {l : List PkM} (hA : Vw enPk (St B w0 G) (.slice a n ca) l) (hB : Vw enPk (St B w0 G) (.slice b m cb) l) (hn : l.length ≤ 1000000) :
    Go.Sl.Fn Try.prog 55 #[.slice a n ca, .slice b m cb] B w0 G fun u G' => u = .bool true ∧ G' = G := by
  refine Fn.pure ?_
  have h1 := hA.len
  have h2 := hB.len
  subst h1 h2
  refine fn_enter Try.func55 rfl (by kernel_rfl) Try.ntmps55 (by simp) ?_
  refine cw_seq ?_
  refine cw_region ?_
  refine ow_val rfl rfl (v_assign rfl) ?_
  refine ow_nil ?_
  refine xw_then ?_
  refine cw_seq ?_
  refine cw_seq ?_
  refine cw_region ?_
  refine ow_val rfl rfl (v_move rfl) ?_
  refine ow_val rfl rfl (v_len rfl Try.underlying64 rfl) ?_
  refine ow_val rfl rfl (v_move rfl) ?_
  refine ow_val rfl rfl (v_len rfl Try.underlying64 rfl) ?_
  refine ow_val rfl rfl (v_neq rfl rfl) ?_
  refine ow_nil ?_
  refine xw_then ?_
  refine cw_dec rfl (fun hc10 => ?_) (fun hc10 => ?_)
  (exfalso; omega)
  refine cw_skip ?_
  refine xw_then ?_
  refine cw_seq ?_
  refine cw_seq ?_
  refine cw_region ?_
  refine ow_val rfl rfl (v_move rfl) ?_
  refine ow_val rfl rfl (v_len rfl Try.underlying64 rfl) ?_
  refine ow_val rfl rfl (v_move rfl) ?_
  refine ow_nil ?_
  refine xw_then ?_
  refine cw_block ?_
  refine cw_loop2 (ι := (Nat)) [(0, _), (1, _), (12, _)] ⟨rfl, rfl, rfl, trivial⟩ ((fun j => [(13, .int .i64 j)])) ((fun j => j ≤ l.length)) ((fun j => l.length - j)) ((fun _ => G)) (0) (by repeat (first | exact True.intro | refine And.intro rfl ?_)) (by first | exact Cov.refl _ | (intro p; simp only [List.flatten_cons, List.flatten_nil, List.flatten_append, List.append_nil, List.nil_append, cnt_append, cnt_cons, cnt_nil, List.set_cons_zero, List.set_cons_succ, List.length_nil, List.length_cons, Nat.zero_add, List.append]; omega)) ?_ ?_
  · exact Nat.zero_le _
  rintro j hj
  refine cw_seq ?_
  refine cw_region ?_
  refine ow_val rfl rfl (v_lss rfl rfl) ?_
  refine ow_nil ?_
  refine xw_then ?_
  refine cw_seq ?_
  refine cw_dec rfl (fun hc14 => ?_) (fun hc14 => ?_)
  refine cw_skip ?_
  refine xw_then ?_
  rotate_left
  refine cw_exit ?_
  refine xw_then_exit ?_
  refine xw_round_exit ?_
  refine xw_block_exit ?_
  refine xw_then ?_
  refine cw_seq ?_
  refine cw_region ?_
  refine ow_val rfl rfl (v_assign rfl) ?_
  refine ow_nil ?_
  refine xw_then ?_
  refine cw_ret ?_
  refine ret1 rfl (res_tmp rfl) ?_
  rotate_left
  · have hj2 : j < l.length := by omega
    have hokj := hA.ok _ (List.getElem_mem hj2)
    refine cw_seq ?_
    refine cw_block ?_
    refine cw_seq ?_
    refine cw_region ?_
    refine ow_val rfl rfl (v_move rfl) ?_
    refine ow_val rfl rfl (v_assign rfl) ?_
    refine ow_nil ?_
    refine xw_then ?_
    refine cw_seq ?_
    refine cw_quiet Ty.mixed (by decide +kernel) ?_
    refine kw_val rfl rfl (v_move rfl) ?_
    refine kw_val rfl rfl (v_move rfl) ?_
    refine kw_val rfl rfl (v_indexAddr_vw Try.underlying64 (pkTy) rfl rfl (by assumption) rfl (by omega)) ?_
    refine kw_val rfl rfl (v_load rfl (Go.Sl.Vw.var (pkTy) (hA.cov (by first | exact Cov.refl _ | (intro p; simp only [List.flatten_cons, List.flatten_nil, List.flatten_append, List.append_nil, List.nil_append, cnt_append, cnt_cons, cnt_nil, List.set_cons_zero, List.set_cons_succ, List.length_nil, List.length_cons, Nat.zero_add, List.append]; omega))) (by omega))) ?_
    refine kw_val rfl rfl (v_move rfl) ?_
    refine kw_val rfl rfl (v_move rfl) ?_
    refine kw_val rfl rfl (v_indexAddr_vw Try.underlying64 (pkTy) rfl rfl (by assumption) rfl (by omega)) ?_
    refine kw_val rfl rfl (v_load rfl (Go.Sl.Vw.var (pkTy) (by assumption) (by omega))) ?_
    refine kw_val rfl rfl (v_neqA rfl rfl Ty.gt120 ((eqPkS (a := l[j].num) (b := l[j].size) (c := l[j].el) (e := l[j].fl)))) ?_
    refine kw_nil ?_
    refine xw_then ?_
    refine cw_false rfl ?_
    refine cw_skip ?_
    refine xw_block ?_
    refine xw_then ?_
    refine cw_region ?_
    refine ow_val rfl rfl (v_add rfl rfl (nw_i64 (by omega) (by omega))) ?_
    refine ow_val rfl rfl (v_move rfl) ?_
    refine ow_nil ?_
    exact xw_round (j + 1) (by omega) (by omega) (by first | exact Cov.refl _ | (intro p; simp only [List.flatten_cons, List.flatten_nil, List.flatten_append, List.append_nil, List.nil_append, cnt_append, cnt_cons, cnt_nil, List.set_cons_zero, List.set_cons_succ, List.length_nil, List.length_cons, Nat.zero_add, List.append]; omega)) (by repeat (first | exact True.intro | refine And.intro rfl ?_))
  exact ⟨rfl, (by first | exact Cov.refl _ | (intro p; simp only [List.flatten_cons, List.flatten_nil, List.flatten_append, List.append_nil, List.nil_append, cnt_append, cnt_cons, cnt_nil, List.set_cons_zero, List.set_cons_succ, List.length_nil, List.length_cons, Nat.zero_add, List.append]; omega))⟩
theorem eqRg_c {B : Nat} {w0 : World} {G : List Hp} {a b : Option Addr} {n m ca cb : Nat} {l : List Rg} (hA : Vw enR (St B w0 G) (.slice a n ca) l) (hB : Vw enR (St B w0 G) (.slice b m cb) l) (hn : l.length ≤ 1000000) :
    Go.Sl.Fn Try.prog 49 #[.slice a n ca, .slice b m cb] B w0 G fun u G' => u = .bool true ∧ G' = G := by
  refine Fn.pure ?_
  have h1 := hA.len
  have h2 := hB.len
  subst h1 h2
  refine fn_enter Try.func49 rfl (by kernel_rfl) Try.ntmps49 (by simp) ?_
  refine cw_seq ?_
  refine cw_region ?_
  refine ow_val rfl rfl (v_assign rfl) ?_
  refine ow_nil ?_
  refine xw_then ?_
  refine cw_seq ?_
  refine cw_seq ?_
  refine cw_region ?_
  refine ow_val rfl rfl (v_move rfl) ?_
  refine ow_val rfl rfl (v_len rfl Try.underlying27 rfl) ?_
  refine ow_val rfl rfl (v_move rfl) ?_
  refine ow_val rfl rfl (v_len rfl Try.underlying27 rfl) ?_
  refine ow_val rfl rfl (v_neq rfl rfl) ?_
  refine ow_nil ?_
  refine xw_then ?_
  refine cw_dec rfl (fun hc10 => ?_) (fun hc10 => ?_)
  (exfalso; omega)
  refine cw_skip ?_
  refine xw_then ?_
  refine cw_seq ?_
  refine cw_seq ?_
  refine cw_region ?_
  refine ow_val rfl rfl (v_move rfl) ?_
  refine ow_val rfl rfl (v_len rfl Try.underlying27 rfl) ?_
  refine ow_val rfl rfl (v_move rfl) ?_
  refine ow_nil ?_
  refine xw_then ?_
  refine cw_block ?_
  refine cw_loop2 (ι := (Nat)) [(0, _), (1, _), (12, _)] ⟨rfl, rfl, rfl, trivial⟩ ((fun j => [(13, .int .i64 j)])) ((fun j => j ≤ l.length)) ((fun j => l.length - j)) ((fun _ => G)) (0) (by repeat (first | exact True.intro | refine And.intro rfl ?_)) (by first | exact Cov.refl _ | (intro p; simp only [List.flatten_cons, List.flatten_nil, List.flatten_append, List.append_nil, List.nil_append, cnt_append, cnt_cons, cnt_nil, List.set_cons_zero, List.set_cons_succ, List.length_nil, List.length_cons, Nat.zero_add, List.append]; omega)) ?_ ?_
  · exact Nat.zero_le _
  rintro j hj
  refine cw_seq ?_
  refine cw_region ?_
  refine ow_val rfl rfl (v_lss rfl rfl) ?_
  refine ow_nil ?_
  refine xw_then ?_
  refine cw_seq ?_
  refine cw_dec rfl (fun hc14 => ?_) (fun hc14 => ?_)
  refine cw_skip ?_
  refine xw_then ?_
  rotate_left
  refine cw_exit ?_
  refine xw_then_exit ?_
  refine xw_round_exit ?_
  refine xw_block_exit ?_
  refine xw_then ?_
  refine cw_seq ?_
  refine cw_region ?_
  refine ow_val rfl rfl (v_assign rfl) ?_
  refine ow_nil ?_
  refine xw_then ?_
  refine cw_ret ?_
  refine ret1 rfl (res_tmp rfl) ?_
  rotate_left
  · have hj2 : j < l.length := by omega
    refine cw_seq ?_
    refine cw_block ?_
    refine cw_seq ?_
    refine cw_region ?_
    refine ow_val rfl rfl (v_move rfl) ?_
    refine ow_val rfl rfl (v_assign rfl) ?_
    refine ow_nil ?_
    refine xw_then ?_
    refine cw_seq ?_
    refine cw_quiet Ty.mixed (by decide +kernel) ?_
    refine kw_val rfl rfl (v_move rfl) ?_
    refine kw_val rfl rfl (v_move rfl) ?_
    refine kw_val rfl rfl (v_indexAddr_vw Try.underlying27 (rTy) rfl rfl (by assumption) rfl (by omega)) ?_
    refine kw_val rfl rfl (v_load rfl (Go.Sl.Vw.var (rTy) (hA.cov (by first | exact Cov.refl _ | (intro p; simp only [List.flatten_cons, List.flatten_nil, List.flatten_append, List.append_nil, List.nil_append, cnt_append, cnt_cons, cnt_nil, List.set_cons_zero, List.set_cons_succ, List.length_nil, List.length_cons, Nat.zero_add, List.append]; omega))) (by omega))) ?_
    refine kw_val rfl rfl (v_move rfl) ?_
    refine kw_val rfl rfl (v_move rfl) ?_
    refine kw_val rfl rfl (v_indexAddr_vw Try.underlying27 (rTy) rfl rfl (by assumption) rfl (by omega)) ?_
    refine kw_val rfl rfl (v_load rfl (Go.Sl.Vw.var (rTy) (by assumption) (by omega))) ?_
    refine kw_val rfl rfl (v_neqA rfl rfl Ty.gt102 (eqR)) ?_
    refine kw_nil ?_
    refine xw_then ?_
    refine cw_dec rfl (fun hc24 => ?_) (fun hc24 => ?_)
    refine cw_seq ?_
    refine cw_region ?_
    refine ow_val rfl rfl (v_assign rfl) ?_
    refine ow_nil ?_
    refine xw_then ?_
    refine cw_ret ?_
    refine xw_block_ret ?_
    refine xw_then_ret ?_
    refine xw_round_ret ?_
    refine xw_block_ret ?_
    refine xw_then_ret ?_
    refine ret1 rfl (res_tmp rfl) ?_
    rotate_left
    refine cw_skip ?_
    refine xw_block ?_
    refine xw_then ?_
    refine cw_region ?_
    refine ow_val rfl rfl (v_add rfl rfl (nw_i64 (by omega) (by omega))) ?_
    refine ow_val rfl rfl (v_move rfl) ?_
    refine ow_nil ?_
    rotate_left
    · exact absurd rfl hc24
    exact xw_round (j + 1) (by omega) (by omega) (by first | exact Cov.refl _ | (intro p; simp only [List.flatten_cons, List.flatten_nil, List.flatten_append, List.append_nil, List.nil_append, cnt_append, cnt_cons, cnt_nil, List.set_cons_zero, List.set_cons_succ, List.length_nil, List.length_cons, Nat.zero_add, List.append]; omega)) (by repeat (first | exact True.intro | refine And.intro rfl ?_))
  exact ⟨rfl, (by first | exact Cov.refl _ | (intro p; simp only [List.flatten_cons, List.flatten_nil, List.flatten_append, List.append_nil, List.nil_append, cnt_append, cnt_cons, cnt_nil, List.set_cons_zero, List.set_cons_succ, List.length_nil, List.length_cons, Nat.zero_add, List.append]; omega))⟩

/-! ### A state's parts -/
theorem StM.pp {s : StM} {p : StP} : s.cells p = (.int .u64 s.ph :: (s.s0.cells p.p0 ++ (s.s1.cells p.p1 ++ (s.s2.cells p.p2 ++ s.mt.map (Value.int .u64))))) ++ s.tail p := by
  simp [StM.cells]
theorem get_s0 {s : StM} {p : StP} {T : TypeId} {fr : Nat × Nat} : GetN (.cells (s.cells p).toArray T fr) 1 (s.s0.cells p.p0) := GetN.part (a := [.int .u64 s.ph]) (vs := s.s0.cells p.p0) (c := s.s1.cells p.p1 ++ (s.s2.cells p.p2 ++ (s.mt.map (Value.int .u64) ++ s.tail p))) rfl
theorem get_s1 {s : StM} {p : StP} {T : TypeId} {fr : Nat × Nat} : GetN (.cells (s.cells p).toArray T fr) (1 + 1 * 5) (s.s1.cells p.p1) := GetN.part (a := .int .u64 s.ph :: s.s0.cells p.p0) (vs := s.s1.cells p.p1) (c := s.s2.cells p.p2 ++ (s.mt.map (Value.int .u64) ++ s.tail p)) rfl
theorem get_s2 {s : StM} {p : StP} {T : TypeId} {fr : Nat × Nat} : GetN (.cells (s.cells p).toArray T fr) (1 + 2 * 5) (s.s2.cells p.p2) := GetN.part (a := .int .u64 s.ph :: (s.s0.cells p.p0 ++ s.s1.cells p.p1)) (vs := s.s2.cells p.p2) (c := s.mt.map (Value.int .u64) ++ s.tail p) rfl
def StP.sp (p : StP) (i : Nat) : SpP := match i with
  | 0 => p.p0
  | 1 => p.p1
  | _ => p.p2
theorem get_sp {s : StM} {p : StP} {T : TypeId} {fr : Nat × Nat} {i : Nat} (h : i < 3) : GetN (.cells (s.cells p).toArray T fr) (1 + i * 5) ((s.sp i).cells (p.sp i)) := by
  have h3 : i = 0 ∨ i = 1 ∨ i = 2 := by omega
  rcases h3 with rfl | rfl | rfl
  · exact get_s0
  · exact get_s1
  · exact get_s2
theorem StDs.vw {B : Nat} {w0 : World} {G : List Hp} {s : StM} {p : StP} {a0 b0 a1 b1 a2 b2 c1 c2 c3 c4 c5 : Hp} (h : StDs s p a0 b0 a1 b1 a2 b2 c1 c2 c3 c4 c5) (hs : Sub (a0 ++ (b0 ++ (a1 ++ (b1 ++ (a2 ++ (b2 ++ (c1 ++ (c2 ++ (c3 ++ (c4 ++ c5)))))))))) G) {i : Nat} (hi : i < 3) :
    Vw enPk (St B w0 G) (.slice (p.sp i).sa (s.sp i).sent.length (p.sp i).sc) (s.sp i).sent ∧ Vw enR (St B w0 G) (.slice (p.sp i).ca (s.sp i).came.length (p.sp i).cc) (s.sp i).came := by
  have h3 : i = 0 ∨ i = 1 ∨ i = 2 := by omega
  rcases h3 with rfl | rfl | rfl
  · exact ⟨h.s0.1.vw hs.left, h.s0.2.vw hs.right.left⟩
  · exact ⟨h.s1.1.vw hs.right.right.left, h.s1.2.vw hs.right.right.right.left⟩
  · exact ⟨h.s2.1.vw hs.right.right.right.right.left, h.s2.2.vw hs.right.right.right.right.right.left⟩
theorem StM.Sz.sp {s : StM} {n : Nat} (h : s.Sz n) (i : Nat) : (s.sp i).sent.length ≤ n := by
  unfold StM.sp
  split
  · exact h.s0
  · exact h.s1
  · exact h.s2
theorem get_mt {s : StM} {p : StP} {T : TypeId} {fr : Nat × Nat} : GetN (.cells (s.cells p).toArray T fr) 16 (s.mt.map (Value.int .u64)) := GetN.part (a := .int .u64 s.ph :: (s.s0.cells p.p0 ++ (s.s1.cells p.p1 ++ s.s2.cells p.p2))) (vs := s.mt.map (Value.int .u64)) (c := s.tail p) rfl
theorem get_tail {s : StM} {p : StP} {T : TypeId} {fr : Nat × Nat} {j : Nat} {v : Value} (hw : s.WF) (h : (s.tail p)[j]? = some v) : GetN (.cells (s.cells p).toArray T fr) (24 + j) [v] := by
  have hj := (List.getElem?_eq_some_iff.1 h).1
  have hl : (.int .u64 s.ph :: (s.s0.cells p.p0 ++ (s.s1.cells p.p1 ++ (s.s2.cells p.p2 ++ s.mt.map (Value.int .u64))))).length = 24 := by
    have := hw.mt.1
    simp [SpM.cells, this]
  refine GetN.one ?_
  rw [List.getElem?_toArray, StM.pp, List.getElem?_append_right (by omega), hl, Nat.add_sub_cancel_left]
  exact h
theorem get_cl {s : StM} {p : StP} {T : TypeId} {fr : Nat × Nat} (hw : s.WF) : GetN (.cells (s.cells p).toArray T fr) 31 [.int .u64 s.c0, .int .u64 s.c1, .int .u64 s.c2] := by
  have h : s.cells p = ((.int .u64 s.ph :: (s.s0.cells p.p0 ++ (s.s1.cells p.p1 ++ (s.s2.cells p.p2 ++ s.mt.map (Value.int .u64))))) ++ [.map p.cr, .map p.st, .map p.own, .map p.oth, .int .u64 s.us, .map p.pa, .int .u64 s.tu]) ++ ([.int .u64 s.c0, .int .u64 s.c1, .int .u64 s.c2] ++ [.bool s.cl, .bool s.cut, .int .i64 s.ev]) := by
    rw [StM.pp]
    simp [StM.tail]
  rw [h]
  refine GetN.part ?_
  have := hw.mt.1
  simp [SpM.cells, this]
theorem get_ph {s : StM} {p : StP} {T : TypeId} {fr : Nat × Nat} : GetN (.cells (s.cells p).toArray T fr) 0 [.int .u64 s.ph] := GetN.one rfl
theorem SpM.cells_one {x : SpM} {q : SpP} : ∀ u ∈ x.cells q, u.oneCell' = true := by
  intro u hu
  simp only [SpM.cells, List.mem_cons, List.not_mem_nil, or_false] at hu
  rcases hu with rfl | rfl | rfl | rfl | rfl <;> rfl
theorem MapS.r {α : Type} {V : α → Value} {f : Int → Option α} {b : Nat} {c : Hp} (h : MapS V f (some b) c) : ∃ m, MapR .u64 m b c ∧ ∀ k, Go.Sl.look m k = (f k).map V := by
  obtain ⟨m, h1, h2⟩ := h
  rcases h1 with ⟨h3, _⟩ | ⟨b', h3, h4⟩
  · cases h3
  · injection h3 with h3
    injection h3 with h3
    subst h3
    exact ⟨m, h4, h2⟩
set_option maxHeartbeats 8000000 in
theorem stDiffers_c {B : Nat} {w0 : World} {G : List Hp} {s : StM} {p q : StP} {D E : Hp} (hD : StDeep s p D) (hE : StDeep s q E) (hp : p.live) (hq : q.live) (hs : Sub D G) (ht : Sub E G) (hw : s.WF) (hz : s.Sz 1000000) :
    Go.Sl.Fn Try.prog 31 #[.agg (s.cells p).toArray, .agg (s.cells q).toArray] B w0 G fun u G' => u = .string ⟨#[]⟩ ∧ G' = G := by
  refine Fn.pure ?_
  obtain ⟨p0, p1, p2, pcr, pst, pow, pot, ppa⟩ := p
  obtain ⟨q0, q1, q2, qcr, qst, qow, qot, qpa⟩ := q
  obtain ⟨⟨n1, h1⟩, ⟨n2, h2⟩, ⟨n3, h3⟩, ⟨n4, h4⟩, ⟨n5, h5⟩⟩ := hp
  obtain ⟨⟨r1, i1⟩, ⟨r2, i2⟩, ⟨r3, i3⟩, ⟨r4, i4⟩, ⟨r5, i5⟩⟩ := hq
  dsimp only at h1 h2 h3 h4 h5 i1 i2 i3 i4 i5
  subst h1 h2 h3 h4 h5 i1 i2 i3 i4 i5
  obtain ⟨a0, b0, a1, b1, a2, b2, k1, k2, k3, k4, k5, rfl, hd⟩ := hD
  obtain ⟨c0, d0, c1, d1, c2, d2, l1, l2, l3, l4, l5, rfl, he⟩ := hE
  have sk1 := hs.right.right.right.right.right.right.left
  have sk2 := hs.right.right.right.right.right.right.right.left
  have sk3 := hs.right.right.right.right.right.right.right.right.left
  have sk4 := hs.right.right.right.right.right.right.right.right.right.left
  have sk5 := hs.right.right.right.right.right.right.right.right.right.right
  have sl1 := ht.right.right.right.right.right.right.left
  have sl2 := ht.right.right.right.right.right.right.right.left
  have sl3 := ht.right.right.right.right.right.right.right.right.left
  have sl4 := ht.right.right.right.right.right.right.right.right.right.left
  have sl5 := ht.right.right.right.right.right.right.right.right.right.right
  have vv := fun i (hi : i < 3) => hd.vw (B := B) (w0 := w0) hs hi
  have ww := fun i (hi : i < 3) => he.vw (B := B) (w0 := w0) ht hi
  obtain ⟨x1, g1, e1⟩ := hd.cr.r
  obtain ⟨x2, g2, e2⟩ := hd.st.r
  obtain ⟨x3, g3, e3⟩ := hd.own.r
  obtain ⟨x4, g4, e4⟩ := hd.oth.r
  obtain ⟨x5, g5, e5⟩ := hd.pa.r
  obtain ⟨y1, j1, f1⟩ := he.cr.r
  obtain ⟨y2, j2, f2⟩ := he.st.r
  obtain ⟨y3, j3, f3⟩ := he.own.r
  obtain ⟨y4, j4, f4⟩ := he.oth.r
  obtain ⟨y5, j5, f5⟩ := he.pa.r
  have hcl : ∀ p, (s.cells p).length = 37 := fun p => StM.cells_len hw
  have hco : ∀ p, ∀ u ∈ s.cells p, u.oneCell' = true := fun p => StM.cells_one
  have hcp := hcl ⟨p0, p1, p2, some n1, some n2, some n3, some n4, some n5⟩
  have hcq := hcl ⟨q0, q1, q2, some r1, some r2, some r3, some r4, some r5⟩
  have hop := hco ⟨p0, p1, p2, some n1, some n2, some n3, some n4, some n5⟩
  have hoq := hco ⟨q0, q1, q2, some r1, some r2, some r3, some r4, some r5⟩
  have hmt : s.mt.length = 8 := hw.mt.1
  have hml : (s.mt.map (Value.int .u64)).length = 8 := by rw [List.length_map]; exact hmt
  have hme : ∀ w : World, (Op.equal 69 (.agg (s.mt.map (Value.int .u64)).toArray) (.agg (s.mt.map (Value.int .u64)).toArray)).run Try.prog w = .ok (decide (s.mt = s.mt)) w := fun w => run_equal_ints Try.underlying69 Try.underlying22 Ty.sc22.size hmt hmt w
  have hce : ∀ w : World, (Op.equal 28 (.agg [Value.int .u64 s.c0, .int .u64 s.c1, .int .u64 s.c2].toArray) (.agg [Value.int .u64 s.c0, .int .u64 s.c1, .int .u64 s.c2].toArray)).run Try.prog w = .ok (decide ([s.c0, s.c1, s.c2] = [s.c0, s.c1, s.c2])) w := fun w => run_equal_ints (xs := [s.c0, s.c1, s.c2]) (ys := [s.c0, s.c1, s.c2]) Try.underlying28 Try.underlying22 Ty.sc22.size rfl rfl w
  refine fn_enter Try.func31 rfl (by kernel_rfl) Try.ntmps31 (by simp) ?_
  refine cw_seq ?_
  refine cw_region ?_
  (refine ow_box rfl rfl rfl rfl ?_; intro b2)
  (refine ow_box rfl rfl rfl rfl ?_; intro b3)
  refine ow_val rfl rfl (v_assign rfl) ?_
  refine ow_nil ?_
  refine xw_then ?_
  refine cw_seq ?_
  refine cw_seq ?_
  refine cw_region ?_
  refine ow_val rfl rfl (v_move rfl) ?_
  refine ow_nil ?_
  refine xw_then ?_
  refine cw_block ?_
  refine cw_loop2 (ι := (Nat)) [(2, _), (3, _)] ⟨rfl, rfl, trivial⟩ ((fun i => [(8, .int .i64 i)])) ((fun i => i ≤ 3)) ((fun i => 3 - i)) ((fun _ => [(b3, .cells (s.cells ⟨q0, q1, q2, some r1, some r2, some r3, some r4, some r5⟩).toArray 75 (0, 0))] :: [(b2, .cells (s.cells ⟨p0, p1, p2, some n1, some n2, some n3, some n4, some n5⟩).toArray 75 (0, 0))] :: G)) (0) (by repeat (first | exact True.intro | refine And.intro rfl ?_)) (by first | exact Cov.refl _ | (intro p; simp only [List.flatten_cons, List.flatten_nil, List.flatten_append, List.append_nil, List.nil_append, cnt_append, cnt_cons, cnt_nil, List.set_cons_zero, List.set_cons_succ, List.length_nil, List.length_cons, Nat.zero_add, List.append]; omega)) ?_ ?_
  · exact Nat.zero_le _
  rintro i hi
  have hsl : ∀ (x : SpM) (q : SpP), (x.cells q).length = 5 := fun _ _ => rfl
  have hso : ∀ (x : SpM) (q : SpP), ∀ u ∈ x.cells q, u.oneCell' = true := fun _ _ => SpM.cells_one
  refine cw_seq ?_
  refine cw_region ?_
  refine ow_val rfl rfl (v_lss rfl rfl) ?_
  refine ow_nil ?_
  refine xw_then ?_
  refine cw_seq ?_
  refine cw_dec rfl (fun hc9 => ?_) (fun hc9 => ?_)
  refine cw_skip ?_
  refine xw_then ?_
  rotate_left
  refine cw_exit ?_
  refine xw_then_exit ?_
  refine xw_round_exit ?_
  refine xw_block_exit ?_
  refine xw_then ?_
  rotate_left
  · have hi3 : i < 3 := by omega
    obtain ⟨va, vb⟩ := vv i hi3
    obtain ⟨wa, wb⟩ := ww i hi3
    have zi := hz.sp i
    have ti := (StM.sp_wf hw i).len
    have o1 := hso (s.sp i) (StP.sp ⟨p0, p1, p2, some n1, some n2, some n3, some n4, some n5⟩ i)
    have o2 := hso (s.sp i) (StP.sp ⟨q0, q1, q2, some r1, some r2, some r3, some r4, some r5⟩ i)
    refine cw_seq ?_
    refine cw_block ?_
    refine cw_seq ?_
    refine cw_region ?_
    refine ow_val rfl rfl (v_move rfl) ?_
    refine ow_val rfl rfl (v_assign rfl) ?_
    refine ow_nil ?_
    refine xw_then ?_
    refine cw_cut2 (ι := ((Nat × Nat))) [(2, _), (3, _), (5, _), (8, _)] ⟨rfl, rfl, rfl, rfl, trivial⟩ ((fun x => [(5, .int .i64 i), (6, .pointer (some ⟨x.1, 0, none⟩)), (7, .pointer (some ⟨x.2, 0, none⟩))])) ((fun _ => True)) ((fun x => [(x.2, .cells ((s.sp i).cells (StP.sp ⟨q0, q1, q2, some r1, some r2, some r3, some r4, some r5⟩ i)).toArray 66 (0, 0))] :: [(x.1, .cells ((s.sp i).cells (StP.sp ⟨p0, p1, p2, some n1, some n2, some n3, some n4, some n5⟩ i)).toArray 66 (0, 0))] :: [(b3, .cells (s.cells ⟨q0, q1, q2, some r1, some r2, some r3, some r4, some r5⟩).toArray 75 (0, 0))] :: [(b2, .cells (s.cells ⟨p0, p1, p2, some n1, some n2, some n3, some n4, some n5⟩).toArray 75 (0, 0))] :: G)) ?_ ?_
    · refine cw_any Ty.mixed ?_
      refine aw_pure 0 rfl (by decide +kernel) rfl rfl (v_move rfl) rfl ?_
      refine aw_pure 1 rfl (by decide +kernel) rfl rfl (v_fieldAddr0 Ty.fd75_1 rfl) rfl ?_
      refine aw_pure 2 rfl (by decide +kernel) rfl rfl (v_indexAddrA Try.underlying67 Ty.el67 rfl rfl rfl (by omega)) rfl ?_
      refine aw_pure 4 rfl (by decide +kernel) rfl rfl (v_move rfl) rfl ?_
      refine aw_pure 5 rfl (by decide +kernel) rfl rfl (v_fieldAddr0 Ty.fd75_1 rfl) rfl ?_
      refine aw_pure 6 rfl (by decide +kernel) rfl rfl (v_indexAddrA Try.underlying67 Ty.el67 rfl rfl rfl (by omega)) rfl ?_
      refine aw_step4 3 7 8 9 (by decide +kernel) rfl rfl rfl rfl ?_ ?_ ?_ ?_
      refine ow_val rfl rfl (v_load rfl (Var.atN Ty.ag66 (.there .here) ((get_sp hi3)) (by first | rfl | assumption))) ?_
      refine ow_nil ?_
      refine xw_nx ?_
      refine aw_step3 7 8 9 (by decide +kernel) rfl rfl rfl ?_ ?_ ?_
      refine ow_val rfl rfl (v_load rfl (Var.atN Ty.ag66 .here ((get_sp hi3)) (by first | rfl | assumption))) ?_
      refine ow_nil ?_
      refine xw_nx ?_
      refine aw_step2 8 9 (by decide +kernel) rfl rfl ?_ ?_
      (refine ow_alloc rfl rfl Ty.ze66 ?_; intro b6)
      refine ow_nil ?_
      refine xw_nx ?_
      refine aw_step1 9 (by decide +kernel) rfl ?_
      (refine ow_alloc rfl rfl Ty.ze66 ?_; intro b7)
      refine ow_nil ?_
      refine xw_nx ?_
      refine aw_step1 10 (by decide +kernel) rfl ?_
      refine ow_storeN rfl rfl rfl Ty.ag66 (by first | rfl | assumption) (by first | assumption | simp) (.there .here) ((SetN.all (vs := (s.sp i).cells (StP.sp ⟨p0, p1, p2, some n1, some n2, some n3, some n4, some n5⟩ i)) rfl)) ?_
      refine ow_nil ?_
      refine xw_nx ?_
      refine aw_step1 11 (by decide +kernel) rfl ?_
      refine ow_storeN rfl rfl rfl Ty.ag66 (by first | rfl | assumption) (by first | assumption | simp) .here ((SetN.all (vs := (s.sp i).cells (StP.sp ⟨q0, q1, q2, some r1, some r2, some r3, some r4, some r5⟩ i)) rfl)) ?_
      refine ow_nil ?_
      refine xw_nx ?_
      refine aw_end (by decide +kernel) ?_
      refine xw_np ?_
      rotate_left
      (refine ow_alloc rfl rfl Ty.ze66 ?_; intro b7)
      refine ow_nil ?_
      refine xw_nx ?_
      refine aw_step1 8 (by decide +kernel) rfl ?_
      (refine ow_alloc rfl rfl Ty.ze66 ?_; intro b6)
      refine ow_nil ?_
      refine xw_nx ?_
      refine aw_step1 10 (by decide +kernel) rfl ?_
      refine ow_storeN rfl rfl rfl Ty.ag66 (by first | rfl | assumption) (by first | assumption | simp) .here ((SetN.all (vs := (s.sp i).cells (StP.sp ⟨p0, p1, p2, some n1, some n2, some n3, some n4, some n5⟩ i)) rfl)) ?_
      refine ow_nil ?_
      refine xw_nx ?_
      refine aw_step1 11 (by decide +kernel) rfl ?_
      refine ow_storeN rfl rfl rfl Ty.ag66 (by first | rfl | assumption) (by first | assumption | simp) (.there .here) ((SetN.all (vs := (s.sp i).cells (StP.sp ⟨q0, q1, q2, some r1, some r2, some r3, some r4, some r5⟩ i)) rfl)) ?_
      refine ow_nil ?_
      refine xw_nx ?_
      refine aw_end (by decide +kernel) ?_
      refine xw_np ?_
      rotate_left
      (refine ow_alloc rfl rfl Ty.ze66 ?_; intro b6)
      refine ow_nil ?_
      refine xw_nx ?_
      refine aw_step2 7 9 (by decide +kernel) rfl rfl ?_ ?_
      refine ow_val rfl rfl (v_load rfl (Var.atN Ty.ag66 (.there .here) ((get_sp hi3)) (by first | rfl | assumption))) ?_
      refine ow_nil ?_
      refine xw_nx ?_
      refine aw_step1 9 (by decide +kernel) rfl ?_
      (refine ow_alloc rfl rfl Ty.ze66 ?_; intro b7)
      refine ow_nil ?_
      refine xw_nx ?_
      refine aw_step1 10 (by decide +kernel) rfl ?_
      refine ow_storeN rfl rfl rfl Ty.ag66 (by first | rfl | assumption) (by first | assumption | simp) (.there .here) ((SetN.all (vs := (s.sp i).cells (StP.sp ⟨p0, p1, p2, some n1, some n2, some n3, some n4, some n5⟩ i)) rfl)) ?_
      refine ow_nil ?_
      refine xw_nx ?_
      refine aw_step1 11 (by decide +kernel) rfl ?_
      refine ow_storeN rfl rfl rfl Ty.ag66 (by first | rfl | assumption) (by first | assumption | simp) .here ((SetN.all (vs := (s.sp i).cells (StP.sp ⟨q0, q1, q2, some r1, some r2, some r3, some r4, some r5⟩ i)) rfl)) ?_
      refine ow_nil ?_
      refine xw_nx ?_
      refine aw_end (by decide +kernel) ?_
      refine xw_np ?_
      rotate_left
      (refine ow_alloc rfl rfl Ty.ze66 ?_; intro b7)
      refine ow_nil ?_
      refine xw_nx ?_
      refine aw_step2 7 10 (by decide +kernel) rfl rfl ?_ ?_
      refine ow_val rfl rfl (v_load rfl (Var.atN Ty.ag66 (.there (.there .here)) ((get_sp hi3)) (by first | rfl | assumption))) ?_
      refine ow_nil ?_
      refine xw_nx ?_
      refine aw_step1 10 (by decide +kernel) rfl ?_
      refine ow_storeN rfl rfl rfl Ty.ag66 (by first | rfl | assumption) (by first | assumption | simp) (.there .here) ((SetN.all (vs := (s.sp i).cells (StP.sp ⟨p0, p1, p2, some n1, some n2, some n3, some n4, some n5⟩ i)) rfl)) ?_
      refine ow_nil ?_
      refine xw_nx ?_
      refine aw_step1 11 (by decide +kernel) rfl ?_
      refine ow_storeN rfl rfl rfl Ty.ag66 (by first | rfl | assumption) (by first | assumption | simp) .here ((SetN.all (vs := (s.sp i).cells (StP.sp ⟨q0, q1, q2, some r1, some r2, some r3, some r4, some r5⟩ i)) rfl)) ?_
      refine ow_nil ?_
      refine xw_nx ?_
      refine aw_end (by decide +kernel) ?_
      refine xw_np ?_
      rotate_left
      refine ow_storeN rfl rfl rfl Ty.ag66 (by first | rfl | assumption) (by first | assumption | simp) (.there .here) ((SetN.all (vs := (s.sp i).cells (StP.sp ⟨p0, p1, p2, some n1, some n2, some n3, some n4, some n5⟩ i)) rfl)) ?_
      refine ow_nil ?_
      refine xw_nx ?_
      refine aw_step1 7 (by decide +kernel) rfl ?_
      refine ow_val rfl rfl (v_load rfl (Var.atN Ty.ag66 (.there (.there .here)) ((get_sp hi3)) (by first | rfl | assumption))) ?_
      refine ow_nil ?_
      refine xw_nx ?_
      refine aw_step1 11 (by decide +kernel) rfl ?_
      refine ow_storeN rfl rfl rfl Ty.ag66 (by first | rfl | assumption) (by first | assumption | simp) .here ((SetN.all (vs := (s.sp i).cells (StP.sp ⟨q0, q1, q2, some r1, some r2, some r3, some r4, some r5⟩ i)) rfl)) ?_
      refine ow_nil ?_
      refine xw_nx ?_
      refine aw_end (by decide +kernel) ?_
      refine xw_np ?_
      rotate_left
      (refine ow_alloc rfl rfl Ty.ze66 ?_; intro b7)
      refine ow_nil ?_
      refine xw_nx ?_
      refine aw_step2 7 8 (by decide +kernel) rfl rfl ?_ ?_
      refine ow_val rfl rfl (v_load rfl (Var.atN Ty.ag66 (.there .here) ((get_sp hi3)) (by first | rfl | assumption))) ?_
      refine ow_nil ?_
      refine xw_nx ?_
      refine aw_step1 8 (by decide +kernel) rfl ?_
      (refine ow_alloc rfl rfl Ty.ze66 ?_; intro b6)
      refine ow_nil ?_
      refine xw_nx ?_
      refine aw_step1 10 (by decide +kernel) rfl ?_
      refine ow_storeN rfl rfl rfl Ty.ag66 (by first | rfl | assumption) (by first | assumption | simp) .here ((SetN.all (vs := (s.sp i).cells (StP.sp ⟨p0, p1, p2, some n1, some n2, some n3, some n4, some n5⟩ i)) rfl)) ?_
      refine ow_nil ?_
      refine xw_nx ?_
      refine aw_step1 11 (by decide +kernel) rfl ?_
      refine ow_storeN rfl rfl rfl Ty.ag66 (by first | rfl | assumption) (by first | assumption | simp) (.there .here) ((SetN.all (vs := (s.sp i).cells (StP.sp ⟨q0, q1, q2, some r1, some r2, some r3, some r4, some r5⟩ i)) rfl)) ?_
      refine ow_nil ?_
      refine xw_nx ?_
      refine aw_end (by decide +kernel) ?_
      refine xw_np ?_
      rotate_left
      (refine ow_alloc rfl rfl Ty.ze66 ?_; intro b6)
      refine ow_nil ?_
      refine xw_nx ?_
      refine aw_step2 7 10 (by decide +kernel) rfl rfl ?_ ?_
      refine ow_val rfl rfl (v_load rfl (Var.atN Ty.ag66 (.there (.there .here)) ((get_sp hi3)) (by first | rfl | assumption))) ?_
      refine ow_nil ?_
      refine xw_nx ?_
      refine aw_step1 10 (by decide +kernel) rfl ?_
      refine ow_storeN rfl rfl rfl Ty.ag66 (by first | rfl | assumption) (by first | assumption | simp) .here ((SetN.all (vs := (s.sp i).cells (StP.sp ⟨p0, p1, p2, some n1, some n2, some n3, some n4, some n5⟩ i)) rfl)) ?_
      refine ow_nil ?_
      refine xw_nx ?_
      refine aw_step1 11 (by decide +kernel) rfl ?_
      refine ow_storeN rfl rfl rfl Ty.ag66 (by first | rfl | assumption) (by first | assumption | simp) (.there .here) ((SetN.all (vs := (s.sp i).cells (StP.sp ⟨q0, q1, q2, some r1, some r2, some r3, some r4, some r5⟩ i)) rfl)) ?_
      refine ow_nil ?_
      refine xw_nx ?_
      refine aw_end (by decide +kernel) ?_
      refine xw_np ?_
      rotate_left
      refine ow_storeN rfl rfl rfl Ty.ag66 (by first | rfl | assumption) (by first | assumption | simp) .here ((SetN.all (vs := (s.sp i).cells (StP.sp ⟨p0, p1, p2, some n1, some n2, some n3, some n4, some n5⟩ i)) rfl)) ?_
      refine ow_nil ?_
      refine xw_nx ?_
      refine aw_step1 7 (by decide +kernel) rfl ?_
      refine ow_val rfl rfl (v_load rfl (Var.atN Ty.ag66 (.there (.there .here)) ((get_sp hi3)) (by first | rfl | assumption))) ?_
      refine ow_nil ?_
      refine xw_nx ?_
      refine aw_step1 11 (by decide +kernel) rfl ?_
      refine ow_storeN rfl rfl rfl Ty.ag66 (by first | rfl | assumption) (by first | assumption | simp) (.there .here) ((SetN.all (vs := (s.sp i).cells (StP.sp ⟨q0, q1, q2, some r1, some r2, some r3, some r4, some r5⟩ i)) rfl)) ?_
      refine ow_nil ?_
      refine xw_nx ?_
      refine aw_end (by decide +kernel) ?_
      refine xw_np ?_
      rotate_left
      refine ow_val rfl rfl (v_load rfl (Var.atN Ty.ag66 .here ((get_sp hi3)) (by first | rfl | assumption))) ?_
      refine ow_nil ?_
      refine xw_nx ?_
      refine aw_step3 3 8 9 (by decide +kernel) rfl rfl rfl ?_ ?_ ?_
      refine ow_val rfl rfl (v_load rfl (Var.atN Ty.ag66 (.there .here) ((get_sp hi3)) (by first | rfl | assumption))) ?_
      refine ow_nil ?_
      refine xw_nx ?_
      refine aw_step2 8 9 (by decide +kernel) rfl rfl ?_ ?_
      (refine ow_alloc rfl rfl Ty.ze66 ?_; intro b6)
      refine ow_nil ?_
      refine xw_nx ?_
      refine aw_step1 9 (by decide +kernel) rfl ?_
      (refine ow_alloc rfl rfl Ty.ze66 ?_; intro b7)
      refine ow_nil ?_
      refine xw_nx ?_
      refine aw_step1 10 (by decide +kernel) rfl ?_
      refine ow_storeN rfl rfl rfl Ty.ag66 (by first | rfl | assumption) (by first | assumption | simp) (.there .here) ((SetN.all (vs := (s.sp i).cells (StP.sp ⟨p0, p1, p2, some n1, some n2, some n3, some n4, some n5⟩ i)) rfl)) ?_
      refine ow_nil ?_
      refine xw_nx ?_
      refine aw_step1 11 (by decide +kernel) rfl ?_
      refine ow_storeN rfl rfl rfl Ty.ag66 (by first | rfl | assumption) (by first | assumption | simp) .here ((SetN.all (vs := (s.sp i).cells (StP.sp ⟨q0, q1, q2, some r1, some r2, some r3, some r4, some r5⟩ i)) rfl)) ?_
      refine ow_nil ?_
      refine xw_nx ?_
      refine aw_end (by decide +kernel) ?_
      refine xw_np ?_
      rotate_left
      (refine ow_alloc rfl rfl Ty.ze66 ?_; intro b7)
      refine ow_nil ?_
      refine xw_nx ?_
      refine aw_step1 8 (by decide +kernel) rfl ?_
      (refine ow_alloc rfl rfl Ty.ze66 ?_; intro b6)
      refine ow_nil ?_
      refine xw_nx ?_
      refine aw_step1 10 (by decide +kernel) rfl ?_
      refine ow_storeN rfl rfl rfl Ty.ag66 (by first | rfl | assumption) (by first | assumption | simp) .here ((SetN.all (vs := (s.sp i).cells (StP.sp ⟨p0, p1, p2, some n1, some n2, some n3, some n4, some n5⟩ i)) rfl)) ?_
      refine ow_nil ?_
      refine xw_nx ?_
      refine aw_step1 11 (by decide +kernel) rfl ?_
      refine ow_storeN rfl rfl rfl Ty.ag66 (by first | rfl | assumption) (by first | assumption | simp) (.there .here) ((SetN.all (vs := (s.sp i).cells (StP.sp ⟨q0, q1, q2, some r1, some r2, some r3, some r4, some r5⟩ i)) rfl)) ?_
      refine ow_nil ?_
      refine xw_nx ?_
      refine aw_end (by decide +kernel) ?_
      refine xw_np ?_
      rotate_left
      (refine ow_alloc rfl rfl Ty.ze66 ?_; intro b6)
      refine ow_nil ?_
      refine xw_nx ?_
      refine aw_step2 3 9 (by decide +kernel) rfl rfl ?_ ?_
      refine ow_val rfl rfl (v_load rfl (Var.atN Ty.ag66 (.there (.there .here)) ((get_sp hi3)) (by first | rfl | assumption))) ?_
      refine ow_nil ?_
      refine xw_nx ?_
      refine aw_step1 9 (by decide +kernel) rfl ?_
      (refine ow_alloc rfl rfl Ty.ze66 ?_; intro b7)
      refine ow_nil ?_
      refine xw_nx ?_
      refine aw_step1 10 (by decide +kernel) rfl ?_
      refine ow_storeN rfl rfl rfl Ty.ag66 (by first | rfl | assumption) (by first | assumption | simp) (.there .here) ((SetN.all (vs := (s.sp i).cells (StP.sp ⟨p0, p1, p2, some n1, some n2, some n3, some n4, some n5⟩ i)) rfl)) ?_
      refine ow_nil ?_
      refine xw_nx ?_
      refine aw_step1 11 (by decide +kernel) rfl ?_
      refine ow_storeN rfl rfl rfl Ty.ag66 (by first | rfl | assumption) (by first | assumption | simp) .here ((SetN.all (vs := (s.sp i).cells (StP.sp ⟨q0, q1, q2, some r1, some r2, some r3, some r4, some r5⟩ i)) rfl)) ?_
      refine ow_nil ?_
      refine xw_nx ?_
      refine aw_end (by decide +kernel) ?_
      refine xw_np ?_
      rotate_left
      (refine ow_alloc rfl rfl Ty.ze66 ?_; intro b7)
      refine ow_nil ?_
      refine xw_nx ?_
      refine aw_step1 3 (by decide +kernel) rfl ?_
      refine ow_val rfl rfl (v_load rfl (Var.atN Ty.ag66 (.there (.there (.there .here))) ((get_sp hi3)) (by first | rfl | assumption))) ?_
      refine ow_nil ?_
      refine xw_nx ?_
      refine aw_step1 10 (by decide +kernel) rfl ?_
      refine ow_storeN rfl rfl rfl Ty.ag66 (by first | rfl | assumption) (by first | assumption | simp) (.there .here) ((SetN.all (vs := (s.sp i).cells (StP.sp ⟨p0, p1, p2, some n1, some n2, some n3, some n4, some n5⟩ i)) rfl)) ?_
      refine ow_nil ?_
      refine xw_nx ?_
      refine aw_step1 11 (by decide +kernel) rfl ?_
      refine ow_storeN rfl rfl rfl Ty.ag66 (by first | rfl | assumption) (by first | assumption | simp) .here ((SetN.all (vs := (s.sp i).cells (StP.sp ⟨q0, q1, q2, some r1, some r2, some r3, some r4, some r5⟩ i)) rfl)) ?_
      refine ow_nil ?_
      refine xw_nx ?_
      refine aw_end (by decide +kernel) ?_
      refine xw_np ?_
      rotate_left
      (refine ow_alloc rfl rfl Ty.ze66 ?_; intro b7)
      refine ow_nil ?_
      refine xw_nx ?_
      refine aw_step2 3 8 (by decide +kernel) rfl rfl ?_ ?_
      refine ow_val rfl rfl (v_load rfl (Var.atN Ty.ag66 (.there (.there .here)) ((get_sp hi3)) (by first | rfl | assumption))) ?_
      refine ow_nil ?_
      refine xw_nx ?_
      refine aw_step1 8 (by decide +kernel) rfl ?_
      (refine ow_alloc rfl rfl Ty.ze66 ?_; intro b6)
      refine ow_nil ?_
      refine xw_nx ?_
      refine aw_step1 10 (by decide +kernel) rfl ?_
      refine ow_storeN rfl rfl rfl Ty.ag66 (by first | rfl | assumption) (by first | assumption | simp) .here ((SetN.all (vs := (s.sp i).cells (StP.sp ⟨p0, p1, p2, some n1, some n2, some n3, some n4, some n5⟩ i)) rfl)) ?_
      refine ow_nil ?_
      refine xw_nx ?_
      refine aw_step1 11 (by decide +kernel) rfl ?_
      refine ow_storeN rfl rfl rfl Ty.ag66 (by first | rfl | assumption) (by first | assumption | simp) (.there .here) ((SetN.all (vs := (s.sp i).cells (StP.sp ⟨q0, q1, q2, some r1, some r2, some r3, some r4, some r5⟩ i)) rfl)) ?_
      refine ow_nil ?_
      refine xw_nx ?_
      refine aw_end (by decide +kernel) ?_
      refine xw_np ?_
      rotate_left
      (refine ow_alloc rfl rfl Ty.ze66 ?_; intro b6)
      refine ow_nil ?_
      refine xw_nx ?_
      refine aw_step1 3 (by decide +kernel) rfl ?_
      refine ow_val rfl rfl (v_load rfl (Var.atN Ty.ag66 (.there (.there (.there .here))) ((get_sp hi3)) (by first | rfl | assumption))) ?_
      refine ow_nil ?_
      refine xw_nx ?_
      refine aw_step1 10 (by decide +kernel) rfl ?_
      refine ow_storeN rfl rfl rfl Ty.ag66 (by first | rfl | assumption) (by first | assumption | simp) .here ((SetN.all (vs := (s.sp i).cells (StP.sp ⟨p0, p1, p2, some n1, some n2, some n3, some n4, some n5⟩ i)) rfl)) ?_
      refine ow_nil ?_
      refine xw_nx ?_
      refine aw_step1 11 (by decide +kernel) rfl ?_
      refine ow_storeN rfl rfl rfl Ty.ag66 (by first | rfl | assumption) (by first | assumption | simp) (.there .here) ((SetN.all (vs := (s.sp i).cells (StP.sp ⟨q0, q1, q2, some r1, some r2, some r3, some r4, some r5⟩ i)) rfl)) ?_
      refine ow_nil ?_
      refine xw_nx ?_
      refine aw_end (by decide +kernel) ?_
      refine xw_np ?_
      rotate_left
      (refine ow_alloc rfl rfl Ty.ze66 ?_; intro b6)
      refine ow_nil ?_
      refine xw_nx ?_
      refine aw_step3 3 7 9 (by decide +kernel) rfl rfl rfl ?_ ?_ ?_
      refine ow_val rfl rfl (v_load rfl (Var.atN Ty.ag66 (.there (.there .here)) ((get_sp hi3)) (by first | rfl | assumption))) ?_
      refine ow_nil ?_
      refine xw_nx ?_
      refine aw_step2 7 9 (by decide +kernel) rfl rfl ?_ ?_
      refine ow_val rfl rfl (v_load rfl (Var.atN Ty.ag66 (.there .here) ((get_sp hi3)) (by first | rfl | assumption))) ?_
      refine ow_nil ?_
      refine xw_nx ?_
      refine aw_step1 9 (by decide +kernel) rfl ?_
      (refine ow_alloc rfl rfl Ty.ze66 ?_; intro b7)
      refine ow_nil ?_
      refine xw_nx ?_
      refine aw_step1 10 (by decide +kernel) rfl ?_
      refine ow_storeN rfl rfl rfl Ty.ag66 (by first | rfl | assumption) (by first | assumption | simp) (.there .here) ((SetN.all (vs := (s.sp i).cells (StP.sp ⟨p0, p1, p2, some n1, some n2, some n3, some n4, some n5⟩ i)) rfl)) ?_
      refine ow_nil ?_
      refine xw_nx ?_
      refine aw_step1 11 (by decide +kernel) rfl ?_
      refine ow_storeN rfl rfl rfl Ty.ag66 (by first | rfl | assumption) (by first | assumption | simp) .here ((SetN.all (vs := (s.sp i).cells (StP.sp ⟨q0, q1, q2, some r1, some r2, some r3, some r4, some r5⟩ i)) rfl)) ?_
      refine ow_nil ?_
      refine xw_nx ?_
      refine aw_end (by decide +kernel) ?_
      refine xw_np ?_
      rotate_left
      (refine ow_alloc rfl rfl Ty.ze66 ?_; intro b7)
      refine ow_nil ?_
      refine xw_nx ?_
      refine aw_step2 7 10 (by decide +kernel) rfl rfl ?_ ?_
      refine ow_val rfl rfl (v_load rfl (Var.atN Ty.ag66 (.there (.there .here)) ((get_sp hi3)) (by first | rfl | assumption))) ?_
      refine ow_nil ?_
      refine xw_nx ?_
      refine aw_step1 10 (by decide +kernel) rfl ?_
      refine ow_storeN rfl rfl rfl Ty.ag66 (by first | rfl | assumption) (by first | assumption | simp) (.there .here) ((SetN.all (vs := (s.sp i).cells (StP.sp ⟨p0, p1, p2, some n1, some n2, some n3, some n4, some n5⟩ i)) rfl)) ?_
      refine ow_nil ?_
      refine xw_nx ?_
      refine aw_step1 11 (by decide +kernel) rfl ?_
      refine ow_storeN rfl rfl rfl Ty.ag66 (by first | rfl | assumption) (by first | assumption | simp) .here ((SetN.all (vs := (s.sp i).cells (StP.sp ⟨q0, q1, q2, some r1, some r2, some r3, some r4, some r5⟩ i)) rfl)) ?_
      refine ow_nil ?_
      refine xw_nx ?_
      refine aw_end (by decide +kernel) ?_
      refine xw_np ?_
      rotate_left
      refine ow_storeN rfl rfl rfl Ty.ag66 (by first | rfl | assumption) (by first | assumption | simp) (.there .here) ((SetN.all (vs := (s.sp i).cells (StP.sp ⟨p0, p1, p2, some n1, some n2, some n3, some n4, some n5⟩ i)) rfl)) ?_
      refine ow_nil ?_
      refine xw_nx ?_
      refine aw_step1 7 (by decide +kernel) rfl ?_
      refine ow_val rfl rfl (v_load rfl (Var.atN Ty.ag66 (.there (.there .here)) ((get_sp hi3)) (by first | rfl | assumption))) ?_
      refine ow_nil ?_
      refine xw_nx ?_
      refine aw_step1 11 (by decide +kernel) rfl ?_
      refine ow_storeN rfl rfl rfl Ty.ag66 (by first | rfl | assumption) (by first | assumption | simp) .here ((SetN.all (vs := (s.sp i).cells (StP.sp ⟨q0, q1, q2, some r1, some r2, some r3, some r4, some r5⟩ i)) rfl)) ?_
      refine ow_nil ?_
      refine xw_nx ?_
      refine aw_end (by decide +kernel) ?_
      refine xw_np ?_
      rotate_left
      refine ow_val rfl rfl (v_load rfl (Var.atN Ty.ag66 (.there .here) ((get_sp hi3)) (by first | rfl | assumption))) ?_
      refine ow_nil ?_
      refine xw_nx ?_
      refine aw_step2 3 9 (by decide +kernel) rfl rfl ?_ ?_
      refine ow_val rfl rfl (v_load rfl (Var.atN Ty.ag66 (.there (.there .here)) ((get_sp hi3)) (by first | rfl | assumption))) ?_
      refine ow_nil ?_
      refine xw_nx ?_
      refine aw_step1 9 (by decide +kernel) rfl ?_
      (refine ow_alloc rfl rfl Ty.ze66 ?_; intro b7)
      refine ow_nil ?_
      refine xw_nx ?_
      refine aw_step1 10 (by decide +kernel) rfl ?_
      refine ow_storeN rfl rfl rfl Ty.ag66 (by first | rfl | assumption) (by first | assumption | simp) (.there .here) ((SetN.all (vs := (s.sp i).cells (StP.sp ⟨p0, p1, p2, some n1, some n2, some n3, some n4, some n5⟩ i)) rfl)) ?_
      refine ow_nil ?_
      refine xw_nx ?_
      refine aw_step1 11 (by decide +kernel) rfl ?_
      refine ow_storeN rfl rfl rfl Ty.ag66 (by first | rfl | assumption) (by first | assumption | simp) .here ((SetN.all (vs := (s.sp i).cells (StP.sp ⟨q0, q1, q2, some r1, some r2, some r3, some r4, some r5⟩ i)) rfl)) ?_
      refine ow_nil ?_
      refine xw_nx ?_
      refine aw_end (by decide +kernel) ?_
      refine xw_np ?_
      rotate_left
      (refine ow_alloc rfl rfl Ty.ze66 ?_; intro b7)
      refine ow_nil ?_
      refine xw_nx ?_
      refine aw_step1 3 (by decide +kernel) rfl ?_
      refine ow_val rfl rfl (v_load rfl (Var.atN Ty.ag66 (.there (.there (.there .here))) ((get_sp hi3)) (by first | rfl | assumption))) ?_
      refine ow_nil ?_
      refine xw_nx ?_
      refine aw_step1 10 (by decide +kernel) rfl ?_
      refine ow_storeN rfl rfl rfl Ty.ag66 (by first | rfl | assumption) (by first | assumption | simp) (.there .here) ((SetN.all (vs := (s.sp i).cells (StP.sp ⟨p0, p1, p2, some n1, some n2, some n3, some n4, some n5⟩ i)) rfl)) ?_
      refine ow_nil ?_
      refine xw_nx ?_
      refine aw_step1 11 (by decide +kernel) rfl ?_
      refine ow_storeN rfl rfl rfl Ty.ag66 (by first | rfl | assumption) (by first | assumption | simp) .here ((SetN.all (vs := (s.sp i).cells (StP.sp ⟨q0, q1, q2, some r1, some r2, some r3, some r4, some r5⟩ i)) rfl)) ?_
      refine ow_nil ?_
      refine xw_nx ?_
      refine aw_end (by decide +kernel) ?_
      refine xw_np ?_
      rotate_left
      (refine ow_alloc rfl rfl Ty.ze66 ?_; intro b7)
      refine ow_nil ?_
      refine xw_nx ?_
      refine aw_step2 3 7 (by decide +kernel) rfl rfl ?_ ?_
      refine ow_val rfl rfl (v_load rfl (Var.atN Ty.ag66 (.there (.there (.there .here))) ((get_sp hi3)) (by first | rfl | assumption))) ?_
      refine ow_nil ?_
      refine xw_nx ?_
      refine aw_step2 7 10 (by decide +kernel) rfl rfl ?_ ?_
      refine ow_val rfl rfl (v_load rfl (Var.atN Ty.ag66 (.there (.there .here)) ((get_sp hi3)) (by first | rfl | assumption))) ?_
      refine ow_nil ?_
      refine xw_nx ?_
      refine aw_step1 10 (by decide +kernel) rfl ?_
      refine ow_storeN rfl rfl rfl Ty.ag66 (by first | rfl | assumption) (by first | assumption | simp) (.there .here) ((SetN.all (vs := (s.sp i).cells (StP.sp ⟨p0, p1, p2, some n1, some n2, some n3, some n4, some n5⟩ i)) rfl)) ?_
      refine ow_nil ?_
      refine xw_nx ?_
      refine aw_step1 11 (by decide +kernel) rfl ?_
      refine ow_storeN rfl rfl rfl Ty.ag66 (by first | rfl | assumption) (by first | assumption | simp) .here ((SetN.all (vs := (s.sp i).cells (StP.sp ⟨q0, q1, q2, some r1, some r2, some r3, some r4, some r5⟩ i)) rfl)) ?_
      refine ow_nil ?_
      refine xw_nx ?_
      refine aw_end (by decide +kernel) ?_
      refine xw_np ?_
      rotate_left
      refine ow_storeN rfl rfl rfl Ty.ag66 (by first | rfl | assumption) (by first | assumption | simp) (.there .here) ((SetN.all (vs := (s.sp i).cells (StP.sp ⟨p0, p1, p2, some n1, some n2, some n3, some n4, some n5⟩ i)) rfl)) ?_
      refine ow_nil ?_
      refine xw_nx ?_
      refine aw_step1 7 (by decide +kernel) rfl ?_
      refine ow_val rfl rfl (v_load rfl (Var.atN Ty.ag66 (.there (.there .here)) ((get_sp hi3)) (by first | rfl | assumption))) ?_
      refine ow_nil ?_
      refine xw_nx ?_
      refine aw_step1 11 (by decide +kernel) rfl ?_
      refine ow_storeN rfl rfl rfl Ty.ag66 (by first | rfl | assumption) (by first | assumption | simp) .here ((SetN.all (vs := (s.sp i).cells (StP.sp ⟨q0, q1, q2, some r1, some r2, some r3, some r4, some r5⟩ i)) rfl)) ?_
      refine ow_nil ?_
      refine xw_nx ?_
      refine aw_end (by decide +kernel) ?_
      refine xw_np ?_
      rotate_left
      refine ow_val rfl rfl (v_load rfl (Var.atN Ty.ag66 (.there (.there .here)) ((get_sp hi3)) (by first | rfl | assumption))) ?_
      refine ow_nil ?_
      refine xw_nx ?_
      refine aw_step1 3 (by decide +kernel) rfl ?_
      refine ow_val rfl rfl (v_load rfl (Var.atN Ty.ag66 (.there (.there (.there .here))) ((get_sp hi3)) (by first | rfl | assumption))) ?_
      refine ow_nil ?_
      refine xw_nx ?_
      refine aw_step1 10 (by decide +kernel) rfl ?_
      refine ow_storeN rfl rfl rfl Ty.ag66 (by first | rfl | assumption) (by first | assumption | simp) (.there .here) ((SetN.all (vs := (s.sp i).cells (StP.sp ⟨p0, p1, p2, some n1, some n2, some n3, some n4, some n5⟩ i)) rfl)) ?_
      refine ow_nil ?_
      refine xw_nx ?_
      refine aw_step1 11 (by decide +kernel) rfl ?_
      refine ow_storeN rfl rfl rfl Ty.ag66 (by first | rfl | assumption) (by first | assumption | simp) .here ((SetN.all (vs := (s.sp i).cells (StP.sp ⟨q0, q1, q2, some r1, some r2, some r3, some r4, some r5⟩ i)) rfl)) ?_
      refine ow_nil ?_
      refine xw_nx ?_
      refine aw_end (by decide +kernel) ?_
      refine xw_np ?_
      rotate_left
      (refine ow_alloc rfl rfl Ty.ze66 ?_; intro b7)
      refine ow_nil ?_
      refine xw_nx ?_
      refine aw_step3 3 7 8 (by decide +kernel) rfl rfl rfl ?_ ?_ ?_
      refine ow_val rfl rfl (v_load rfl (Var.atN Ty.ag66 (.there (.there .here)) ((get_sp hi3)) (by first | rfl | assumption))) ?_
      refine ow_nil ?_
      refine xw_nx ?_
      refine aw_step2 7 8 (by decide +kernel) rfl rfl ?_ ?_
      refine ow_val rfl rfl (v_load rfl (Var.atN Ty.ag66 (.there .here) ((get_sp hi3)) (by first | rfl | assumption))) ?_
      refine ow_nil ?_
      refine xw_nx ?_
      refine aw_step1 8 (by decide +kernel) rfl ?_
      (refine ow_alloc rfl rfl Ty.ze66 ?_; intro b6)
      refine ow_nil ?_
      refine xw_nx ?_
      refine aw_step1 10 (by decide +kernel) rfl ?_
      refine ow_storeN rfl rfl rfl Ty.ag66 (by first | rfl | assumption) (by first | assumption | simp) .here ((SetN.all (vs := (s.sp i).cells (StP.sp ⟨p0, p1, p2, some n1, some n2, some n3, some n4, some n5⟩ i)) rfl)) ?_
      refine ow_nil ?_
      refine xw_nx ?_
      refine aw_step1 11 (by decide +kernel) rfl ?_
      refine ow_storeN rfl rfl rfl Ty.ag66 (by first | rfl | assumption) (by first | assumption | simp) (.there .here) ((SetN.all (vs := (s.sp i).cells (StP.sp ⟨q0, q1, q2, some r1, some r2, some r3, some r4, some r5⟩ i)) rfl)) ?_
      refine ow_nil ?_
      refine xw_nx ?_
      refine aw_end (by decide +kernel) ?_
      refine xw_np ?_
      rotate_left
      (refine ow_alloc rfl rfl Ty.ze66 ?_; intro b6)
      refine ow_nil ?_
      refine xw_nx ?_
      refine aw_step2 7 10 (by decide +kernel) rfl rfl ?_ ?_
      refine ow_val rfl rfl (v_load rfl (Var.atN Ty.ag66 (.there (.there .here)) ((get_sp hi3)) (by first | rfl | assumption))) ?_
      refine ow_nil ?_
      refine xw_nx ?_
      refine aw_step1 10 (by decide +kernel) rfl ?_
      refine ow_storeN rfl rfl rfl Ty.ag66 (by first | rfl | assumption) (by first | assumption | simp) .here ((SetN.all (vs := (s.sp i).cells (StP.sp ⟨p0, p1, p2, some n1, some n2, some n3, some n4, some n5⟩ i)) rfl)) ?_
      refine ow_nil ?_
      refine xw_nx ?_
      refine aw_step1 11 (by decide +kernel) rfl ?_
      refine ow_storeN rfl rfl rfl Ty.ag66 (by first | rfl | assumption) (by first | assumption | simp) (.there .here) ((SetN.all (vs := (s.sp i).cells (StP.sp ⟨q0, q1, q2, some r1, some r2, some r3, some r4, some r5⟩ i)) rfl)) ?_
      refine ow_nil ?_
      refine xw_nx ?_
      refine aw_end (by decide +kernel) ?_
      refine xw_np ?_
      rotate_left
      refine ow_storeN rfl rfl rfl Ty.ag66 (by first | rfl | assumption) (by first | assumption | simp) .here ((SetN.all (vs := (s.sp i).cells (StP.sp ⟨p0, p1, p2, some n1, some n2, some n3, some n4, some n5⟩ i)) rfl)) ?_
      refine ow_nil ?_
      refine xw_nx ?_
      refine aw_step1 7 (by decide +kernel) rfl ?_
      refine ow_val rfl rfl (v_load rfl (Var.atN Ty.ag66 (.there (.there .here)) ((get_sp hi3)) (by first | rfl | assumption))) ?_
      refine ow_nil ?_
      refine xw_nx ?_
      refine aw_step1 11 (by decide +kernel) rfl ?_
      refine ow_storeN rfl rfl rfl Ty.ag66 (by first | rfl | assumption) (by first | assumption | simp) (.there .here) ((SetN.all (vs := (s.sp i).cells (StP.sp ⟨q0, q1, q2, some r1, some r2, some r3, some r4, some r5⟩ i)) rfl)) ?_
      refine ow_nil ?_
      refine xw_nx ?_
      refine aw_end (by decide +kernel) ?_
      refine xw_np ?_
      rotate_left
      refine ow_val rfl rfl (v_load rfl (Var.atN Ty.ag66 (.there .here) ((get_sp hi3)) (by first | rfl | assumption))) ?_
      refine ow_nil ?_
      refine xw_nx ?_
      refine aw_step2 3 8 (by decide +kernel) rfl rfl ?_ ?_
      refine ow_val rfl rfl (v_load rfl (Var.atN Ty.ag66 (.there (.there .here)) ((get_sp hi3)) (by first | rfl | assumption))) ?_
      refine ow_nil ?_
      refine xw_nx ?_
      refine aw_step1 8 (by decide +kernel) rfl ?_
      (refine ow_alloc rfl rfl Ty.ze66 ?_; intro b6)
      refine ow_nil ?_
      refine xw_nx ?_
      refine aw_step1 10 (by decide +kernel) rfl ?_
      refine ow_storeN rfl rfl rfl Ty.ag66 (by first | rfl | assumption) (by first | assumption | simp) .here ((SetN.all (vs := (s.sp i).cells (StP.sp ⟨p0, p1, p2, some n1, some n2, some n3, some n4, some n5⟩ i)) rfl)) ?_
      refine ow_nil ?_
      refine xw_nx ?_
      refine aw_step1 11 (by decide +kernel) rfl ?_
      refine ow_storeN rfl rfl rfl Ty.ag66 (by first | rfl | assumption) (by first | assumption | simp) (.there .here) ((SetN.all (vs := (s.sp i).cells (StP.sp ⟨q0, q1, q2, some r1, some r2, some r3, some r4, some r5⟩ i)) rfl)) ?_
      refine ow_nil ?_
      refine xw_nx ?_
      refine aw_end (by decide +kernel) ?_
      refine xw_np ?_
      rotate_left
      (refine ow_alloc rfl rfl Ty.ze66 ?_; intro b6)
      refine ow_nil ?_
      refine xw_nx ?_
      refine aw_step1 3 (by decide +kernel) rfl ?_
      refine ow_val rfl rfl (v_load rfl (Var.atN Ty.ag66 (.there (.there (.there .here))) ((get_sp hi3)) (by first | rfl | assumption))) ?_
      refine ow_nil ?_
      refine xw_nx ?_
      refine aw_step1 10 (by decide +kernel) rfl ?_
      refine ow_storeN rfl rfl rfl Ty.ag66 (by first | rfl | assumption) (by first | assumption | simp) .here ((SetN.all (vs := (s.sp i).cells (StP.sp ⟨p0, p1, p2, some n1, some n2, some n3, some n4, some n5⟩ i)) rfl)) ?_
      refine ow_nil ?_
      refine xw_nx ?_
      refine aw_step1 11 (by decide +kernel) rfl ?_
      refine ow_storeN rfl rfl rfl Ty.ag66 (by first | rfl | assumption) (by first | assumption | simp) (.there .here) ((SetN.all (vs := (s.sp i).cells (StP.sp ⟨q0, q1, q2, some r1, some r2, some r3, some r4, some r5⟩ i)) rfl)) ?_
      refine ow_nil ?_
      refine xw_nx ?_
      refine aw_end (by decide +kernel) ?_
      refine xw_np ?_
      rotate_left
      (refine ow_alloc rfl rfl Ty.ze66 ?_; intro b6)
      refine ow_nil ?_
      refine xw_nx ?_
      refine aw_step2 3 7 (by decide +kernel) rfl rfl ?_ ?_
      refine ow_val rfl rfl (v_load rfl (Var.atN Ty.ag66 (.there (.there (.there .here))) ((get_sp hi3)) (by first | rfl | assumption))) ?_
      refine ow_nil ?_
      refine xw_nx ?_
      refine aw_step2 7 10 (by decide +kernel) rfl rfl ?_ ?_
      refine ow_val rfl rfl (v_load rfl (Var.atN Ty.ag66 (.there (.there .here)) ((get_sp hi3)) (by first | rfl | assumption))) ?_
      refine ow_nil ?_
      refine xw_nx ?_
      refine aw_step1 10 (by decide +kernel) rfl ?_
      refine ow_storeN rfl rfl rfl Ty.ag66 (by first | rfl | assumption) (by first | assumption | simp) .here ((SetN.all (vs := (s.sp i).cells (StP.sp ⟨p0, p1, p2, some n1, some n2, some n3, some n4, some n5⟩ i)) rfl)) ?_
      refine ow_nil ?_
      refine xw_nx ?_
      refine aw_step1 11 (by decide +kernel) rfl ?_
      refine ow_storeN rfl rfl rfl Ty.ag66 (by first | rfl | assumption) (by first | assumption | simp) (.there .here) ((SetN.all (vs := (s.sp i).cells (StP.sp ⟨q0, q1, q2, some r1, some r2, some r3, some r4, some r5⟩ i)) rfl)) ?_
      refine ow_nil ?_
      refine xw_nx ?_
      refine aw_end (by decide +kernel) ?_
      refine xw_np ?_
      rotate_left
      refine ow_storeN rfl rfl rfl Ty.ag66 (by first | rfl | assumption) (by first | assumption | simp) .here ((SetN.all (vs := (s.sp i).cells (StP.sp ⟨p0, p1, p2, some n1, some n2, some n3, some n4, some n5⟩ i)) rfl)) ?_
      refine ow_nil ?_
      refine xw_nx ?_
      refine aw_step1 7 (by decide +kernel) rfl ?_
      refine ow_val rfl rfl (v_load rfl (Var.atN Ty.ag66 (.there (.there .here)) ((get_sp hi3)) (by first | rfl | assumption))) ?_
      refine ow_nil ?_
      refine xw_nx ?_
      refine aw_step1 11 (by decide +kernel) rfl ?_
      refine ow_storeN rfl rfl rfl Ty.ag66 (by first | rfl | assumption) (by first | assumption | simp) (.there .here) ((SetN.all (vs := (s.sp i).cells (StP.sp ⟨q0, q1, q2, some r1, some r2, some r3, some r4, some r5⟩ i)) rfl)) ?_
      refine ow_nil ?_
      refine xw_nx ?_
      refine aw_end (by decide +kernel) ?_
      refine xw_np ?_
      rotate_left
      refine ow_val rfl rfl (v_load rfl (Var.atN Ty.ag66 (.there (.there .here)) ((get_sp hi3)) (by first | rfl | assumption))) ?_
      refine ow_nil ?_
      refine xw_nx ?_
      refine aw_step1 3 (by decide +kernel) rfl ?_
      refine ow_val rfl rfl (v_load rfl (Var.atN Ty.ag66 (.there (.there (.there .here))) ((get_sp hi3)) (by first | rfl | assumption))) ?_
      refine ow_nil ?_
      refine xw_nx ?_
      refine aw_step1 10 (by decide +kernel) rfl ?_
      refine ow_storeN rfl rfl rfl Ty.ag66 (by first | rfl | assumption) (by first | assumption | simp) .here ((SetN.all (vs := (s.sp i).cells (StP.sp ⟨p0, p1, p2, some n1, some n2, some n3, some n4, some n5⟩ i)) rfl)) ?_
      refine ow_nil ?_
      refine xw_nx ?_
      refine aw_step1 11 (by decide +kernel) rfl ?_
      refine ow_storeN rfl rfl rfl Ty.ag66 (by first | rfl | assumption) (by first | assumption | simp) (.there .here) ((SetN.all (vs := (s.sp i).cells (StP.sp ⟨q0, q1, q2, some r1, some r2, some r3, some r4, some r5⟩ i)) rfl)) ?_
      refine ow_nil ?_
      refine xw_nx ?_
      refine aw_end (by decide +kernel) ?_
      refine xw_np ?_
      rotate_left
      all_goals exact xw_joint (b6, b7) trivial (by first | exact Cov.refl _ | (intro p; simp only [List.flatten_cons, List.flatten_nil, List.flatten_append, List.append_nil, List.nil_append, cnt_append, cnt_cons, cnt_nil, List.set_cons_zero, List.set_cons_succ, List.length_nil, List.length_cons, Nat.zero_add, List.append]; omega)) (by repeat (first | exact True.intro | refine And.intro rfl ?_))
    rintro ⟨b6, b7⟩ _
    dsimp only
    generalize StP.sp ⟨q0, q1, q2, some r1, some r2, some r3, some r4, some r5⟩ i = qi at *
    generalize StP.sp ⟨p0, p1, p2, some n1, some n2, some n3, some n4, some n5⟩ i = pi at *
    generalize s.sp i = x at *
    unfold SpM.cells
    refine cw_seq ?_
    refine cw_seq ?_
    refine cw_region ?_
    refine ow_val rfl rfl (v_fieldAddr0 Ty.fd66_0 rfl) ?_
    refine ow_val rfl rfl (v_load rfl (Var.at1 Ty.sc22 (.there .here) (GetN.lit rfl))) ?_
    refine ow_val rfl rfl (v_fieldAddr0 Ty.fd66_0 rfl) ?_
    refine ow_val rfl rfl (v_load rfl (Var.at1 Ty.sc22 .here (GetN.lit rfl))) ?_
    refine ow_val rfl rfl (v_neq rfl rfl) ?_
    refine ow_val rfl rfl (v_move rfl) ?_
    refine ow_dec 24 rfl (fun hc24 => ?_) (fun hc24 => ?_)
    (exfalso; omega)
    refine ow_val rfl rfl (v_fieldAddr0 Ty.fd66_4 rfl) ?_
    refine ow_val rfl rfl (v_load rfl (Var.at1 Ty.sc4 (.there .here) (GetN.lit rfl))) ?_
    refine ow_val rfl rfl (v_fieldAddr0 Ty.fd66_4 rfl) ?_
    refine ow_val rfl rfl (v_load rfl (Var.at1 Ty.sc4 .here (GetN.lit rfl))) ?_
    refine ow_val rfl rfl (v_neqB Try.underlying4 rfl rfl) ?_
    refine ow_val rfl rfl (v_pick_false rfl rfl) ?_
    refine ow_val rfl rfl (v_move rfl) ?_
    refine ow_dec 31 rfl (fun hc31 => ?_) (fun hc31 => ?_)
    refine ow_skip rfl rfl ?_
    refine ow_skip rfl rfl ?_
    refine ow_skip rfl rfl ?_
    refine ow_skip rfl rfl ?_
    refine ow_skip rfl rfl ?_
    refine ow_skip rfl rfl ?_
    refine ow_val rfl rfl (v_pick_true rfl rfl) ?_
    refine ow_nil ?_
    refine xw_then ?_
    refine cw_true rfl ?_
    refine cw_seq ?_
    refine cw_region ?_
    refine ow_val rfl rfl (v_assign rfl) ?_
    refine ow_nil ?_
    refine xw_then ?_
    refine cw_ret ?_
    refine xw_then_ret ?_
    refine xw_block_ret ?_
    refine xw_then_ret ?_
    refine xw_round_ret ?_
    refine xw_block_ret ?_
    refine xw_then_ret ?_
    refine ret1 rfl (res_tmp rfl) ?_
    rotate_left
    refine ow_val rfl rfl (v_fieldAddr0 Ty.fd66_1 rfl) ?_
    refine ow_val rfl rfl (v_load rfl (Var.at1 Ty.sc64 (.there .here) (GetN.lit rfl))) ?_
    refine ow_val rfl rfl (v_fieldAddr0 Ty.fd66_1 rfl) ?_
    refine ow_val rfl rfl (v_load rfl (Var.at1 Ty.sc64 .here (GetN.lit rfl))) ?_
    refine ow_val rfl rfl (v_call rfl rfl (eqPk_c (va.cov (by first | exact Cov.refl _ | (intro p; simp only [List.flatten_cons, List.flatten_nil, List.flatten_append, List.append_nil, List.nil_append, cnt_append, cnt_cons, cnt_nil, List.set_cons_zero, List.set_cons_succ, List.length_nil, List.length_cons, Nat.zero_add, List.append]; omega))) (wa.cov (by first | exact Cov.refl _ | (intro p; simp only [List.flatten_cons, List.flatten_nil, List.flatten_append, List.append_nil, List.nil_append, cnt_append, cnt_cons, cnt_nil, List.set_cons_zero, List.set_cons_succ, List.length_nil, List.length_cons, Nat.zero_add, List.append]; omega))) zi)) ?_
    refine ow_val rfl rfl (v_not_true rfl) ?_
    refine ow_val rfl rfl (v_pick_false rfl rfl) ?_
    refine ow_nil ?_
    refine xw_then ?_
    refine cw_false rfl ?_
    refine cw_skip ?_
    refine xw_then ?_
    refine cw_seq ?_
    refine cw_region ?_
    refine ow_val rfl rfl (v_fieldAddr0 Ty.fd66_2 rfl) ?_
    refine ow_val rfl rfl (v_load rfl (Var.at1 Ty.sc27 (.there .here) (GetN.lit rfl))) ?_
    refine ow_val rfl rfl (v_fieldAddr0 Ty.fd66_2 rfl) ?_
    refine ow_val rfl rfl (v_load rfl (Var.at1 Ty.sc27 .here (GetN.lit rfl))) ?_
    refine ow_val rfl rfl (v_call rfl rfl (eqRg_c (vb.cov (by first | exact Cov.refl _ | (intro p; simp only [List.flatten_cons, List.flatten_nil, List.flatten_append, List.append_nil, List.nil_append, cnt_append, cnt_cons, cnt_nil, List.set_cons_zero, List.set_cons_succ, List.length_nil, List.length_cons, Nat.zero_add, List.append]; omega))) (wb.cov (by first | exact Cov.refl _ | (intro p; simp only [List.flatten_cons, List.flatten_nil, List.flatten_append, List.append_nil, List.nil_append, cnt_append, cnt_cons, cnt_nil, List.set_cons_zero, List.set_cons_succ, List.length_nil, List.length_cons, Nat.zero_add, List.append]; omega))) (by omega))) ?_
    refine ow_val rfl rfl (v_not_true rfl) ?_
    refine ow_val rfl rfl (v_move rfl) ?_
    refine ow_val rfl rfl (v_fieldAddr0 Ty.fd66_3 rfl) ?_
    refine ow_val rfl rfl (v_load rfl (Var.at1 Ty.sc22 (.there .here) (GetN.lit rfl))) ?_
    refine ow_val rfl rfl (v_fieldAddr0 Ty.fd66_3 rfl) ?_
    refine ow_val rfl rfl (v_load rfl (Var.at1 Ty.sc22 .here (GetN.lit rfl))) ?_
    refine ow_val rfl rfl (v_neq rfl rfl) ?_
    refine ow_val rfl rfl (v_pick_false rfl rfl) ?_
    refine ow_nil ?_
    refine xw_then ?_
    refine cw_dec rfl (fun hc51 => ?_) (fun hc51 => ?_)
    (exfalso; omega)
    refine cw_skip ?_
    refine xw_block ?_
    refine xw_then ?_
    refine cw_region ?_
    refine ow_val rfl rfl (v_add rfl rfl (nw_i64 (by omega) (by omega))) ?_
    refine ow_val rfl rfl (v_move rfl) ?_
    refine ow_nil ?_
    rotate_left
    · exact absurd rfl hc31
    · exact xw_round (i + 1) (by omega) (by omega) (by first | exact Cov.refl _ | (intro p; simp only [List.flatten_cons, List.flatten_nil, List.flatten_append, List.append_nil, List.nil_append, cnt_append, cnt_cons, cnt_nil, List.set_cons_zero, List.set_cons_succ, List.length_nil, List.length_cons, Nat.zero_add, List.append]; omega)) (by repeat (first | exact True.intro | refine And.intro rfl ?_))
  refine cw_seq ?_
  refine cw_block ?_
  refine cw_seq ?_
  refine cw_region ?_
  refine ow_val rfl rfl (v_fieldAddr0 Ty.fd75_0 rfl) ?_
  refine ow_val rfl rfl (v_load rfl (Var.at1 Ty.sc22 (.there .here) (get_ph))) ?_
  refine ow_val rfl rfl (v_fieldAddr0 Ty.fd75_0 rfl) ?_
  refine ow_val rfl rfl (v_load rfl (Var.at1 Ty.sc22 .here (get_ph))) ?_
  refine ow_val rfl rfl (v_neq rfl rfl) ?_
  refine ow_val rfl rfl (v_assign rfl) ?_
  refine ow_nil ?_
  refine xw_then ?_
  refine cw_dec rfl (fun hc53 => ?_) (fun hc53 => ?_)
  (exfalso; omega)
  refine cw_seq ?_
  refine cw_region ?_
  refine ow_val rfl rfl (v_fieldAddr0 Ty.fd75_2 rfl) ?_
  refine ow_val rfl rfl (v_load rfl (Var.atN Ty.ag69 (.there .here) (get_mt) (by first | rfl | assumption))) ?_
  refine ow_val rfl rfl (v_fieldAddr0 Ty.fd75_2 rfl) ?_
  refine ow_val rfl rfl (v_load rfl (Var.atN Ty.ag69 .here (get_mt) (by first | rfl | assumption))) ?_
  refine ow_val rfl rfl (v_neqA rfl rfl Ty.gt69 (hme)) ?_
  refine ow_val rfl rfl (v_assign rfl) ?_
  refine ow_nil ?_
  refine xw_then ?_
  refine cw_dec rfl (fun hc59 => ?_) (fun hc59 => ?_)
  refine cw_seq ?_
  refine cw_region ?_
  refine ow_val rfl rfl (v_assign rfl) ?_
  refine ow_nil ?_
  refine xw_then ?_
  refine cw_ret ?_
  refine xw_block_ret ?_
  refine xw_then_ret ?_
  refine ret1 rfl (res_tmp rfl) ?_
  rotate_left
  refine cw_seq ?_
  refine cw_region ?_
  refine ow_val rfl rfl (v_fieldAddr0 Ty.fd75_3 rfl) ?_
  refine ow_val rfl rfl (v_load rfl (Var.at1 Ty.sc70 (.there .here) ((get_tail (j := 0) hw rfl)))) ?_
  refine ow_val rfl rfl (v_fieldAddr0 Ty.fd75_3 rfl) ?_
  refine ow_val rfl rfl (v_load rfl (Var.at1 Ty.sc70 .here ((get_tail (j := 0) hw rfl)))) ?_
  refine ow_val rfl rfl (v_call rfl rfl (mapsEqC_c g1 j1 (by repeat (first | exact Sub.here | exact Sub.nil | assumption | refine Sub.there ?_)) (by repeat (first | exact Sub.here | exact Sub.nil | assumption | refine Sub.there ?_)) e1 f1 hw.cr)) ?_
  refine ow_val rfl rfl (v_not_true rfl) ?_
  refine ow_val rfl rfl (v_assign rfl) ?_
  refine ow_nil ?_
  refine xw_then ?_
  refine cw_false rfl ?_
  refine cw_seq ?_
  refine cw_region ?_
  refine ow_val rfl rfl (v_fieldAddr0 Ty.fd75_4 rfl) ?_
  refine ow_val rfl rfl (v_load rfl (Var.at1 Ty.sc71 (.there .here) ((get_tail (j := 1) hw rfl)))) ?_
  refine ow_val rfl rfl (v_fieldAddr0 Ty.fd75_4 rfl) ?_
  refine ow_val rfl rfl (v_load rfl (Var.at1 Ty.sc71 .here ((get_tail (j := 1) hw rfl)))) ?_
  refine ow_val rfl rfl (v_call rfl rfl (mapsEqT_c g2 j2 (by repeat (first | exact Sub.here | exact Sub.nil | assumption | refine Sub.there ?_)) (by repeat (first | exact Sub.here | exact Sub.nil | assumption | refine Sub.there ?_)) e2 f2 hw.st)) ?_
  refine ow_val rfl rfl (v_not_true rfl) ?_
  refine ow_val rfl rfl (v_assign rfl) ?_
  refine ow_nil ?_
  refine xw_then ?_
  refine cw_false rfl ?_
  refine cw_seq ?_
  refine cw_seq ?_
  refine cw_region ?_
  refine ow_val rfl rfl (v_fieldAddr0 Ty.fd75_5 rfl) ?_
  refine ow_val rfl rfl (v_load rfl (Var.at1 Ty.sc72 (.there .here) ((get_tail (j := 2) hw rfl)))) ?_
  refine ow_val rfl rfl (v_fieldAddr0 Ty.fd75_5 rfl) ?_
  refine ow_val rfl rfl (v_load rfl (Var.at1 Ty.sc72 .here ((get_tail (j := 2) hw rfl)))) ?_
  refine ow_val rfl rfl (v_call rfl rfl (mapsEqS_c g3 j3 (by repeat (first | exact Sub.here | exact Sub.nil | assumption | refine Sub.there ?_)) (by repeat (first | exact Sub.here | exact Sub.nil | assumption | refine Sub.there ?_)) e3 f3 (fun _ _ _ => trivial))) ?_
  refine ow_val rfl rfl (v_not_true rfl) ?_
  refine ow_val rfl rfl (v_assign rfl) ?_
  refine ow_nil ?_
  refine xw_then ?_
  refine cw_false rfl ?_
  refine cw_seq ?_
  refine cw_region ?_
  refine ow_val rfl rfl (v_fieldAddr0 Ty.fd75_6 rfl) ?_
  refine ow_val rfl rfl (v_load rfl (Var.at1 Ty.sc72 (.there .here) ((get_tail (j := 3) hw rfl)))) ?_
  refine ow_val rfl rfl (v_fieldAddr0 Ty.fd75_6 rfl) ?_
  refine ow_val rfl rfl (v_load rfl (Var.at1 Ty.sc72 .here ((get_tail (j := 3) hw rfl)))) ?_
  refine ow_val rfl rfl (v_call rfl rfl (mapsEqS_c g4 j4 (by repeat (first | exact Sub.here | exact Sub.nil | assumption | refine Sub.there ?_)) (by repeat (first | exact Sub.here | exact Sub.nil | assumption | refine Sub.there ?_)) e4 f4 (fun _ _ _ => trivial))) ?_
  refine ow_val rfl rfl (v_not_true rfl) ?_
  refine ow_val rfl rfl (v_assign rfl) ?_
  refine ow_nil ?_
  refine xw_then ?_
  refine cw_false rfl ?_
  refine cw_region ?_
  refine ow_val rfl rfl (v_fieldAddr0 Ty.fd75_7 rfl) ?_
  refine ow_val rfl rfl (v_load rfl (Var.at1 Ty.sc22 (.there .here) ((get_tail (j := 4) hw rfl)))) ?_
  refine ow_val rfl rfl (v_fieldAddr0 Ty.fd75_7 rfl) ?_
  refine ow_val rfl rfl (v_load rfl (Var.at1 Ty.sc22 .here ((get_tail (j := 4) hw rfl)))) ?_
  refine ow_val rfl rfl (v_neq rfl rfl) ?_
  refine ow_val rfl rfl (v_assign rfl) ?_
  refine ow_nil ?_
  refine xw_then ?_
  refine cw_dec rfl (fun hc79 => ?_) (fun hc79 => ?_)
  (exfalso; omega)
  refine cw_seq ?_
  refine cw_region ?_
  refine ow_val rfl rfl (v_fieldAddr0 Ty.fd75_8 rfl) ?_
  refine ow_val rfl rfl (v_load rfl (Var.at1 Ty.sc73 (.there .here) ((get_tail (j := 5) hw rfl)))) ?_
  refine ow_val rfl rfl (v_fieldAddr0 Ty.fd75_8 rfl) ?_
  refine ow_val rfl rfl (v_load rfl (Var.at1 Ty.sc73 .here ((get_tail (j := 5) hw rfl)))) ?_
  refine ow_val rfl rfl (v_call rfl rfl (mapsEqU_c g5 j5 (by repeat (first | exact Sub.here | exact Sub.nil | assumption | refine Sub.there ?_)) (by repeat (first | exact Sub.here | exact Sub.nil | assumption | refine Sub.there ?_)) e5 f5 (fun _ _ _ => trivial))) ?_
  refine ow_val rfl rfl (v_not_true rfl) ?_
  refine ow_val rfl rfl (v_assign rfl) ?_
  refine ow_nil ?_
  refine xw_then ?_
  refine cw_false rfl ?_
  refine cw_seq ?_
  refine cw_region ?_
  refine ow_val rfl rfl (v_fieldAddr0 Ty.fd75_9 rfl) ?_
  refine ow_val rfl rfl (v_load rfl (Var.at1 Ty.sc22 (.there .here) ((get_tail (j := 6) hw rfl)))) ?_
  refine ow_val rfl rfl (v_fieldAddr0 Ty.fd75_9 rfl) ?_
  refine ow_val rfl rfl (v_load rfl (Var.at1 Ty.sc22 .here ((get_tail (j := 6) hw rfl)))) ?_
  refine ow_val rfl rfl (v_neq rfl rfl) ?_
  refine ow_val rfl rfl (v_assign rfl) ?_
  refine ow_nil ?_
  refine xw_then ?_
  refine cw_dec rfl (fun hc104 => ?_) (fun hc104 => ?_)
  (exfalso; omega)
  refine cw_seq ?_
  refine cw_seq ?_
  refine cw_region ?_
  refine ow_val rfl rfl (v_fieldAddr0 Ty.fd75_10 rfl) ?_
  refine ow_val rfl rfl (v_load rfl (Var.atN Ty.ag28 (.there .here) ((get_cl hw)) (by first | rfl | assumption))) ?_
  refine ow_val rfl rfl (v_fieldAddr0 Ty.fd75_10 rfl) ?_
  refine ow_val rfl rfl (v_load rfl (Var.atN Ty.ag28 .here ((get_cl hw)) (by first | rfl | assumption))) ?_
  refine ow_val rfl rfl (v_neqA rfl rfl Ty.gt28 (hce)) ?_
  refine ow_val rfl rfl (v_assign rfl) ?_
  refine ow_nil ?_
  refine xw_then ?_
  refine cw_dec rfl (fun hc110 => ?_) (fun hc110 => ?_)
  refine cw_skip ?_
  refine xw_then ?_
  refine cw_dec rfl (fun hc110 => ?_) (fun hc110 => ?_)
  refine cw_seq ?_
  refine cw_region ?_
  refine ow_val rfl rfl (v_assign rfl) ?_
  refine ow_nil ?_
  refine xw_then ?_
  refine cw_ret ?_
  refine xw_block_ret ?_
  refine xw_then_ret ?_
  refine ret1 rfl (res_tmp rfl) ?_
  rotate_left
  refine cw_seq ?_
  refine cw_region ?_
  refine ow_val rfl rfl (v_fieldAddr0 Ty.fd75_12 rfl) ?_
  refine ow_val rfl rfl (v_load rfl (Var.at1 Ty.sc4 (.there .here) ((get_tail (j := 11) hw rfl)))) ?_
  refine ow_val rfl rfl (v_fieldAddr0 Ty.fd75_12 rfl) ?_
  refine ow_val rfl rfl (v_load rfl (Var.at1 Ty.sc4 .here ((get_tail (j := 11) hw rfl)))) ?_
  refine ow_val rfl rfl (v_neqB Try.underlying4 rfl rfl) ?_
  refine ow_val rfl rfl (v_assign rfl) ?_
  refine ow_nil ?_
  refine xw_then ?_
  refine cw_dec rfl (fun hc121 => ?_) (fun hc121 => ?_)
  refine cw_seq ?_
  refine cw_region ?_
  refine ow_val rfl rfl (v_assign rfl) ?_
  refine ow_nil ?_
  refine xw_then ?_
  refine cw_ret ?_
  refine xw_block_ret ?_
  refine xw_then_ret ?_
  refine ret1 rfl (res_tmp rfl) ?_
  rotate_left
  refine cw_skip ?_
  refine xw_block ?_
  refine xw_then ?_
  refine cw_seq ?_
  refine cw_region ?_
  refine ow_val rfl rfl (v_assign rfl) ?_
  refine ow_nil ?_
  refine xw_then ?_
  refine cw_ret ?_
  refine ret1 rfl (res_tmp rfl) ?_
  rotate_left
  refine cw_region ?_
  refine ow_val rfl rfl (v_fieldAddr0 Ty.fd75_11 rfl) ?_
  refine ow_val rfl rfl (v_load rfl (Var.at1 Ty.sc4 (.there .here) ((get_tail (j := 10) hw rfl)))) ?_
  refine ow_val rfl rfl (v_fieldAddr0 Ty.fd75_11 rfl) ?_
  refine ow_val rfl rfl (v_load rfl (Var.at1 Ty.sc4 .here ((get_tail (j := 10) hw rfl)))) ?_
  refine ow_val rfl rfl (v_neqB Try.underlying4 rfl rfl) ?_
  refine ow_val rfl rfl (v_assign rfl) ?_
  refine ow_nil ?_
  refine xw_then ?_
  refine cw_dec rfl (fun hc110 => ?_) (fun hc110 => ?_)
  refine cw_seq ?_
  refine cw_region ?_
  refine ow_val rfl rfl (v_assign rfl) ?_
  refine ow_nil ?_
  refine xw_then ?_
  refine cw_ret ?_
  refine xw_block_ret ?_
  refine xw_then_ret ?_
  refine ret1 rfl (res_tmp rfl) ?_
  rotate_left
  refine cw_seq ?_
  refine cw_region ?_
  refine ow_val rfl rfl (v_fieldAddr0 Ty.fd75_12 rfl) ?_
  refine ow_val rfl rfl (v_load rfl (Var.at1 Ty.sc4 (.there .here) ((get_tail (j := 11) hw rfl)))) ?_
  refine ow_val rfl rfl (v_fieldAddr0 Ty.fd75_12 rfl) ?_
  refine ow_val rfl rfl (v_load rfl (Var.at1 Ty.sc4 .here ((get_tail (j := 11) hw rfl)))) ?_
  refine ow_val rfl rfl (v_neqB Try.underlying4 rfl rfl) ?_
  refine ow_val rfl rfl (v_assign rfl) ?_
  refine ow_nil ?_
  refine xw_then ?_
  refine cw_dec rfl (fun hc121 => ?_) (fun hc121 => ?_)
  refine cw_seq ?_
  refine cw_region ?_
  refine ow_val rfl rfl (v_assign rfl) ?_
  refine ow_nil ?_
  refine xw_then ?_
  refine cw_ret ?_
  refine xw_block_ret ?_
  refine xw_then_ret ?_
  refine ret1 rfl (res_tmp rfl) ?_
  rotate_left
  refine cw_skip ?_
  refine xw_block ?_
  refine xw_then ?_
  refine cw_seq ?_
  refine cw_region ?_
  refine ow_val rfl rfl (v_assign rfl) ?_
  refine ow_nil ?_
  refine xw_then ?_
  refine cw_ret ?_
  refine ret1 rfl (res_tmp rfl) ?_
  rotate_left
  all_goals first
    | exact absurd rfl hc59
    | exact absurd rfl hc110
    | exact absurd rfl hc121
    | exact ⟨rfl, (by first | exact Cov.refl _ | (intro p; simp only [List.flatten_cons, List.flatten_nil, List.flatten_append, List.append_nil, List.nil_append, cnt_append, cnt_cons, cnt_nil, List.set_cons_zero, List.set_cons_succ, List.length_nil, List.length_cons, Nat.zero_add, List.append]; omega))⟩
end Go.Proofs.Ytckdhelnafjddaa
