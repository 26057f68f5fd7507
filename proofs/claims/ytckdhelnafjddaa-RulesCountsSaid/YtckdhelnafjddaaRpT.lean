/- Replay in memory: a state, its copy. Conditions: numbers fit their types. -/
import Derived.Test.YtckdhelnafjddaaRpC
namespace Go.Proofs.Ytckdhelnafjddaa
open Go Go.Sl Go.Proofs Go.RowKit Go.ChangeShapes Go.WideShapes Go.ChangeAt
set_option maxRecDepth 20000
set_option linter.unusedVariables false
set_option linter.unusedSimpArgs false

structure StP where
  p0 : SpP
  p1 : SpP
  p2 : SpP
  cr : Option Nat
  st : Option Nat
  own : Option Nat
  oth : Option Nat
  pa : Option Nat
def SpP.nil : SpP := ⟨none, 0, none, 0⟩
def StP.nil : StP := ⟨SpP.nil, SpP.nil, SpP.nil, none, none, none, none, none⟩
def StM.tail (s : StM) (p : StP) : List Value := [.map p.cr, .map p.st, .map p.own, .map p.oth, .int .u64 s.us, .map p.pa, .int .u64 s.tu, .int .u64 s.c0, .int .u64 s.c1, .int .u64 s.c2, .bool s.cl, .bool s.cut, .int .i64 s.ev]
def StM.cells (s : StM) (p : StP) : List Value :=
  .int .u64 s.ph :: (s.s0.cells p.p0 ++ (s.s1.cells p.p1 ++ (s.s2.cells p.p2 ++ (s.mt.map (Value.int .u64) ++ s.tail p))))
theorem list8i : ∀ {l : List Int}, l.length = 8 → ∃ a b c d e f g h, l = [a, b, c, d, e, f, g, h]
  | [a, b, c, d, e, f, g, h], _ => ⟨a, b, c, d, e, f, g, h, rfl⟩
theorem cells_lit {s : StM} {m0 m1 m2 m3 m4 m5 m6 m7 : Int} (h : s.mt = [m0, m1, m2, m3, m4, m5, m6, m7]) (p : StP) : s.cells p =
    [.int .u64 s.ph, .int .u64 s.s0.nx, .slice p.p0.sa s.s0.sent.length p.p0.sc, .slice p.p0.ca s.s0.came.length p.p0.cc, .int .u64 s.s0.bl, .bool s.s0.dr, .int .u64 s.s1.nx, .slice p.p1.sa s.s1.sent.length p.p1.sc, .slice p.p1.ca s.s1.came.length p.p1.cc, .int .u64 s.s1.bl, .bool s.s1.dr,
      .int .u64 s.s2.nx, .slice p.p2.sa s.s2.sent.length p.p2.sc, .slice p.p2.ca s.s2.came.length p.p2.cc, .int .u64 s.s2.bl, .bool s.s2.dr, .int .u64 m0, .int .u64 m1, .int .u64 m2, .int .u64 m3, .int .u64 m4, .int .u64 m5, .int .u64 m6, .int .u64 m7,
      .map p.cr, .map p.st, .map p.own, .map p.oth, .int .u64 s.us, .map p.pa, .int .u64 s.tu, .int .u64 s.c0, .int .u64 s.c1, .int .u64 s.c2, .bool s.cl, .bool s.cut, .int .i64 s.ev] := by
  unfold StM.cells StM.tail SpM.cells
  rw [h]
  rfl
theorem StM.cells_len {s : StM} {p : StP} (h : s.WF) : (s.cells p).length = 37 := by
  obtain ⟨m0, m1, m2, m3, m4, m5, m6, m7, hm⟩ := list8i h.mt.1
  rw [cells_lit hm]
  rfl
theorem StM.cells_one {s : StM} {p : StP} : ∀ u ∈ s.cells p, u.oneCell' = true := by
  intro u hu
  simp only [StM.cells, StM.tail, SpM.cells, List.mem_cons, List.mem_append, List.mem_map, List.not_mem_nil, or_false] at hu
  rcases hu with rfl | (rfl | rfl | rfl | rfl | rfl) | (rfl | rfl | rfl | rfl | rfl) | (rfl | rfl | rfl | rfl | rfl) | ⟨_, _, rfl⟩ | rfl | rfl | rfl | rfl | rfl | rfl | rfl | rfl | rfl | rfl | rfl | rfl | rfl <;> rfl
def SpL (x : SpM) (q : SpP) (a b : Hp) : Prop := Ls enPk 120 (.slice q.sa x.sent.length q.sc) a x.sent ∧ Ls enR 102 (.slice q.ca x.came.length q.cc) b x.came
def MapS {α : Type} (V : α → Value) (f : Int → Option α) (o : Option Nat) (c : Hp) : Prop := ∃ m, MapV .u64 m (.map o) c ∧ ∀ k, Go.Sl.look m k = (f k).map V
structure StDs (s : StM) (p : StP) (a0 b0 a1 b1 a2 b2 c1 c2 c3 c4 c5 : Hp) : Prop where
  s0 : SpL s.s0 p.p0 a0 b0
  s1 : SpL s.s1 p.p1 a1 b1
  s2 : SpL s.s2 p.p2 a2 b2
  cr : MapS lsV s.cr p.cr c1
  st : MapS lsV s.st p.st c2
  own : MapS Value.string s.own p.own c3
  oth : MapS Value.string s.oth p.oth c4
  pa : MapS (Value.int .u64) s.pa p.pa c5
def StDeep (s : StM) (p : StP) (D : Hp) : Prop := ∃ a0 b0 a1 b1 a2 b2 c1 c2 c3 c4 c5, D = a0 ++ (b0 ++ (a1 ++ (b1 ++ (a2 ++ (b2 ++ (c1 ++ (c2 ++ (c3 ++ (c4 ++ c5))))))))) ∧ StDs s p a0 b0 a1 b1 a2 b2 c1 c2 c3 c4 c5
structure StP.live (p : StP) : Prop where
  cr : ∃ n, p.cr = some n
  st : ∃ n, p.st = some n
  own : ∃ n, p.own = some n
  oth : ∃ n, p.oth = some n
  pa : ∃ n, p.pa = some n
/-- no more packets than so many -/
structure StM.Sz (s : StM) (n : Nat) : Prop where
  s0 : s.s0.sent.length ≤ n
  s1 : s.s1.sent.length ≤ n
  s2 : s.s2.sent.length ≤ n
  ev : 0 ≤ s.ev ∧ s.ev ≤ n
theorem MapG.s {α : Type} {V : α → Value} {f : Int → Option α} {b : Nat} {c : Hp} (h : MapG .u64 (fun k => (f k).map V) b c) : MapS V f (some b) c := by
  obtain ⟨m, h1, h2⟩ := h
  exact ⟨m, .inr ⟨b, rfl, h1⟩, h2⟩
theorem MapS.ok {α : Type} {V : α → Value} {f : Int → Option α} {o : Option Nat} {c : Hp} {m : List (Int × Value)} (h : MapV .u64 m (.map o) c) (he : ∀ k, Go.Sl.look m k = (f k).map V) {Q : α → Prop} (hf : ∀ k a, f k = some a → Q a) : ∀ q ∈ m, ∃ l, Q l ∧ q.2 = V l := fun q hq => by
  have h1 := (look_mem h.nd).2 hq
  rw [he] at h1
  cases hfk : f q.1 with
  | none => rw [hfk] at h1; cases h1
  | some a => rw [hfk] at h1; exact ⟨a, hf _ _ hfk, (Option.some.inj h1).symm⟩
def zeroL : List Value := [Value.int .u64 0, .int .u64 0, .slice none 0 0, .slice none 0 0, .int .u64 0, .bool false, .int .u64 0, .slice none 0 0, .slice none 0 0, .int .u64 0, .bool false, .int .u64 0, .slice none 0 0, .slice none 0 0, .int .u64 0, .bool false, .int .u64 0, .int .u64 0, .int .u64 0, .int .u64 0, .int .u64 0, .int .u64 0, .int .u64 0, .int .u64 0, .map none, .map none, .map none, .map none, .int .u64 0, .map none, .int .u64 0, .int .u64 0, .int .u64 0, .int .u64 0, .bool false, .bool false, .int .i64 0]
structure ClG where
  i : Nat
  q0 : SpP
  q1 : SpP
  q2 : SpP
  a0 : Hp
  b0 : Hp
  a1 : Hp
  b1 : Hp
  a2 : Hp
  b2 : Hp
set_option maxHeartbeats 8000000 in
theorem stClone_c {B : Nat} {w0 : World} {G : List Hp} {s : StM} {p : StP} {D : Hp} (hD : StDeep s p D) (hs : Sub D G) (hw : s.WF) (hz : s.Sz 1000000) :
    Go.Sl.Fn Try.prog 54 #[.agg (s.cells p).toArray] B w0 G fun u G' => ∃ x : StP × Hp, u = .agg (s.cells x.1).toArray ∧ (StDeep s x.1 x.2 ∧ x.1.live) ∧ G' = [x.2] ++ G := by
  refine Fn.new (V := fun x : StP × Hp => .agg (s.cells x.1).toArray) (Nw := fun x => [x.2]) ?_
  obtain ⟨a0, b0, a1, b1, a2, b2, k1, k2, k3, k4, k5, rfl, hd⟩ := hD
  obtain ⟨m0, m1, m2, m3, m4, m5, m6, m7, hm⟩ := list8i hw.mt.1
  have sa0 := hs.left
  have sb0 := hs.right.left
  have sa1 := hs.right.right.left
  have sb1 := hs.right.right.right.left
  have sa2 := hs.right.right.right.right.left
  have sb2 := hs.right.right.right.right.right.left
  have sk1 := hs.right.right.right.right.right.right.left
  have sk2 := hs.right.right.right.right.right.right.right.left
  have sk3 := hs.right.right.right.right.right.right.right.right.left
  have sk4 := hs.right.right.right.right.right.right.right.right.right.left
  have sk5 := hs.right.right.right.right.right.right.right.right.right.right
  have va0 := (hd.s0.1.vw (B := B) (w0 := w0) sa0)
  have vb0 := (hd.s0.2.vw (B := B) (w0 := w0) sb0)
  have va1 := (hd.s1.1.vw (B := B) (w0 := w0) sa1)
  have vb1 := (hd.s1.2.vw (B := B) (w0 := w0) sb1)
  have va2 := (hd.s2.1.vw (B := B) (w0 := w0) sa2)
  have vb2 := (hd.s2.2.vw (B := B) (w0 := w0) sb2)
  obtain ⟨l1, g1, e1⟩ := hd.cr
  obtain ⟨l2, g2, e2⟩ := hd.st
  obtain ⟨l3, g3, e3⟩ := hd.own
  obtain ⟨l4, g4, e4⟩ := hd.oth
  obtain ⟨l5, g5, e5⟩ := hd.pa
  have o1 := MapS.ok g1 e1 hw.cr
  have o2 := MapS.ok g2 e2 hw.st
  have z0 := hz.s0
  have z1 := hz.s1
  have z2 := hz.s2
  have y0 := hw.s0.len
  have y1 := hw.s1.len
  have y2 := hw.s2.len
  have hN : Ls enPk 120 (.slice none 0 0) [] [] := Ls.nil
  have hN2 : Ls enR 102 (.slice none 0 0) [] [] := Ls.nil
  refine fn_enter Try.func54 rfl (by kernel_rfl) Try.ntmps54 (by simp) ?_
  have hcl : (s.cells p).length = 37 := StM.cells_len hw
  have hco : ∀ u ∈ s.cells p, u.oneCell' = true := StM.cells_one
  refine cw_seq ?_
  refine cw_region ?_
  (refine ow_box rfl rfl rfl rfl ?_; intro b1)
  (refine ow_alloc rfl rfl Ty.ze75 ?_; intro b2)
  refine ow_nil ?_
  refine xw_then ?_
  refine cw_seq ?_
  refine cw_seq ?_
  refine cw_region ?_
  refine ow_val rfl rfl (v_move rfl) ?_
  refine ow_nil ?_
  refine xw_then ?_
  refine cw_block ?_
  refine cw_flat ([(b2, .cells zeroL.toArray 75 (0, 0))] :: [(b1, .cells (s.cells p).toArray 75 (0, 0))] :: [] :: [] :: [] :: [] :: [] :: [] :: G) (.of_eq (by simp [zeroL])) ?_
  refine cw_loop2 (ι := (ClG)) [(1, _), (2, _)] ⟨rfl, rfl, trivial⟩ ((fun x => [(5, .int .i64 x.i)])) ((fun x => x.i ≤ 3 ∧ (0 < x.i → SpL s.s0 x.q0 x.a0 x.b0) ∧ (x.i ≤ 0 → x.q0 = p.p0 ∧ x.a0 = [] ∧ x.b0 = []) ∧ (1 < x.i → SpL s.s1 x.q1 x.a1 x.b1) ∧ (x.i ≤ 1 → x.q1 = p.p1 ∧ x.a1 = [] ∧ x.b1 = []) ∧ (2 < x.i → SpL s.s2 x.q2 x.a2 x.b2) ∧ (x.i ≤ 2 → x.q2 = p.p2 ∧ x.a2 = [] ∧ x.b2 = []))) ((fun x => 3 - x.i)) ((fun x => [(b2, .cells zeroL.toArray 75 (0, 0))] :: [(b1, .cells (s.cells ⟨x.q0, x.q1, x.q2, p.cr, p.st, p.own, p.oth, p.pa⟩).toArray 75 (0, 0))] :: x.a0 :: x.b0 :: x.a1 :: x.b1 :: x.a2 :: x.b2 :: G)) ((⟨0, p.p0, p.p1, p.p2, [], [], [], [], [], []⟩ : ClG)) (by repeat (first | exact True.intro | refine And.intro rfl ?_)) (by first | exact Cov.refl _ | (intro p; simp only [List.flatten_cons, List.flatten_nil, List.flatten_append, List.append_nil, List.nil_append, cnt_append, cnt_cons, cnt_nil, List.set_cons_zero, List.set_cons_succ, List.length_nil, List.length_cons, Nat.zero_add, List.append]; omega)) ?_ ?_
  · exact ⟨Nat.zero_le _, (fun h => absurd h (Nat.lt_irrefl 0)), (fun _ => ⟨rfl, rfl, rfl⟩), (fun h => absurd h (Nat.not_lt_zero 1)), (fun _ => ⟨rfl, rfl, rfl⟩), (fun h => absurd h (Nat.not_lt_zero 2)), (fun _ => ⟨rfl, rfl, rfl⟩)⟩
  rintro ⟨i, q0, q1, q2, a0, b0, a1, d1, a2, d2⟩ ⟨hi, h0, j0, h1, j1, h2, j2⟩
  dsimp only at hi h0 j0 h1 j1 h2 j2 ⊢
  have hi4 : i = 0 ∨ i = 1 ∨ i = 2 ∨ i = 3 := by omega
  rcases hi4 with rfl | rfl | rfl | rfl
  · rw [cells_lit hm]
    obtain ⟨rfl, rfl, rfl⟩ := j0 (by omega)
    dsimp only
    refine cw_seq ?_
    refine cw_region ?_
    refine ow_val rfl rfl (v_lss rfl rfl) ?_
    refine ow_nil ?_
    refine xw_then ?_
    refine cw_seq ?_
    refine cw_true rfl ?_
    refine cw_skip ?_
    refine xw_then ?_
    refine cw_seq ?_
    refine cw_block ?_
    refine cw_seq ?_
    refine cw_region ?_
    refine ow_val rfl rfl (v_move rfl) ?_
    refine ow_val rfl rfl (v_assign rfl) ?_
    refine ow_nil ?_
    refine xw_then ?_
    refine cw_seq ?_
    refine cw_region ?_
    refine ow_val rfl rfl (v_move rfl) ?_
    refine ow_val rfl rfl (v_fieldAddr0 Ty.fd75_1 rfl) ?_
    refine ow_val rfl rfl (v_indexAddrA Try.underlying67 Ty.el67 rfl rfl rfl (by omega)) ?_
    refine ow_val rfl rfl (v_assign rfl) ?_
    refine ow_nil ?_
    refine xw_then ?_
    refine cw_seq ?_
    refine cw_region ?_
    refine ow_val rfl rfl (v_move rfl) ?_
    refine ow_val rfl rfl (v_move rfl) ?_
    refine ow_val rfl rfl (v_nilCheck rfl) ?_
    refine ow_val rfl rfl (v_fieldAddr Ty.fd66_1 rfl) ?_
    refine ow_val rfl rfl (v_load rfl (Var.at1 Ty.sc64 (.there .here) (GetN.lit rfl))) ?_
    (refine ow_appendL rfl rfl Try.underlying64 Try.underlying64 Ty.em64 (pkTy) rfl rfl (by assumption) (by repeat (first | exact Sel.here | apply Sel.there)) ((va0.cov (by first | exact Cov.refl _ | (intro p; simp only [List.flatten_cons, List.flatten_nil, List.flatten_append, List.append_nil, List.nil_append, cnt_append, cnt_cons, cnt_nil, List.set_cons_zero, List.set_cons_succ, List.length_nil, List.length_cons, Nat.zero_add, List.append]; omega)))) (by first | omega | (simp only [List.length_append, List.length_take, List.length_drop, List.length_nil, List.length_cons]; omega)) (by first | omega | (simp only [List.length_append, List.length_take, List.length_drop, List.length_nil, List.length_cons]; omega)) ?_; intro ao16 cap16 c16 hL16)
    refine ow_val rfl rfl (v_nilCheck rfl) ?_
    refine ow_val rfl rfl (v_fieldAddr Ty.fd66_1 rfl) ?_
    refine ow_store1 rfl rfl rfl rfl Ty.sc64 (.there .here) (SetN.one (by first | decide | exact Nat.le_of_ble_eq_true rfl)) ?_
    refine ow_nil ?_
    refine xw_then ?_
    refine cw_region ?_
    refine ow_val rfl rfl (v_move rfl) ?_
    refine ow_val rfl rfl (v_move rfl) ?_
    refine ow_val rfl rfl (v_nilCheck rfl) ?_
    refine ow_val rfl rfl (v_fieldAddr Ty.fd66_2 rfl) ?_
    refine ow_val rfl rfl (v_load rfl (Var.at1 Ty.sc27 (.there .here) (GetN.lit rfl))) ?_
    (refine ow_appendL rfl rfl Try.underlying27 Try.underlying27 Ty.em27 (rTy) rfl rfl (by assumption) (by repeat (first | exact Sel.here | apply Sel.there)) ((vb0.cov (by first | exact Cov.refl _ | (intro p; simp only [List.flatten_cons, List.flatten_nil, List.flatten_append, List.append_nil, List.nil_append, cnt_append, cnt_cons, cnt_nil, List.set_cons_zero, List.set_cons_succ, List.length_nil, List.length_cons, Nat.zero_add, List.append]; omega)))) (by first | omega | (simp only [List.length_append, List.length_take, List.length_drop, List.length_nil, List.length_cons]; omega)) (by first | omega | (simp only [List.length_append, List.length_take, List.length_drop, List.length_nil, List.length_cons]; omega)) ?_; intro ao24 cap24 c24 hL24)
    refine ow_val rfl rfl (v_nilCheck rfl) ?_
    refine ow_val rfl rfl (v_fieldAddr Ty.fd66_2 rfl) ?_
    refine ow_store1 rfl rfl rfl rfl Ty.sc27 (.there .here) (SetN.one (by first | decide | exact Nat.le_of_ble_eq_true rfl)) ?_
    refine ow_nil ?_
    refine xw_block ?_
    refine xw_then ?_
    refine cw_region ?_
    refine ow_val rfl rfl (v_add rfl rfl (nw_i64 (by omega) (by omega))) ?_
    refine ow_val rfl rfl (v_move rfl) ?_
    refine ow_nil ?_
    refine xw_round (⟨1, ⟨ao16, cap16, ao24, cap24⟩, q1, q2, c16, c24, a1, d1, a2, d2⟩ : ClG) ⟨by dsimp only; omega, (fun _ => ⟨hL16, hL24⟩), (fun h => by dsimp only at h; omega), (fun h => by dsimp only at h; omega), (fun _ => j1 (by omega)), (fun h => by dsimp only at h; omega), (fun _ => j2 (by omega))⟩ (by dsimp only; omega) ?_ (by repeat (first | exact True.intro | refine And.intro rfl ?_))
    dsimp only
    rw [cells_lit hm]
    dsimp only [List.set, List.nil_append]
    exact (by first | exact Cov.refl _ | (intro p; simp only [List.flatten_cons, List.flatten_nil, List.flatten_append, List.append_nil, List.nil_append, cnt_append, cnt_cons, cnt_nil, List.set_cons_zero, List.set_cons_succ, List.length_nil, List.length_cons, Nat.zero_add, List.append]; omega))
  · rw [cells_lit hm]
    obtain ⟨rfl, rfl, rfl⟩ := j1 (by omega)
    dsimp only
    refine cw_seq ?_
    refine cw_region ?_
    refine ow_val rfl rfl (v_lss rfl rfl) ?_
    refine ow_nil ?_
    refine xw_then ?_
    refine cw_seq ?_
    refine cw_true rfl ?_
    refine cw_skip ?_
    refine xw_then ?_
    refine cw_seq ?_
    refine cw_block ?_
    refine cw_seq ?_
    refine cw_region ?_
    refine ow_val rfl rfl (v_move rfl) ?_
    refine ow_val rfl rfl (v_assign rfl) ?_
    refine ow_nil ?_
    refine xw_then ?_
    refine cw_seq ?_
    refine cw_region ?_
    refine ow_val rfl rfl (v_move rfl) ?_
    refine ow_val rfl rfl (v_fieldAddr0 Ty.fd75_1 rfl) ?_
    refine ow_val rfl rfl (v_indexAddrA Try.underlying67 Ty.el67 rfl rfl rfl (by omega)) ?_
    refine ow_val rfl rfl (v_assign rfl) ?_
    refine ow_nil ?_
    refine xw_then ?_
    refine cw_seq ?_
    refine cw_region ?_
    refine ow_val rfl rfl (v_move rfl) ?_
    refine ow_val rfl rfl (v_move rfl) ?_
    refine ow_val rfl rfl (v_nilCheck rfl) ?_
    refine ow_val rfl rfl (v_fieldAddr Ty.fd66_1 rfl) ?_
    refine ow_val rfl rfl (v_load rfl (Var.at1 Ty.sc64 (.there .here) (GetN.lit rfl))) ?_
    (refine ow_appendL rfl rfl Try.underlying64 Try.underlying64 Ty.em64 (pkTy) rfl rfl (by assumption) (by repeat (first | exact Sel.here | apply Sel.there)) ((va1.cov (by first | exact Cov.refl _ | (intro p; simp only [List.flatten_cons, List.flatten_nil, List.flatten_append, List.append_nil, List.nil_append, cnt_append, cnt_cons, cnt_nil, List.set_cons_zero, List.set_cons_succ, List.length_nil, List.length_cons, Nat.zero_add, List.append]; omega)))) (by first | omega | (simp only [List.length_append, List.length_take, List.length_drop, List.length_nil, List.length_cons]; omega)) (by first | omega | (simp only [List.length_append, List.length_take, List.length_drop, List.length_nil, List.length_cons]; omega)) ?_; intro ao16 cap16 c16 hL16)
    refine ow_val rfl rfl (v_nilCheck rfl) ?_
    refine ow_val rfl rfl (v_fieldAddr Ty.fd66_1 rfl) ?_
    refine ow_store1 rfl rfl rfl rfl Ty.sc64 (.there .here) (SetN.one (by first | decide | exact Nat.le_of_ble_eq_true rfl)) ?_
    refine ow_nil ?_
    refine xw_then ?_
    refine cw_region ?_
    refine ow_val rfl rfl (v_move rfl) ?_
    refine ow_val rfl rfl (v_move rfl) ?_
    refine ow_val rfl rfl (v_nilCheck rfl) ?_
    refine ow_val rfl rfl (v_fieldAddr Ty.fd66_2 rfl) ?_
    refine ow_val rfl rfl (v_load rfl (Var.at1 Ty.sc27 (.there .here) (GetN.lit rfl))) ?_
    (refine ow_appendL rfl rfl Try.underlying27 Try.underlying27 Ty.em27 (rTy) rfl rfl (by assumption) (by repeat (first | exact Sel.here | apply Sel.there)) ((vb1.cov (by first | exact Cov.refl _ | (intro p; simp only [List.flatten_cons, List.flatten_nil, List.flatten_append, List.append_nil, List.nil_append, cnt_append, cnt_cons, cnt_nil, List.set_cons_zero, List.set_cons_succ, List.length_nil, List.length_cons, Nat.zero_add, List.append]; omega)))) (by first | omega | (simp only [List.length_append, List.length_take, List.length_drop, List.length_nil, List.length_cons]; omega)) (by first | omega | (simp only [List.length_append, List.length_take, List.length_drop, List.length_nil, List.length_cons]; omega)) ?_; intro ao24 cap24 c24 hL24)
    refine ow_val rfl rfl (v_nilCheck rfl) ?_
    refine ow_val rfl rfl (v_fieldAddr Ty.fd66_2 rfl) ?_
    refine ow_store1 rfl rfl rfl rfl Ty.sc27 (.there .here) (SetN.one (by first | decide | exact Nat.le_of_ble_eq_true rfl)) ?_
    refine ow_nil ?_
    refine xw_block ?_
    refine xw_then ?_
    refine cw_region ?_
    refine ow_val rfl rfl (v_add rfl rfl (nw_i64 (by omega) (by omega))) ?_
    refine ow_val rfl rfl (v_move rfl) ?_
    refine ow_nil ?_
    refine xw_round (⟨2, q0, ⟨ao16, cap16, ao24, cap24⟩, q2, a0, b0, c16, c24, a2, d2⟩ : ClG) ⟨by dsimp only; omega, (fun _ => h0 (by omega)), (fun h => by dsimp only at h; omega), (fun _ => ⟨hL16, hL24⟩), (fun h => by dsimp only at h; omega), (fun h => by dsimp only at h; omega), (fun _ => j2 (by omega))⟩ (by dsimp only; omega) ?_ (by repeat (first | exact True.intro | refine And.intro rfl ?_))
    dsimp only
    rw [cells_lit hm]
    dsimp only [List.set, List.nil_append]
    exact (by first | exact Cov.refl _ | (intro p; simp only [List.flatten_cons, List.flatten_nil, List.flatten_append, List.append_nil, List.nil_append, cnt_append, cnt_cons, cnt_nil, List.set_cons_zero, List.set_cons_succ, List.length_nil, List.length_cons, Nat.zero_add, List.append]; omega))
  · rw [cells_lit hm]
    obtain ⟨rfl, rfl, rfl⟩ := j2 (by omega)
    dsimp only
    refine cw_seq ?_
    refine cw_region ?_
    refine ow_val rfl rfl (v_lss rfl rfl) ?_
    refine ow_nil ?_
    refine xw_then ?_
    refine cw_seq ?_
    refine cw_true rfl ?_
    refine cw_skip ?_
    refine xw_then ?_
    refine cw_seq ?_
    refine cw_block ?_
    refine cw_seq ?_
    refine cw_region ?_
    refine ow_val rfl rfl (v_move rfl) ?_
    refine ow_val rfl rfl (v_assign rfl) ?_
    refine ow_nil ?_
    refine xw_then ?_
    refine cw_seq ?_
    refine cw_region ?_
    refine ow_val rfl rfl (v_move rfl) ?_
    refine ow_val rfl rfl (v_fieldAddr0 Ty.fd75_1 rfl) ?_
    refine ow_val rfl rfl (v_indexAddrA Try.underlying67 Ty.el67 rfl rfl rfl (by omega)) ?_
    refine ow_val rfl rfl (v_assign rfl) ?_
    refine ow_nil ?_
    refine xw_then ?_
    refine cw_seq ?_
    refine cw_region ?_
    refine ow_val rfl rfl (v_move rfl) ?_
    refine ow_val rfl rfl (v_move rfl) ?_
    refine ow_val rfl rfl (v_nilCheck rfl) ?_
    refine ow_val rfl rfl (v_fieldAddr Ty.fd66_1 rfl) ?_
    refine ow_val rfl rfl (v_load rfl (Var.at1 Ty.sc64 (.there .here) (GetN.lit rfl))) ?_
    (refine ow_appendL rfl rfl Try.underlying64 Try.underlying64 Ty.em64 (pkTy) rfl rfl (by assumption) (by repeat (first | exact Sel.here | apply Sel.there)) ((va2.cov (by first | exact Cov.refl _ | (intro p; simp only [List.flatten_cons, List.flatten_nil, List.flatten_append, List.append_nil, List.nil_append, cnt_append, cnt_cons, cnt_nil, List.set_cons_zero, List.set_cons_succ, List.length_nil, List.length_cons, Nat.zero_add, List.append]; omega)))) (by first | omega | (simp only [List.length_append, List.length_take, List.length_drop, List.length_nil, List.length_cons]; omega)) (by first | omega | (simp only [List.length_append, List.length_take, List.length_drop, List.length_nil, List.length_cons]; omega)) ?_; intro ao16 cap16 c16 hL16)
    refine ow_val rfl rfl (v_nilCheck rfl) ?_
    refine ow_val rfl rfl (v_fieldAddr Ty.fd66_1 rfl) ?_
    refine ow_store1 rfl rfl rfl rfl Ty.sc64 (.there .here) (SetN.one (by first | decide | exact Nat.le_of_ble_eq_true rfl)) ?_
    refine ow_nil ?_
    refine xw_then ?_
    refine cw_region ?_
    refine ow_val rfl rfl (v_move rfl) ?_
    refine ow_val rfl rfl (v_move rfl) ?_
    refine ow_val rfl rfl (v_nilCheck rfl) ?_
    refine ow_val rfl rfl (v_fieldAddr Ty.fd66_2 rfl) ?_
    refine ow_val rfl rfl (v_load rfl (Var.at1 Ty.sc27 (.there .here) (GetN.lit rfl))) ?_
    (refine ow_appendL rfl rfl Try.underlying27 Try.underlying27 Ty.em27 (rTy) rfl rfl (by assumption) (by repeat (first | exact Sel.here | apply Sel.there)) ((vb2.cov (by first | exact Cov.refl _ | (intro p; simp only [List.flatten_cons, List.flatten_nil, List.flatten_append, List.append_nil, List.nil_append, cnt_append, cnt_cons, cnt_nil, List.set_cons_zero, List.set_cons_succ, List.length_nil, List.length_cons, Nat.zero_add, List.append]; omega)))) (by first | omega | (simp only [List.length_append, List.length_take, List.length_drop, List.length_nil, List.length_cons]; omega)) (by first | omega | (simp only [List.length_append, List.length_take, List.length_drop, List.length_nil, List.length_cons]; omega)) ?_; intro ao24 cap24 c24 hL24)
    refine ow_val rfl rfl (v_nilCheck rfl) ?_
    refine ow_val rfl rfl (v_fieldAddr Ty.fd66_2 rfl) ?_
    refine ow_store1 rfl rfl rfl rfl Ty.sc27 (.there .here) (SetN.one (by first | decide | exact Nat.le_of_ble_eq_true rfl)) ?_
    refine ow_nil ?_
    refine xw_block ?_
    refine xw_then ?_
    refine cw_region ?_
    refine ow_val rfl rfl (v_add rfl rfl (nw_i64 (by omega) (by omega))) ?_
    refine ow_val rfl rfl (v_move rfl) ?_
    refine ow_nil ?_
    refine xw_round (⟨3, q0, q1, ⟨ao16, cap16, ao24, cap24⟩, a0, b0, a1, d1, c16, c24⟩ : ClG) ⟨by dsimp only; omega, (fun _ => h0 (by omega)), (fun h => by dsimp only at h; omega), (fun _ => h1 (by omega)), (fun h => by dsimp only at h; omega), (fun _ => ⟨hL16, hL24⟩), (fun h => by dsimp only at h; omega)⟩ (by dsimp only; omega) ?_ (by repeat (first | exact True.intro | refine And.intro rfl ?_))
    dsimp only
    rw [cells_lit hm]
    dsimp only [List.set, List.nil_append]
    exact (by first | exact Cov.refl _ | (intro p; simp only [List.flatten_cons, List.flatten_nil, List.flatten_append, List.append_nil, List.nil_append, cnt_append, cnt_cons, cnt_nil, List.set_cons_zero, List.set_cons_succ, List.length_nil, List.length_cons, Nat.zero_add, List.append]; omega))
  · rw [cells_lit hm]
    dsimp only
    have t0 := h0 (by decide)
    have t1 := h1 (by decide)
    have t2 := h2 (by decide)
    refine cw_seq ?_
    refine cw_region ?_
    refine ow_val rfl rfl (v_lss rfl rfl) ?_
    refine ow_nil ?_
    refine xw_then ?_
    refine cw_seq ?_
    refine cw_false rfl ?_
    refine cw_exit ?_
    refine xw_then_exit ?_
    refine xw_round_exit ?_
    refine xw_block_exit ?_
    refine xw_then ?_
    refine cw_seq ?_
    refine cw_region ?_
    refine ow_val rfl rfl (v_fieldAddr0 Ty.fd75_3 rfl) ?_
    refine ow_val rfl rfl (v_load rfl (Var.at1 Ty.sc70 (.there .here) (GetN.lit rfl))) ?_
    (refine ow_call rfl rfl rfl rfl (copiedC_c g1 (by repeat (first | exact Sub.here | exact Sub.nil | assumption | refine Sub.there ?_)) o1) ?_; rintro _ _ ⟨x30, rfl, hq30, rfl⟩)
    refine ow_val rfl rfl (v_fieldAddr0 Ty.fd75_3 rfl) ?_
    refine ow_store1 rfl rfl rfl rfl Ty.sc70 (.there (.there .here)) (SetN.one (by first | decide | exact Nat.le_of_ble_eq_true rfl)) ?_
    refine ow_nil ?_
    refine xw_then ?_
    refine cw_seq ?_
    refine cw_region ?_
    refine ow_val rfl rfl (v_fieldAddr0 Ty.fd75_4 rfl) ?_
    refine ow_val rfl rfl (v_load rfl (Var.at1 Ty.sc71 (.there (.there .here)) (GetN.lit rfl))) ?_
    (refine ow_call rfl rfl rfl rfl (copiedT_c g2 (by repeat (first | exact Sub.here | exact Sub.nil | assumption | refine Sub.there ?_)) o2) ?_; rintro _ _ ⟨x34, rfl, hq34, rfl⟩)
    refine ow_val rfl rfl (v_fieldAddr0 Ty.fd75_4 rfl) ?_
    refine ow_store1 rfl rfl rfl rfl Ty.sc71 (.there (.there (.there .here))) (SetN.one (by first | decide | exact Nat.le_of_ble_eq_true rfl)) ?_
    refine ow_nil ?_
    refine xw_then ?_
    refine cw_seq ?_
    refine cw_region ?_
    refine ow_val rfl rfl (v_fieldAddr0 Ty.fd75_5 rfl) ?_
    refine ow_val rfl rfl (v_load rfl (Var.at1 Ty.sc72 (.there (.there (.there .here))) (GetN.lit rfl))) ?_
    (refine ow_call rfl rfl rfl rfl (copiedS_c g3 (by repeat (first | exact Sub.here | exact Sub.nil | assumption | refine Sub.there ?_)) (fun _ _ => trivial)) ?_; rintro _ _ ⟨x38, rfl, hq38, rfl⟩)
    refine ow_val rfl rfl (v_fieldAddr0 Ty.fd75_5 rfl) ?_
    refine ow_store1 rfl rfl rfl rfl Ty.sc72 (.there (.there (.there (.there .here)))) (SetN.one (by first | decide | exact Nat.le_of_ble_eq_true rfl)) ?_
    refine ow_nil ?_
    refine xw_then ?_
    refine cw_seq ?_
    refine cw_region ?_
    refine ow_val rfl rfl (v_fieldAddr0 Ty.fd75_6 rfl) ?_
    refine ow_val rfl rfl (v_load rfl (Var.at1 Ty.sc72 (.there (.there (.there (.there .here)))) (GetN.lit rfl))) ?_
    (refine ow_call rfl rfl rfl rfl (copiedS_c g4 (by repeat (first | exact Sub.here | exact Sub.nil | assumption | refine Sub.there ?_)) (fun _ _ => trivial)) ?_; rintro _ _ ⟨x42, rfl, hq42, rfl⟩)
    refine ow_val rfl rfl (v_fieldAddr0 Ty.fd75_6 rfl) ?_
    refine ow_store1 rfl rfl rfl rfl Ty.sc72 (.there (.there (.there (.there (.there .here))))) (SetN.one (by first | decide | exact Nat.le_of_ble_eq_true rfl)) ?_
    refine ow_nil ?_
    refine xw_then ?_
    refine cw_seq ?_
    refine cw_region ?_
    refine ow_val rfl rfl (v_fieldAddr0 Ty.fd75_8 rfl) ?_
    refine ow_val rfl rfl (v_load rfl (Var.at1 Ty.sc73 (.there (.there (.there (.there (.there .here))))) (GetN.lit rfl))) ?_
    (refine ow_call rfl rfl rfl rfl (copiedU_c g5 (by repeat (first | exact Sub.here | exact Sub.nil | assumption | refine Sub.there ?_)) (fun _ _ => trivial)) ?_; rintro _ _ ⟨x46, rfl, hq46, rfl⟩)
    refine ow_val rfl rfl (v_fieldAddr0 Ty.fd75_8 rfl) ?_
    refine ow_store1 rfl rfl rfl rfl Ty.sc73 (.there (.there (.there (.there (.there (.there .here)))))) (SetN.one (by first | decide | exact Nat.le_of_ble_eq_true rfl)) ?_
    refine ow_nil ?_
    refine xw_then ?_
    obtain ⟨pp, hpp⟩ : ∃ pp : StP, pp = ⟨q0, q1, q2, some x30.1, some x34.1, some x38.1, some x42.1, some x46.1⟩ := ⟨_, rfl⟩
    have hcl2 : (s.cells pp).length = 37 := StM.cells_len hw
    have hco2 : ∀ u ∈ s.cells pp, u.oneCell' = true := StM.cells_one
    refine cw_cov (x46.2 :: x42.2 :: x38.2 :: x34.2 :: x30.2 :: [(b2, .cells zeroL.toArray 75 (0, 0))] :: [(b1, .cells (s.cells pp).toArray 75 (0, 0))] :: a0 :: b0 :: a1 :: d1 :: a2 :: d2 :: G) (by subst hpp; rw [cells_lit hm]; dsimp only [List.set]; exact (by first | exact Cov.refl _ | (intro p; simp only [List.flatten_cons, List.flatten_nil, List.flatten_append, List.append_nil, List.nil_append, cnt_append, cnt_cons, cnt_nil, List.set_cons_zero, List.set_cons_succ, List.length_nil, List.length_cons, Nat.zero_add, List.append]; omega))) ?_
    have hzl : (s.cells pp).length = zeroL.length := hcl2
    refine cw_seq ?_
    refine cw_region ?_
    refine ow_val rfl rfl (v_load rfl (Var.atN Ty.ag75 (.there (.there (.there (.there (.there (.there .here)))))) GetN.all (by first | rfl | assumption))) ?_
    refine ow_storeN rfl rfl rfl Ty.ag75 (by first | rfl | assumption) (by first | assumption | simp) (.there (.there (.there (.there (.there .here))))) ((SetN.all hzl)) ?_
    refine ow_nil ?_
    refine xw_then ?_
    refine cw_ret ?_
    refine ret1 rfl (res_cell rfl (Var.atN Ty.ag75 (.there (.there (.there (.there (.there .here))))) GetN.all (by first | rfl | assumption))) ?_
    refine ⟨(pp, a0 ++ (b0 ++ (a1 ++ (d1 ++ (a2 ++ (d2 ++ (x30.2 ++ (x34.2 ++ (x38.2 ++ (x42.2 ++ x46.2)))))))))), rfl, ?_, (by first | exact Cov.refl _ | (intro p; simp only [List.flatten_cons, List.flatten_nil, List.flatten_append, List.append_nil, List.nil_append, cnt_append, cnt_cons, cnt_nil, List.set_cons_zero, List.set_cons_succ, List.length_nil, List.length_cons, Nat.zero_add, List.append]; omega))⟩
    subst hpp
    exact ⟨⟨a0, b0, a1, d1, a2, d2, _, _, _, _, _, rfl, ⟨t0, t1, t2, MapG.s (hq30.congr e1), MapG.s (hq34.congr e2), MapG.s (hq38.congr e3), MapG.s (hq42.congr e4), MapG.s (hq46.congr e5)⟩⟩, ⟨⟨_, rfl⟩, ⟨_, rfl⟩, ⟨_, rfl⟩, ⟨_, rfl⟩, ⟨_, rfl⟩⟩⟩

theorem b_st0 : Build Try.prog 75 #[] (.agg (StM.zero.cells StP.nil).toArray) := fun w => by kernel_rfl
theorem mapS_nil {α : Type} {V : α → Value} : MapS V (fun _ => none) none [] := ⟨[], .inl ⟨rfl, rfl, rfl⟩, fun k => rfl⟩
theorem spL_nil : SpL SpM.zero SpP.nil [] [] := ⟨Ls.nil, Ls.nil⟩
theorem stDeep_zero : StDeep StM.zero StP.nil [] := ⟨[], [], [], [], [], [], [], [], [], [], [], rfl, spL_nil, spL_nil, spL_nil, mapS_nil, mapS_nil, mapS_nil, mapS_nil, mapS_nil⟩
theorem StM.zero_sz : StM.zero.Sz 0 := ⟨Nat.le_refl _, Nat.le_refl _, Nat.le_refl _, ⟨Int.le_refl _, Int.le_refl _⟩⟩
theorem StM.Sz.mono {s : StM} {n m : Nat} (h : s.Sz n) (hm : n ≤ m) : s.Sz m := ⟨Nat.le_trans h.s0 hm, Nat.le_trans h.s1 hm, Nat.le_trans h.s2 hm, ⟨h.ev.1, by have := h.ev.2; omega⟩⟩
theorem stNew_c {B : Nat} {w0 : World} {G : List Hp} :
    Go.Sl.Fn Try.prog 29 #[] B w0 G fun u G' => ∃ x : StP × Hp, u = .agg (StM.zero.cells x.1).toArray ∧ (StDeep StM.zero x.1 x.2 ∧ x.1.live) ∧ G' = [x.2] ++ G := by
  refine Fn.new (V := fun x : StP × Hp => .agg (StM.zero.cells x.1).toArray) (Nw := fun x => [x.2]) ?_
  have hcl : ∀ p, (StM.zero.cells p).length = 37 := fun p => rfl
  have hco : ∀ p, ∀ u ∈ StM.zero.cells p, u.oneCell' = true := fun p => StM.cells_one
  refine fn_enter Try.func29 rfl (by kernel_rfl) Try.ntmps29 (by simp) ?_
  refine cw_seq ?_
  refine cw_region ?_
  (refine ow_alloc rfl rfl Ty.ze75 ?_; intro b0)
  refine ow_nil ?_
  refine xw_then ?_
  refine cw_seq ?_
  refine cw_region ?_
  refine ow_val rfl rfl (v_build rfl (b_st0)) ?_
  (refine ow_call rfl rfl rfl rfl (stClone_c stDeep_zero (by repeat (first | exact Sub.here | exact Sub.nil | assumption | refine Sub.there ?_)) StM.zero_wf (StM.zero_sz.mono (Nat.zero_le _))) ?_; rintro _ _ ⟨x2, rfl, hq2, rfl⟩)
  obtain ⟨p2, D2⟩ := x2
  dsimp only at hq2 ⊢
  have hc2 := hcl p2
  have ho2 := hco p2
  have hzl : (StM.zero.cells p2).length = zeroL.length := rfl
  refine ow_cov (D2 :: [(b0, .cells zeroL.toArray 75 (0, 0))] :: G) (by unfold zeroL; exact (by first | exact Cov.refl _ | (intro p; simp only [List.flatten_cons, List.flatten_nil, List.flatten_append, List.append_nil, List.nil_append, cnt_append, cnt_cons, cnt_nil, List.set_cons_zero, List.set_cons_succ, List.length_nil, List.length_cons, Nat.zero_add, List.append]; omega))) ?_
  refine ow_storeN rfl rfl rfl Ty.ag75 (by first | rfl | assumption) (by first | assumption | simp) (.there .here) ((SetN.all hzl)) ?_
  refine ow_nil ?_
  refine xw_then ?_
  refine cw_ret ?_
  refine ret1 rfl (res_cell rfl (Var.atN Ty.ag75 (.there .here) GetN.all (by first | rfl | assumption))) ?_
  exact ⟨(p2, D2), rfl, hq2, (by first | exact Cov.refl _ | (intro p; simp only [List.flatten_cons, List.flatten_nil, List.flatten_append, List.append_nil, List.nil_append, cnt_append, cnt_cons, cnt_nil, List.set_cons_zero, List.set_cons_succ, List.length_nil, List.length_cons, Nat.zero_add, List.append]; omega))⟩
end Go.Proofs.Ytckdhelnafjddaa
