/- Replay in memory: what a state stores, what it is behind an event. Conditions: numbers fit their types. -/
import Derived.Test.YtckdhelnafjddaaRpE
namespace Go.Proofs.Ytckdhelnafjddaa
open Go Go.Sl Go.Proofs Go.RowKit Go.ChangeShapes Go.WideShapes Go.ChangeAt
set_option maxRecDepth 20000
set_option linter.unusedVariables false
set_option linter.unusedSimpArgs false

@[simp] theorem oneM (o : Option Nat) : (Value.map o).oneCell' = true := rfl
def StAt (s : StM) (b : Nat) (c : Hp) : Prop := ∃ p D, c = [(b, .cells (s.cells p).toArray 75 (0, 0))] ++ D ∧ StDeep s p D ∧ p.live
theorem MapS.g {α : Type} {V : α → Value} {f : Int → Option α} {b : Nat} {c : Hp} (h : MapS V f (some b) c) : MapG .u64 (fun k => (f k).map V) b c := by
  obtain ⟨m, h1, h2⟩ := h.r
  exact ⟨m, h1, h2⟩
theorem MapG.put {α : Type} {V : α → Value} {f : Int → Option α} {b : Nat} {c : Hp} {k : Int} {v : Value} {a : α} (h : MapG .u64 (fun j => if j = k then some v else (f j).map V) b c) (hv : v = V a) : MapS V (Go.Proofs.Ytckdhelnafjddaa.put f k (some a)) (some b) c := by
  refine MapG.s (MapG.congr h fun j => ?_)
  unfold Go.Proofs.Ytckdhelnafjddaa.put
  subst hv
  split <;> rfl
theorem MapG.del {α : Type} {V : α → Value} {f : Int → Option α} {b : Nat} {c : Hp} {k : Int} (h : MapG .u64 (fun j => if j = k then none else (f j).map V) b c) : MapS V (Go.Proofs.Ytckdhelnafjddaa.put f k none) (some b) c := by
  refine MapG.s (MapG.congr h fun j => ?_)
  unfold Go.Proofs.Ytckdhelnafjddaa.put
  split <;> rfl
theorem b_cr {a b c d : Int} : Build Try.prog 123 #[(0, .int .u64 a), (1, .int .u64 b), (2, .int .u64 c), (3, .int .u64 d)] (lsV [a, b, c, d]) := fun w => by kernel_rfl
theorem b_str {a b c d e f : Int} : Build Try.prog 126 #[(0, .int .u64 a), (1, .int .u64 b), (2, .int .u64 c), (3, .int .u64 d), (4, .int .u64 e), (5, .int .u64 f)] (lsV [a, b, c, d, e, f]) := fun w => by kernel_rfl

theorem enQ_val (n : Int) : enQ.val n = .int .u64 n := rfl
theorem v_s2a {P : Program} {S : World → Prop} {N : Nat} {E : Env} {ty T : TypeId} {x : Operand} {ao : Option Addr} {len cap n el : Nat} (hT : P.underlying T = some (.array n el)) (hx : Env.ev E x = some (.slice ao len cap)) (hl : n ≤ len) (ho : ao = some ⟨bOf ao, oOf ao, none⟩) : OpV P S N E (.sliceToArrayPointer T x) ty (.pointer (some ⟨bOf ao, oOf ao, none⟩)) := fun a w ha _ => by
  rw [← ho]
  have h : ¬ len < n := by omega
  simp [execOp, ha.ev hx, Instr.arrayAt, run_underlying hT, h, Oper.quietUpon]
theorem qMap (l : List Int) : l.flatMap enQ.f = l.map (Value.int .u64) := by
  induction l with
  | nil => rfl
  | cons a l ih => simp only [List.flatMap_cons, List.map_cons, ih]; rfl
theorem qVarA {S : World → Prop} {T : TypeId} {ao : Option Addr} {n cap : Nat} {l : List Int} (hT : Agg Try.prog T l.length) (h : Vw enQ S (.slice ao n cap) l) (hl : 0 < l.length) : Var Try.prog S T ⟨bOf ao, oOf ao, none⟩ (.agg (l.map (Value.int .u64)).toArray) := by
  obtain ⟨_, h2⟩ := h.get ao n cap rfl hl
  refine Var.many (by rw [List.length_map]; exact hT) fun i v hi => ?_
  rw [add_mk]
  exact h2 i v (by rw [qMap]; exact hi)
theorem qPtr {S : World → Prop} {ao : Option Addr} {n cap : Nat} {l : List Int} (h : Vw enQ S (.slice ao n cap) l) (hl : 0 < l.length) : ao = some ⟨bOf ao, oOf ao, none⟩ := (h.get ao n cap rfl hl).1
theorem three_at {e : EvM} (h : e.n.length = 3) : e.n = [e.at 0, e.at 1, e.at 2] := by
  obtain ⟨a, b, c, hl⟩ : ∃ a b c, e.n = [a, b, c] := by
    match h2 : e.n, h with
    | [a, b, c], _ => exact ⟨a, b, c, rfl⟩
  unfold EvM.at
  rw [hl]
  rfl

theorem StM.store1 {s : StM} {e : EvM} (h : e.k = 1) : s.store e = { s with ph := e.at 0 } := by unfold StM.store; rw [h]; rfl
theorem StM.store8 {s : StM} {e : EvM} (h : e.k = 8) : s.store e = { s with mt := e.n } := by unfold StM.store; rw [h]; rfl
theorem StM.store9 {s : StM} {e : EvM} (h : e.k = 9) : s.store e = { s with cr := put s.cr (e.at 0) (some [e.at 1, e.at 2, e.at 3, e.at 4]) } := by unfold StM.store; rw [h]; rfl
theorem StM.store10 {s : StM} {e : EvM} (h : e.k = 10) : s.store e = { s with st := put s.st (e.at 0) (some [e.at 1, e.at 2, e.at 3, e.at 4, e.at 5, e.at 6]) } := by unfold StM.store; rw [h]; rfl
theorem StM.store11 {s : StM} {e : EvM} (h : e.k = 11) : s.store e = { s with own := put s.own (e.at 0) (some (ba e.d)) } := by unfold StM.store; rw [h]; rfl
theorem StM.store12 {s : StM} {e : EvM} (h : e.k = 12) : s.store e = { s with own := put s.own (e.at 0) none } := by unfold StM.store; rw [h]; rfl
theorem StM.store13 {s : StM} {e : EvM} (h : e.k = 13) : s.store e = { s with oth := put s.oth (e.at 0) (some (ba e.d)) } := by unfold StM.store; rw [h]; rfl
theorem StM.store14 {s : StM} {e : EvM} (h : e.k = 14) : s.store e = { s with oth := put s.oth (e.at 0) none } := by unfold StM.store; rw [h]; rfl
theorem StM.store15 {s : StM} {e : EvM} (h : e.k = 15) : s.store e = { s with us := e.at 0 } := by unfold StM.store; rw [h]; rfl
theorem StM.store16 {s : StM} {e : EvM} (h : e.k = 16) : s.store e = { s with pa := put s.pa (e.at 0) (some (e.at 1)) } := by unfold StM.store; rw [h]; rfl
theorem StM.store17 {s : StM} {e : EvM} (h : e.k = 17) : s.store e = { s with tu := e.at 1 } := by unfold StM.store; rw [h]; rfl
theorem StM.store18 {s : StM} {e : EvM} (h : e.k = 18) : s.store e = { s with c0 := e.at 0, c1 := e.at 1, c2 := e.at 2, cl := true } := by unfold StM.store; rw [h]; rfl
theorem StM.store19 {s : StM} {e : EvM} (h : e.k = 19) : s.store e = { s with cut := true } := by unfold StM.store; rw [h]; rfl
set_option maxHeartbeats 16000000 in
theorem stStore_c {B : Nat} {w0 : World} {G : List Hp} {R : Hp → List Hp} {s : StM} {b : Nat} {c De : Hp} {e : EvM} {p : EvP} (hsel : Sel G c R) (hO : StAt s b c) (hw : s.WF) (he : e.ok) (hc : e.chk = 0) (hk : ¬ (2 ≤ e.k ∧ e.k ≤ 7)) (hD : EvDeep B w0 e p De) (hs : Sub De (R [])) :
    Go.Sl.Fn Try.prog 75 #[.pointer (some ⟨b, 0, none⟩), .agg (e.cells p).toArray] B w0 G fun u G' => ∃ c' : Hp, u = .tuple #[] ∧ StAt (s.store e) b c' ∧ G' = R c' := by
  refine Fn.sel0 hsel fun F hR hF => ?_
  have hsF := Sub.rest hs hR
  obtain ⟨ps, D0, rfl, ⟨a0, d0, a1, d1, a2, d2, k1, k2, k3, k4, k5, rfl, hd⟩, hlv⟩ := hO
  obtain ⟨p0, p1, p2, pcr, pst, pow, pot, ppa⟩ := ps
  obtain ⟨⟨n1, h1⟩, ⟨n2, h2⟩, ⟨n3, h3⟩, ⟨n4, h4⟩, ⟨n5, h5⟩⟩ := hlv
  dsimp only at h1 h2 h3 h4 h5
  subst h1 h2 h3 h4 h5
  obtain ⟨m0, m1, m2, m3, m4, m5, m6, m7, hm⟩ := list8i hw.mt.1
  obtain ⟨hke, _, hlen, hdl, _, hle⟩ := EvM.chk_ok hc
  have kk := he.k
  have g1 := hd.cr.g
  have g2 := hd.st.g
  have g3 := hd.own.g
  have g4 := hd.oth.g
  have g5 := hd.pa.g
  have lk : ∀ (k : Nat) (n : Int), manyK k = n → e.k = k → (e.n.length : Int) = n := fun k n h1 h2 => by rw [h2] at hlen; rw [hlen, ← h1]; congr 1
  have ln1 : e.k = 1 → e.n.length = 1 := fun h => by have := lk 1 1 rfl h; omega
  have ln8 : e.k = 8 → e.n.length = 8 := fun h => by have := lk 8 8 rfl h; omega
  have ln9 : e.k = 9 → e.n.length = 5 := fun h => by have := lk 9 5 rfl h; omega
  have ln10 : e.k = 10 → e.n.length = 7 := fun h => by have := lk 10 7 rfl h; omega
  have ln11 : e.k = 11 → e.n.length = 1 := fun h => by have := lk 11 1 rfl h; omega
  have ln12 : e.k = 12 → e.n.length = 1 := fun h => by have := lk 12 1 rfl h; omega
  have ln13 : e.k = 13 → e.n.length = 1 := fun h => by have := lk 13 1 rfl h; omega
  have ln14 : e.k = 14 → e.n.length = 1 := fun h => by have := lk 14 1 rfl h; omega
  have ln15 : e.k = 15 → e.n.length = 1 := fun h => by have := lk 15 1 rfl h; omega
  have ln16 : e.k = 16 → e.n.length = 2 := fun h => by have := lk 16 2 rfl h; omega
  have ln17 : e.k = 17 → e.n.length = 2 := fun h => by have := lk 17 2 rfl h; omega
  have ln18 : e.k = 18 → e.n.length = 3 := fun h => by have := lk 18 3 rfl h; omega
  have ln19 : e.k = 19 → e.n.length = 0 := fun h => by have := lk 19 0 rfl h; omega
  have hml : s.mt.length = 8 := hw.mt.1
  refine fn_enter Try.func75 rfl (by kernel_rfl) Try.ntmps75 (by simp) ?_
  refine cw_flat ([(b, .cells (s.cells ⟨p0, p1, p2, some n1, some n2, some n3, some n4, some n5⟩).toArray 75 (0, 0))] :: a0 :: d0 :: a1 :: d1 :: a2 :: d2 :: k1 :: k2 :: k3 :: k4 :: k5 :: F) (.of_eq (by simp)) ?_
  unfold EvM.cells
  rw [cells_lit hm]
  dsimp only
  refine cw_seq ?_
  refine cw_region ?_
  (refine ow_box rfl rfl rfl rfl ?_; intro b3)
  refine ow_nil ?_
  refine xw_then ?_
  refine cw_seq ?_
  refine cw_region ?_
  refine ow_val rfl rfl (v_fieldAddr0 Ty.fd62_2 rfl) ?_
  refine ow_val rfl rfl (v_load rfl (Var.at1 Ty.sc60 .here (GetN.lit rfl))) ?_
  refine ow_val rfl rfl (v_assign rfl) ?_
  refine ow_nil ?_
  refine xw_then ?_
  refine cw_seq ?_
  refine cw_region ?_
  refine ow_val rfl rfl (v_fieldAddr0 Ty.fd62_0 rfl) ?_
  refine ow_val rfl rfl (v_load rfl (Var.at1 Ty.sc59 .here (GetN.lit rfl))) ?_
  refine ow_nil ?_
  refine xw_then ?_
  refine cw_block ?_
  refine cw_seq ?_
  refine cw_region ?_
  refine ow_val rfl rfl (v_eql rfl rfl) ?_
  refine ow_val rfl rfl (v_assign rfl) ?_
  refine ow_nil ?_
  refine xw_then ?_
  refine cw_dec rfl (fun hc9 => ?_) (fun hc9 => ?_)
  refine cw_region ?_
  refine ow_val rfl rfl (v_move rfl) ?_
  refine ow_val rfl rfl (v_move rfl) ?_
  refine ow_val rfl rfl (v_indexAddr_vw (i := 0) Try.underlying60 (qTy) rfl rfl ((hD _ (by repeat (first | exact Sub.here | exact Sub.nil | assumption | refine Sub.there ?_))).n) rfl (by omega)) ?_
  refine ow_val rfl rfl (v_load rfl (Go.Sl.Vw.var (qTy) ((hD _ (by repeat (first | exact Sub.here | exact Sub.nil | assumption | refine Sub.there ?_))).n) (by omega))) ?_
  refine ow_val rfl rfl (v_nilCheck rfl) ?_
  refine ow_val rfl rfl (v_fieldAddr0 Ty.fd75_0 rfl) ?_
  refine ow_store1 rfl rfl rfl rfl Ty.sc22 (.there .here) (SetN.one (by first | decide | exact Nat.le_of_ble_eq_true rfl)) ?_
  refine ow_nil ?_
  refine xw_block ?_
  refine ret0n rfl ?_
  rotate_left
  refine cw_seq ?_
  refine cw_region ?_
  refine ow_val rfl rfl (v_eql rfl rfl) ?_
  refine ow_val rfl rfl (v_assign rfl) ?_
  refine ow_nil ?_
  refine xw_then ?_
  refine cw_dec rfl (fun hc17 => ?_) (fun hc17 => ?_)
  refine cw_region ?_
  refine ow_val rfl rfl (v_move rfl) ?_
  refine ow_val rfl rfl (v_move rfl) ?_
  rotate_left
  refine cw_seq ?_
  refine cw_region ?_
  refine ow_val rfl rfl (v_eql rfl rfl) ?_
  refine ow_val rfl rfl (v_assign rfl) ?_
  refine ow_nil ?_
  refine xw_then ?_
  refine cw_dec rfl (fun hc25 => ?_) (fun hc25 => ?_)
  refine cw_mix [] [20] [0, 1, 2, 3, 4, 5, 6, 7, 8, 9, 10, 11, 12, 13, 14, 15, 16, 17, 18, 19] Ty.mixed rfl rfl rfl rfl (by decide +kernel) ?_
  refine hw_pure rfl rfl (v_move rfl) rfl ?_
  refine hw_pure rfl rfl (v_nilCheck rfl) rfl ?_
  refine hw_pure rfl rfl (v_fieldAddr0 Ty.fd75_3 rfl) rfl ?_
  refine hw_read rfl rfl rfl (v_load rfl (Var.at1 Ty.sc70 (.there .here) (GetN.lit rfl))) ?_
  refine hw_pure rfl rfl (v_move rfl) rfl ?_
  refine hw_pure rfl rfl (v_indexAddr_vw (i := 0) Try.underlying60 (qTy) rfl rfl ((hD _ (by repeat (first | exact Sub.here | exact Sub.nil | assumption | refine Sub.there ?_))).n) rfl (by omega)) rfl ?_
  refine hw_read rfl rfl rfl (v_load rfl (Go.Sl.Vw.var (qTy) ((hD _ (by repeat (first | exact Sub.here | exact Sub.nil | assumption | refine Sub.there ?_))).n) (by omega))) ?_
  refine hw_pure rfl rfl (v_move rfl) rfl ?_
  refine hw_pure rfl rfl (v_indexAddr_vw (i := 1) Try.underlying60 (qTy) rfl rfl ((hD _ (by repeat (first | exact Sub.here | exact Sub.nil | assumption | refine Sub.there ?_))).n) rfl (by omega)) rfl ?_
  refine hw_read rfl rfl rfl (v_load rfl (Go.Sl.Vw.var (qTy) ((hD _ (by repeat (first | exact Sub.here | exact Sub.nil | assumption | refine Sub.there ?_))).n) (by omega))) ?_
  refine hw_pure rfl rfl (v_move rfl) rfl ?_
  refine hw_pure rfl rfl (v_indexAddr_vw (i := 2) Try.underlying60 (qTy) rfl rfl ((hD _ (by repeat (first | exact Sub.here | exact Sub.nil | assumption | refine Sub.there ?_))).n) rfl (by omega)) rfl ?_
  refine hw_read rfl rfl rfl (v_load rfl (Go.Sl.Vw.var (qTy) ((hD _ (by repeat (first | exact Sub.here | exact Sub.nil | assumption | refine Sub.there ?_))).n) (by omega))) ?_
  refine hw_pure rfl rfl (v_move rfl) rfl ?_
  refine hw_pure rfl rfl (v_indexAddr_vw (i := 3) Try.underlying60 (qTy) rfl rfl ((hD _ (by repeat (first | exact Sub.here | exact Sub.nil | assumption | refine Sub.there ?_))).n) rfl (by omega)) rfl ?_
  refine hw_read rfl rfl rfl (v_load rfl (Go.Sl.Vw.var (qTy) ((hD _ (by repeat (first | exact Sub.here | exact Sub.nil | assumption | refine Sub.there ?_))).n) (by omega))) ?_
  refine hw_pure rfl rfl (v_move rfl) rfl ?_
  refine hw_pure rfl rfl (v_indexAddr_vw (i := 4) Try.underlying60 (qTy) rfl rfl ((hD _ (by repeat (first | exact Sub.here | exact Sub.nil | assumption | refine Sub.there ?_))).n) rfl (by omega)) rfl ?_
  refine hw_read rfl rfl rfl (v_load rfl (Go.Sl.Vw.var (qTy) ((hD _ (by repeat (first | exact Sub.here | exact Sub.nil | assumption | refine Sub.there ?_))).n) (by omega))) ?_
  refine hw_pure rfl rfl (v_build rfl (b_cr)) rfl ?_
  refine hw_nil ?_
  refine sw_nil ?_
  rotate_left
  refine cw_seq ?_
  refine cw_region ?_
  refine ow_val rfl rfl (v_eql rfl rfl) ?_
  refine ow_val rfl rfl (v_assign rfl) ?_
  refine ow_nil ?_
  refine xw_then ?_
  refine cw_dec rfl (fun hc47 => ?_) (fun hc47 => ?_)
  refine cw_mix [] [26] [0, 1, 2, 3, 4, 5, 6, 7, 8, 9, 10, 11, 12, 13, 14, 15, 16, 17, 18, 19, 20, 21, 22, 23, 24, 25] Ty.mixed rfl rfl rfl rfl (by decide +kernel) ?_
  refine hw_pure rfl rfl (v_move rfl) rfl ?_
  refine hw_pure rfl rfl (v_nilCheck rfl) rfl ?_
  refine hw_pure rfl rfl (v_fieldAddr0 Ty.fd75_4 rfl) rfl ?_
  refine hw_read rfl rfl rfl (v_load rfl (Var.at1 Ty.sc71 (.there .here) (GetN.lit rfl))) ?_
  refine hw_pure rfl rfl (v_move rfl) rfl ?_
  refine hw_pure rfl rfl (v_indexAddr_vw (i := 0) Try.underlying60 (qTy) rfl rfl ((hD _ (by repeat (first | exact Sub.here | exact Sub.nil | assumption | refine Sub.there ?_))).n) rfl (by omega)) rfl ?_
  refine hw_read rfl rfl rfl (v_load rfl (Go.Sl.Vw.var (qTy) ((hD _ (by repeat (first | exact Sub.here | exact Sub.nil | assumption | refine Sub.there ?_))).n) (by omega))) ?_
  refine hw_pure rfl rfl (v_move rfl) rfl ?_
  refine hw_pure rfl rfl (v_indexAddr_vw (i := 1) Try.underlying60 (qTy) rfl rfl ((hD _ (by repeat (first | exact Sub.here | exact Sub.nil | assumption | refine Sub.there ?_))).n) rfl (by omega)) rfl ?_
  refine hw_read rfl rfl rfl (v_load rfl (Go.Sl.Vw.var (qTy) ((hD _ (by repeat (first | exact Sub.here | exact Sub.nil | assumption | refine Sub.there ?_))).n) (by omega))) ?_
  refine hw_pure rfl rfl (v_move rfl) rfl ?_
  refine hw_pure rfl rfl (v_indexAddr_vw (i := 2) Try.underlying60 (qTy) rfl rfl ((hD _ (by repeat (first | exact Sub.here | exact Sub.nil | assumption | refine Sub.there ?_))).n) rfl (by omega)) rfl ?_
  refine hw_read rfl rfl rfl (v_load rfl (Go.Sl.Vw.var (qTy) ((hD _ (by repeat (first | exact Sub.here | exact Sub.nil | assumption | refine Sub.there ?_))).n) (by omega))) ?_
  refine hw_pure rfl rfl (v_move rfl) rfl ?_
  refine hw_pure rfl rfl (v_indexAddr_vw (i := 3) Try.underlying60 (qTy) rfl rfl ((hD _ (by repeat (first | exact Sub.here | exact Sub.nil | assumption | refine Sub.there ?_))).n) rfl (by omega)) rfl ?_
  refine hw_read rfl rfl rfl (v_load rfl (Go.Sl.Vw.var (qTy) ((hD _ (by repeat (first | exact Sub.here | exact Sub.nil | assumption | refine Sub.there ?_))).n) (by omega))) ?_
  refine hw_pure rfl rfl (v_move rfl) rfl ?_
  refine hw_pure rfl rfl (v_indexAddr_vw (i := 4) Try.underlying60 (qTy) rfl rfl ((hD _ (by repeat (first | exact Sub.here | exact Sub.nil | assumption | refine Sub.there ?_))).n) rfl (by omega)) rfl ?_
  refine hw_read rfl rfl rfl (v_load rfl (Go.Sl.Vw.var (qTy) ((hD _ (by repeat (first | exact Sub.here | exact Sub.nil | assumption | refine Sub.there ?_))).n) (by omega))) ?_
  refine hw_pure rfl rfl (v_move rfl) rfl ?_
  refine hw_pure rfl rfl (v_indexAddr_vw (i := 5) Try.underlying60 (qTy) rfl rfl ((hD _ (by repeat (first | exact Sub.here | exact Sub.nil | assumption | refine Sub.there ?_))).n) rfl (by omega)) rfl ?_
  refine hw_read rfl rfl rfl (v_load rfl (Go.Sl.Vw.var (qTy) ((hD _ (by repeat (first | exact Sub.here | exact Sub.nil | assumption | refine Sub.there ?_))).n) (by omega))) ?_
  refine hw_pure rfl rfl (v_move rfl) rfl ?_
  refine hw_pure rfl rfl (v_indexAddr_vw (i := 6) Try.underlying60 (qTy) rfl rfl ((hD _ (by repeat (first | exact Sub.here | exact Sub.nil | assumption | refine Sub.there ?_))).n) rfl (by omega)) rfl ?_
  refine hw_read rfl rfl rfl (v_load rfl (Go.Sl.Vw.var (qTy) ((hD _ (by repeat (first | exact Sub.here | exact Sub.nil | assumption | refine Sub.there ?_))).n) (by omega))) ?_
  refine hw_pure rfl rfl (v_build rfl (b_str)) rfl ?_
  refine hw_nil ?_
  refine sw_nil ?_
  rotate_left
  refine cw_seq ?_
  refine cw_region ?_
  refine ow_val rfl rfl (v_eql rfl rfl) ?_
  refine ow_val rfl rfl (v_assign rfl) ?_
  refine ow_nil ?_
  refine xw_then ?_
  refine cw_dec rfl (fun hc75 => ?_) (fun hc75 => ?_)
  refine cw_mix [] [10] [0, 1, 2, 3, 4, 5, 6, 7, 8, 9] Ty.mixed rfl rfl rfl rfl (by decide +kernel) ?_
  refine hw_pure rfl rfl (v_move rfl) rfl ?_
  refine hw_pure rfl rfl (v_nilCheck rfl) rfl ?_
  refine hw_pure rfl rfl (v_fieldAddr0 Ty.fd75_5 rfl) rfl ?_
  refine hw_read rfl rfl rfl (v_load rfl (Var.at1 Ty.sc72 (.there .here) (GetN.lit rfl))) ?_
  refine hw_pure rfl rfl (v_move rfl) rfl ?_
  refine hw_pure rfl rfl (v_indexAddr_vw (i := 0) Try.underlying60 (qTy) rfl rfl ((hD _ (by repeat (first | exact Sub.here | exact Sub.nil | assumption | refine Sub.there ?_))).n) rfl (by omega)) rfl ?_
  refine hw_read rfl rfl rfl (v_load rfl (Go.Sl.Vw.var (qTy) ((hD _ (by repeat (first | exact Sub.here | exact Sub.nil | assumption | refine Sub.there ?_))).n) (by omega))) ?_
  refine hw_pure rfl rfl (v_fieldAddr0 Ty.fd62_3 rfl) rfl ?_
  refine hw_read rfl rfl rfl (v_load rfl (Var.at1 Ty.sc23 .here (GetN.lit rfl))) ?_
  refine hw_read rfl rfl rfl (v_str Try.underlying9 Try.underlying23 Try.underlying5 rfl ((hD _ (by repeat (first | exact Sub.here | exact Sub.nil | assumption | refine Sub.there ?_))).d)) ?_
  refine hw_nil ?_
  refine sw_nil ?_
  rotate_left
  refine cw_seq ?_
  refine cw_region ?_
  refine ow_val rfl rfl (v_eql rfl rfl) ?_
  refine ow_val rfl rfl (v_assign rfl) ?_
  refine ow_nil ?_
  refine xw_then ?_
  refine cw_dec rfl (fun hc87 => ?_) (fun hc87 => ?_)
  refine cw_mix [] [7] [0, 1, 2, 3, 4, 5, 6] Ty.mixed rfl rfl rfl rfl (by decide +kernel) ?_
  refine hw_pure rfl rfl (v_move rfl) rfl ?_
  refine hw_pure rfl rfl (v_nilCheck rfl) rfl ?_
  refine hw_pure rfl rfl (v_fieldAddr0 Ty.fd75_5 rfl) rfl ?_
  refine hw_read rfl rfl rfl (v_load rfl (Var.at1 Ty.sc72 (.there .here) (GetN.lit rfl))) ?_
  refine hw_pure rfl rfl (v_move rfl) rfl ?_
  refine hw_pure rfl rfl (v_indexAddr_vw (i := 0) Try.underlying60 (qTy) rfl rfl ((hD _ (by repeat (first | exact Sub.here | exact Sub.nil | assumption | refine Sub.there ?_))).n) rfl (by omega)) rfl ?_
  refine hw_read rfl rfl rfl (v_load rfl (Go.Sl.Vw.var (qTy) ((hD _ (by repeat (first | exact Sub.here | exact Sub.nil | assumption | refine Sub.there ?_))).n) (by omega))) ?_
  refine hw_nil ?_
  refine sw_nil ?_
  rotate_left
  refine cw_seq ?_
  refine cw_region ?_
  refine ow_val rfl rfl (v_eql rfl rfl) ?_
  refine ow_val rfl rfl (v_assign rfl) ?_
  refine ow_nil ?_
  refine xw_then ?_
  refine cw_dec rfl (fun hc96 => ?_) (fun hc96 => ?_)
  refine cw_mix [] [10] [0, 1, 2, 3, 4, 5, 6, 7, 8, 9] Ty.mixed rfl rfl rfl rfl (by decide +kernel) ?_
  refine hw_pure rfl rfl (v_move rfl) rfl ?_
  refine hw_pure rfl rfl (v_nilCheck rfl) rfl ?_
  refine hw_pure rfl rfl (v_fieldAddr0 Ty.fd75_6 rfl) rfl ?_
  refine hw_read rfl rfl rfl (v_load rfl (Var.at1 Ty.sc72 (.there .here) (GetN.lit rfl))) ?_
  refine hw_pure rfl rfl (v_move rfl) rfl ?_
  refine hw_pure rfl rfl (v_indexAddr_vw (i := 0) Try.underlying60 (qTy) rfl rfl ((hD _ (by repeat (first | exact Sub.here | exact Sub.nil | assumption | refine Sub.there ?_))).n) rfl (by omega)) rfl ?_
  refine hw_read rfl rfl rfl (v_load rfl (Go.Sl.Vw.var (qTy) ((hD _ (by repeat (first | exact Sub.here | exact Sub.nil | assumption | refine Sub.there ?_))).n) (by omega))) ?_
  refine hw_pure rfl rfl (v_fieldAddr0 Ty.fd62_3 rfl) rfl ?_
  refine hw_read rfl rfl rfl (v_load rfl (Var.at1 Ty.sc23 .here (GetN.lit rfl))) ?_
  refine hw_read rfl rfl rfl (v_str Try.underlying9 Try.underlying23 Try.underlying5 rfl ((hD _ (by repeat (first | exact Sub.here | exact Sub.nil | assumption | refine Sub.there ?_))).d)) ?_
  refine hw_nil ?_
  refine sw_nil ?_
  rotate_left
  refine cw_seq ?_
  refine cw_region ?_
  refine ow_val rfl rfl (v_eql rfl rfl) ?_
  refine ow_val rfl rfl (v_assign rfl) ?_
  refine ow_nil ?_
  refine xw_then ?_
  refine cw_dec rfl (fun hc108 => ?_) (fun hc108 => ?_)
  refine cw_mix [] [7] [0, 1, 2, 3, 4, 5, 6] Ty.mixed rfl rfl rfl rfl (by decide +kernel) ?_
  refine hw_pure rfl rfl (v_move rfl) rfl ?_
  refine hw_pure rfl rfl (v_nilCheck rfl) rfl ?_
  refine hw_pure rfl rfl (v_fieldAddr0 Ty.fd75_6 rfl) rfl ?_
  refine hw_read rfl rfl rfl (v_load rfl (Var.at1 Ty.sc72 (.there .here) (GetN.lit rfl))) ?_
  refine hw_pure rfl rfl (v_move rfl) rfl ?_
  refine hw_pure rfl rfl (v_indexAddr_vw (i := 0) Try.underlying60 (qTy) rfl rfl ((hD _ (by repeat (first | exact Sub.here | exact Sub.nil | assumption | refine Sub.there ?_))).n) rfl (by omega)) rfl ?_
  refine hw_read rfl rfl rfl (v_load rfl (Go.Sl.Vw.var (qTy) ((hD _ (by repeat (first | exact Sub.here | exact Sub.nil | assumption | refine Sub.there ?_))).n) (by omega))) ?_
  refine hw_nil ?_
  refine sw_nil ?_
  rotate_left
  refine cw_seq ?_
  refine cw_region ?_
  refine ow_val rfl rfl (v_eql rfl rfl) ?_
  refine ow_val rfl rfl (v_assign rfl) ?_
  refine ow_nil ?_
  refine xw_then ?_
  refine cw_dec rfl (fun hc117 => ?_) (fun hc117 => ?_)
  refine cw_region ?_
  refine ow_val rfl rfl (v_move rfl) ?_
  refine ow_val rfl rfl (v_move rfl) ?_
  refine ow_val rfl rfl (v_indexAddr_vw (i := 0) Try.underlying60 (qTy) rfl rfl ((hD _ (by repeat (first | exact Sub.here | exact Sub.nil | assumption | refine Sub.there ?_))).n) rfl (by omega)) ?_
  refine ow_val rfl rfl (v_load rfl (Go.Sl.Vw.var (qTy) ((hD _ (by repeat (first | exact Sub.here | exact Sub.nil | assumption | refine Sub.there ?_))).n) (by omega))) ?_
  refine ow_val rfl rfl (v_nilCheck rfl) ?_
  refine ow_val rfl rfl (v_fieldAddr0 Ty.fd75_7 rfl) ?_
  refine ow_store1 rfl rfl rfl rfl Ty.sc22 (.there .here) (SetN.one (by first | decide | exact Nat.le_of_ble_eq_true rfl)) ?_
  refine ow_nil ?_
  refine xw_block ?_
  refine ret0n rfl ?_
  rotate_left
  refine cw_seq ?_
  refine cw_region ?_
  refine ow_val rfl rfl (v_eql rfl rfl) ?_
  refine ow_val rfl rfl (v_assign rfl) ?_
  refine ow_nil ?_
  refine xw_then ?_
  refine cw_dec rfl (fun hc125 => ?_) (fun hc125 => ?_)
  refine cw_mix [] [10] [0, 1, 2, 3, 4, 5, 6, 7, 8, 9] Ty.mixed rfl rfl rfl rfl (by decide +kernel) ?_
  refine hw_pure rfl rfl (v_move rfl) rfl ?_
  refine hw_pure rfl rfl (v_nilCheck rfl) rfl ?_
  refine hw_pure rfl rfl (v_fieldAddr0 Ty.fd75_8 rfl) rfl ?_
  refine hw_read rfl rfl rfl (v_load rfl (Var.at1 Ty.sc73 (.there .here) (GetN.lit rfl))) ?_
  refine hw_pure rfl rfl (v_move rfl) rfl ?_
  refine hw_pure rfl rfl (v_indexAddr_vw (i := 0) Try.underlying60 (qTy) rfl rfl ((hD _ (by repeat (first | exact Sub.here | exact Sub.nil | assumption | refine Sub.there ?_))).n) rfl (by omega)) rfl ?_
  refine hw_read rfl rfl rfl (v_load rfl (Go.Sl.Vw.var (qTy) ((hD _ (by repeat (first | exact Sub.here | exact Sub.nil | assumption | refine Sub.there ?_))).n) (by omega))) ?_
  refine hw_pure rfl rfl (v_move rfl) rfl ?_
  refine hw_pure rfl rfl (v_indexAddr_vw (i := 1) Try.underlying60 (qTy) rfl rfl ((hD _ (by repeat (first | exact Sub.here | exact Sub.nil | assumption | refine Sub.there ?_))).n) rfl (by omega)) rfl ?_
  refine hw_read rfl rfl rfl (v_load rfl (Go.Sl.Vw.var (qTy) ((hD _ (by repeat (first | exact Sub.here | exact Sub.nil | assumption | refine Sub.there ?_))).n) (by omega))) ?_
  refine hw_nil ?_
  refine sw_nil ?_
  rotate_left
  refine cw_seq ?_
  refine cw_region ?_
  refine ow_val rfl rfl (v_eql rfl rfl) ?_
  refine ow_val rfl rfl (v_assign rfl) ?_
  refine ow_nil ?_
  refine xw_then ?_
  refine cw_dec rfl (fun hc137 => ?_) (fun hc137 => ?_)
  refine cw_region ?_
  refine ow_val rfl rfl (v_move rfl) ?_
  refine ow_val rfl rfl (v_move rfl) ?_
  refine ow_val rfl rfl (v_indexAddr_vw (i := 1) Try.underlying60 (qTy) rfl rfl ((hD _ (by repeat (first | exact Sub.here | exact Sub.nil | assumption | refine Sub.there ?_))).n) rfl (by omega)) ?_
  refine ow_val rfl rfl (v_load rfl (Go.Sl.Vw.var (qTy) ((hD _ (by repeat (first | exact Sub.here | exact Sub.nil | assumption | refine Sub.there ?_))).n) (by omega))) ?_
  refine ow_val rfl rfl (v_nilCheck rfl) ?_
  refine ow_val rfl rfl (v_fieldAddr0 Ty.fd75_9 rfl) ?_
  refine ow_store1 rfl rfl rfl rfl Ty.sc22 (.there .here) (SetN.one (by first | decide | exact Nat.le_of_ble_eq_true rfl)) ?_
  refine ow_nil ?_
  refine xw_block ?_
  refine ret0n rfl ?_
  rotate_left
  refine cw_seq ?_
  refine cw_region ?_
  refine ow_val rfl rfl (v_eql rfl rfl) ?_
  refine ow_val rfl rfl (v_assign rfl) ?_
  refine ow_nil ?_
  refine xw_then ?_
  refine cw_dec rfl (fun hc145 => ?_) (fun hc145 => ?_)
  refine cw_region ?_
  refine ow_val rfl rfl (v_move rfl) ?_
  refine ow_val rfl rfl (v_move rfl) ?_
  refine ow_val rfl rfl (v_move rfl) ?_
  rotate_left
  refine cw_seq ?_
  refine cw_region ?_
  refine ow_val rfl rfl (v_eql rfl rfl) ?_
  refine ow_val rfl rfl (v_assign rfl) ?_
  refine ow_nil ?_
  refine xw_then ?_
  refine cw_dec rfl (fun hc156 => ?_) (fun hc156 => ?_)
  rotate_left; (exfalso; omega); rotate_right
  refine cw_region ?_
  refine ow_val rfl rfl (v_move rfl) ?_
  refine ow_val rfl rfl (v_nilCheck rfl) ?_
  refine ow_val rfl rfl (v_fieldAddr0 Ty.fd75_12 rfl) ?_
  refine ow_store1 rfl rfl rfl rfl Ty.sc4 (.there .here) (SetN.one (by first | decide | exact Nat.le_of_ble_eq_true rfl)) ?_
  refine ow_nil ?_
  refine xw_block ?_
  refine ret0n rfl ?_
  rotate_left
  · try simp only [EvM.at_get, enQ_val]
    rw [StM.store1 hc9]
    refine ⟨[(b, .cells (StM.cells { s with ph := e.at 0 } ⟨p0, p1, p2, some n1, some n2, some n3, some n4, some n5⟩).toArray 75 (0, 0))] ++ (a0 ++ (d0 ++ (a1 ++ (d1 ++ (a2 ++ (d2 ++ (k1 ++ (k2 ++ (k3 ++ (k4 ++ (k5))))))))))), (by first | rfl | exact trivial), ⟨⟨p0, p1, p2, some n1, some n2, some n3, some n4, some n5⟩, _, rfl, ⟨a0, d0, a1, d1, a2, d2, k1, k2, k3, k4, k5, rfl, ⟨hd.s0, hd.s1, hd.s2, hd.cr, hd.st, hd.own, hd.oth, hd.pa⟩⟩, ⟨⟨n1, rfl⟩, ⟨n2, rfl⟩, ⟨n3, rfl⟩, ⟨n4, rfl⟩, ⟨n5, rfl⟩⟩⟩, ?_⟩
    rw [cells_lit (s := { s with ph := e.at 0 }) hm]
    try dsimp only [List.set]
    exact (by first | exact Cov.refl _ | (intro p; simp only [List.flatten_cons, List.flatten_nil, List.flatten_append, List.append_nil, List.nil_append, cnt_append, cnt_cons, cnt_nil, List.set_cons_zero, List.set_cons_succ, List.length_nil, List.length_cons, Nat.zero_add, List.append]; omega))
  · have h8 : e.n.length = 8 := ln8 hc17
    have hVn := (hD [De] (fun x hx => by simpa using hx)).n
    refine ow_val rfl rfl (v_s2a Try.underlying69 rfl (by omega) (qPtr hVn (by omega))) ?_
    refine ow_val rfl rfl (v_load rfl (qVarA (by rw [h8]; exact Ty.ag69) (hD _ (by repeat (first | exact Sub.here | exact Sub.nil | assumption | refine Sub.there ?_))).n (by omega))) ?_
    have hl8 : (e.n.map (Value.int .u64)).length = 8 := by rw [List.length_map]; exact h8
    have ho8 : ∀ u ∈ e.n.map (Value.int .u64), u.oneCell' = true := one_u64 e.n
    refine ow_val rfl rfl (v_nilCheck rfl) ?_
    refine ow_val rfl rfl (v_fieldAddr0 Ty.fd75_2 rfl) ?_
    refine ow_storeN rfl rfl rfl Ty.ag69 (by first | rfl | assumption) (by first | assumption | simp) (.there .here) ((SetN.part (a := [Value.int .u64 s.ph, .int .u64 s.s0.nx, .slice p0.sa s.s0.sent.length p0.sc, .slice p0.ca s.s0.came.length p0.cc, .int .u64 s.s0.bl, .bool s.s0.dr, .int .u64 s.s1.nx, .slice p1.sa s.s1.sent.length p1.sc, .slice p1.ca s.s1.came.length p1.cc, .int .u64 s.s1.bl, .bool s.s1.dr, .int .u64 s.s2.nx, .slice p2.sa s.s2.sent.length p2.sc, .slice p2.ca s.s2.came.length p2.cc, .int .u64 s.s2.bl, .bool s.s2.dr]) (us := [Value.int .u64 m0, .int .u64 m1, .int .u64 m2, .int .u64 m3, .int .u64 m4, .int .u64 m5, .int .u64 m6, .int .u64 m7]) (vs := e.n.map (Value.int .u64)) (c := [Value.map (some n1), .map (some n2), .map (some n3), .map (some n4), .int .u64 s.us, .map (some n5), .int .u64 s.tu, .int .u64 s.c0, .int .u64 s.c1, .int .u64 s.c2, .bool s.cl, .bool s.cut, .int .i64 s.ev]) rfl hl8)) ?_
    refine ow_nil ?_
    refine xw_block ?_
    refine ret0n rfl ?_
    obtain ⟨x0, x1, x2, x3, x4, x5, x6, x7, hx⟩ := list8i h8
    have hobj : [Value.int .u64 s.ph, .int .u64 s.s0.nx, .slice p0.sa s.s0.sent.length p0.sc, .slice p0.ca s.s0.came.length p0.cc, .int .u64 s.s0.bl, .bool s.s0.dr, .int .u64 s.s1.nx, .slice p1.sa s.s1.sent.length p1.sc, .slice p1.ca s.s1.came.length p1.cc, .int .u64 s.s1.bl, .bool s.s1.dr, .int .u64 s.s2.nx, .slice p2.sa s.s2.sent.length p2.sc, .slice p2.ca s.s2.came.length p2.cc, .int .u64 s.s2.bl, .bool s.s2.dr] ++ (e.n.map (Value.int .u64) ++ [Value.map (some n1), .map (some n2), .map (some n3), .map (some n4), .int .u64 s.us, .map (some n5), .int .u64 s.tu, .int .u64 s.c0, .int .u64 s.c1, .int .u64 s.c2, .bool s.cl, .bool s.cut, .int .i64 s.ev]) = [Value.int .u64 s.ph, .int .u64 s.s0.nx, .slice p0.sa s.s0.sent.length p0.sc, .slice p0.ca s.s0.came.length p0.cc, .int .u64 s.s0.bl, .bool s.s0.dr, .int .u64 s.s1.nx, .slice p1.sa s.s1.sent.length p1.sc, .slice p1.ca s.s1.came.length p1.cc, .int .u64 s.s1.bl, .bool s.s1.dr, .int .u64 s.s2.nx, .slice p2.sa s.s2.sent.length p2.sc, .slice p2.ca s.s2.came.length p2.cc, .int .u64 s.s2.bl, .bool s.s2.dr, .int .u64 x0, .int .u64 x1, .int .u64 x2, .int .u64 x3, .int .u64 x4, .int .u64 x5, .int .u64 x6, .int .u64 x7, .map (some n1), .map (some n2), .map (some n3), .map (some n4), .int .u64 s.us, .map (some n5), .int .u64 s.tu, .int .u64 s.c0, .int .u64 s.c1, .int .u64 s.c2, .bool s.cl, .bool s.cut, .int .i64 s.ev] := by rw [hx]; rfl
    rw [hobj]
    try simp only [EvM.at_get, enQ_val]
    rw [StM.store8 hc17]
    refine ⟨[(b, .cells (StM.cells { s with mt := e.n } ⟨p0, p1, p2, some n1, some n2, some n3, some n4, some n5⟩).toArray 75 (0, 0))] ++ (a0 ++ (d0 ++ (a1 ++ (d1 ++ (a2 ++ (d2 ++ (k1 ++ (k2 ++ (k3 ++ (k4 ++ (k5))))))))))), (by first | rfl | exact trivial), ⟨⟨p0, p1, p2, some n1, some n2, some n3, some n4, some n5⟩, _, rfl, ⟨a0, d0, a1, d1, a2, d2, k1, k2, k3, k4, k5, rfl, ⟨hd.s0, hd.s1, hd.s2, hd.cr, hd.st, hd.own, hd.oth, hd.pa⟩⟩, ⟨⟨n1, rfl⟩, ⟨n2, rfl⟩, ⟨n3, rfl⟩, ⟨n4, rfl⟩, ⟨n5, rfl⟩⟩⟩, ?_⟩
    rw [cells_lit (s := { s with mt := e.n }) hx]
    try dsimp only [List.set]
    exact (by first | exact Cov.refl _ | (intro p; simp only [List.flatten_cons, List.flatten_nil, List.flatten_append, List.append_nil, List.nil_append, cnt_append, cnt_cons, cnt_nil, List.set_cons_zero, List.set_cons_succ, List.length_nil, List.length_cons, Nat.zero_add, List.append]; omega))
  · refine ow_mapUpdateG (kd := .u64) (c := k1) rfl Try.underlying70 Try.underlying22 rfl rfl rfl (by repeat (first | exact Sel.here | apply Sel.there)) g1 ?_
    intro cm hcm
    simp only [EvM.at_get, enQ_val] at hcm
    refine ow_nil ?_
    refine xw_np ?_
    refine xw_block ?_
    refine ret0n rfl ?_
    try simp only [EvM.at_get, enQ_val]
    rw [StM.store9 hc25]
    refine ⟨[(b, .cells (StM.cells { s with cr := put s.cr (e.at 0) (some [e.at 1, e.at 2, e.at 3, e.at 4]) } ⟨p0, p1, p2, some n1, some n2, some n3, some n4, some n5⟩).toArray 75 (0, 0))] ++ (a0 ++ (d0 ++ (a1 ++ (d1 ++ (a2 ++ (d2 ++ (cm ++ (k2 ++ (k3 ++ (k4 ++ (k5))))))))))), (by first | rfl | exact trivial), ⟨⟨p0, p1, p2, some n1, some n2, some n3, some n4, some n5⟩, _, rfl, ⟨a0, d0, a1, d1, a2, d2, cm, k2, k3, k4, k5, rfl, ⟨hd.s0, hd.s1, hd.s2, (MapG.put hcm rfl), hd.st, hd.own, hd.oth, hd.pa⟩⟩, ⟨⟨n1, rfl⟩, ⟨n2, rfl⟩, ⟨n3, rfl⟩, ⟨n4, rfl⟩, ⟨n5, rfl⟩⟩⟩, ?_⟩
    rw [cells_lit (s := { s with cr := put s.cr (e.at 0) (some [e.at 1, e.at 2, e.at 3, e.at 4]) }) hm]
    try dsimp only [List.set]
    exact (by first | exact Cov.refl _ | (intro p; simp only [List.flatten_cons, List.flatten_nil, List.flatten_append, List.append_nil, List.nil_append, cnt_append, cnt_cons, cnt_nil, List.set_cons_zero, List.set_cons_succ, List.length_nil, List.length_cons, Nat.zero_add, List.append]; omega))
  · refine ow_mapUpdateG (kd := .u64) (c := k2) rfl Try.underlying71 Try.underlying22 rfl rfl rfl (by repeat (first | exact Sel.here | apply Sel.there)) g2 ?_
    intro cm hcm
    simp only [EvM.at_get, enQ_val] at hcm
    refine ow_nil ?_
    refine xw_np ?_
    refine xw_block ?_
    refine ret0n rfl ?_
    try simp only [EvM.at_get, enQ_val]
    rw [StM.store10 hc47]
    refine ⟨[(b, .cells (StM.cells { s with st := put s.st (e.at 0) (some [e.at 1, e.at 2, e.at 3, e.at 4, e.at 5, e.at 6]) } ⟨p0, p1, p2, some n1, some n2, some n3, some n4, some n5⟩).toArray 75 (0, 0))] ++ (a0 ++ (d0 ++ (a1 ++ (d1 ++ (a2 ++ (d2 ++ (k1 ++ (cm ++ (k3 ++ (k4 ++ (k5))))))))))), (by first | rfl | exact trivial), ⟨⟨p0, p1, p2, some n1, some n2, some n3, some n4, some n5⟩, _, rfl, ⟨a0, d0, a1, d1, a2, d2, k1, cm, k3, k4, k5, rfl, ⟨hd.s0, hd.s1, hd.s2, hd.cr, (MapG.put hcm rfl), hd.own, hd.oth, hd.pa⟩⟩, ⟨⟨n1, rfl⟩, ⟨n2, rfl⟩, ⟨n3, rfl⟩, ⟨n4, rfl⟩, ⟨n5, rfl⟩⟩⟩, ?_⟩
    rw [cells_lit (s := { s with st := put s.st (e.at 0) (some [e.at 1, e.at 2, e.at 3, e.at 4, e.at 5, e.at 6]) }) hm]
    try dsimp only [List.set]
    exact (by first | exact Cov.refl _ | (intro p; simp only [List.flatten_cons, List.flatten_nil, List.flatten_append, List.append_nil, List.nil_append, cnt_append, cnt_cons, cnt_nil, List.set_cons_zero, List.set_cons_succ, List.length_nil, List.length_cons, Nat.zero_add, List.append]; omega))
  · refine ow_mapUpdateG (kd := .u64) (c := k3) rfl Try.underlying72 Try.underlying22 rfl rfl rfl (by repeat (first | exact Sel.here | apply Sel.there)) g3 ?_
    intro cm hcm
    simp only [EvM.at_get, enQ_val] at hcm
    refine ow_nil ?_
    refine xw_np ?_
    refine xw_block ?_
    refine ret0n rfl ?_
    try simp only [EvM.at_get, enQ_val]
    rw [StM.store11 hc75]
    refine ⟨[(b, .cells (StM.cells { s with own := put s.own (e.at 0) (some (ba e.d)) } ⟨p0, p1, p2, some n1, some n2, some n3, some n4, some n5⟩).toArray 75 (0, 0))] ++ (a0 ++ (d0 ++ (a1 ++ (d1 ++ (a2 ++ (d2 ++ (k1 ++ (k2 ++ (cm ++ (k4 ++ (k5))))))))))), (by first | rfl | exact trivial), ⟨⟨p0, p1, p2, some n1, some n2, some n3, some n4, some n5⟩, _, rfl, ⟨a0, d0, a1, d1, a2, d2, k1, k2, cm, k4, k5, rfl, ⟨hd.s0, hd.s1, hd.s2, hd.cr, hd.st, (MapG.put hcm rfl), hd.oth, hd.pa⟩⟩, ⟨⟨n1, rfl⟩, ⟨n2, rfl⟩, ⟨n3, rfl⟩, ⟨n4, rfl⟩, ⟨n5, rfl⟩⟩⟩, ?_⟩
    rw [cells_lit (s := { s with own := put s.own (e.at 0) (some (ba e.d)) }) hm]
    try dsimp only [List.set]
    exact (by first | exact Cov.refl _ | (intro p; simp only [List.flatten_cons, List.flatten_nil, List.flatten_append, List.append_nil, List.nil_append, cnt_append, cnt_cons, cnt_nil, List.set_cons_zero, List.set_cons_succ, List.length_nil, List.length_cons, Nat.zero_add, List.append]; omega))
  · refine ow_deleteG (kd := .u64) (c := k3) rfl rfl Try.underlying72 Try.underlying22 rfl rfl (by repeat (first | exact Sel.here | apply Sel.there)) g3 ?_
    intro cm hcm
    simp only [EvM.at_get, enQ_val] at hcm
    refine ow_nil ?_
    refine xw_np ?_
    refine xw_block ?_
    refine ret0n rfl ?_
    try simp only [EvM.at_get, enQ_val]
    rw [StM.store12 hc87]
    refine ⟨[(b, .cells (StM.cells { s with own := put s.own (e.at 0) none } ⟨p0, p1, p2, some n1, some n2, some n3, some n4, some n5⟩).toArray 75 (0, 0))] ++ (a0 ++ (d0 ++ (a1 ++ (d1 ++ (a2 ++ (d2 ++ (k1 ++ (k2 ++ (cm ++ (k4 ++ (k5))))))))))), (by first | rfl | exact trivial), ⟨⟨p0, p1, p2, some n1, some n2, some n3, some n4, some n5⟩, _, rfl, ⟨a0, d0, a1, d1, a2, d2, k1, k2, cm, k4, k5, rfl, ⟨hd.s0, hd.s1, hd.s2, hd.cr, hd.st, (MapG.del hcm), hd.oth, hd.pa⟩⟩, ⟨⟨n1, rfl⟩, ⟨n2, rfl⟩, ⟨n3, rfl⟩, ⟨n4, rfl⟩, ⟨n5, rfl⟩⟩⟩, ?_⟩
    rw [cells_lit (s := { s with own := put s.own (e.at 0) none }) hm]
    try dsimp only [List.set]
    exact (by first | exact Cov.refl _ | (intro p; simp only [List.flatten_cons, List.flatten_nil, List.flatten_append, List.append_nil, List.nil_append, cnt_append, cnt_cons, cnt_nil, List.set_cons_zero, List.set_cons_succ, List.length_nil, List.length_cons, Nat.zero_add, List.append]; omega))
  · refine ow_mapUpdateG (kd := .u64) (c := k4) rfl Try.underlying72 Try.underlying22 rfl rfl rfl (by repeat (first | exact Sel.here | apply Sel.there)) g4 ?_
    intro cm hcm
    simp only [EvM.at_get, enQ_val] at hcm
    refine ow_nil ?_
    refine xw_np ?_
    refine xw_block ?_
    refine ret0n rfl ?_
    try simp only [EvM.at_get, enQ_val]
    rw [StM.store13 hc96]
    refine ⟨[(b, .cells (StM.cells { s with oth := put s.oth (e.at 0) (some (ba e.d)) } ⟨p0, p1, p2, some n1, some n2, some n3, some n4, some n5⟩).toArray 75 (0, 0))] ++ (a0 ++ (d0 ++ (a1 ++ (d1 ++ (a2 ++ (d2 ++ (k1 ++ (k2 ++ (k3 ++ (cm ++ (k5))))))))))), (by first | rfl | exact trivial), ⟨⟨p0, p1, p2, some n1, some n2, some n3, some n4, some n5⟩, _, rfl, ⟨a0, d0, a1, d1, a2, d2, k1, k2, k3, cm, k5, rfl, ⟨hd.s0, hd.s1, hd.s2, hd.cr, hd.st, hd.own, (MapG.put hcm rfl), hd.pa⟩⟩, ⟨⟨n1, rfl⟩, ⟨n2, rfl⟩, ⟨n3, rfl⟩, ⟨n4, rfl⟩, ⟨n5, rfl⟩⟩⟩, ?_⟩
    rw [cells_lit (s := { s with oth := put s.oth (e.at 0) (some (ba e.d)) }) hm]
    try dsimp only [List.set]
    exact (by first | exact Cov.refl _ | (intro p; simp only [List.flatten_cons, List.flatten_nil, List.flatten_append, List.append_nil, List.nil_append, cnt_append, cnt_cons, cnt_nil, List.set_cons_zero, List.set_cons_succ, List.length_nil, List.length_cons, Nat.zero_add, List.append]; omega))
  · refine ow_deleteG (kd := .u64) (c := k4) rfl rfl Try.underlying72 Try.underlying22 rfl rfl (by repeat (first | exact Sel.here | apply Sel.there)) g4 ?_
    intro cm hcm
    simp only [EvM.at_get, enQ_val] at hcm
    refine ow_nil ?_
    refine xw_np ?_
    refine xw_block ?_
    refine ret0n rfl ?_
    try simp only [EvM.at_get, enQ_val]
    rw [StM.store14 hc108]
    refine ⟨[(b, .cells (StM.cells { s with oth := put s.oth (e.at 0) none } ⟨p0, p1, p2, some n1, some n2, some n3, some n4, some n5⟩).toArray 75 (0, 0))] ++ (a0 ++ (d0 ++ (a1 ++ (d1 ++ (a2 ++ (d2 ++ (k1 ++ (k2 ++ (k3 ++ (cm ++ (k5))))))))))), (by first | rfl | exact trivial), ⟨⟨p0, p1, p2, some n1, some n2, some n3, some n4, some n5⟩, _, rfl, ⟨a0, d0, a1, d1, a2, d2, k1, k2, k3, cm, k5, rfl, ⟨hd.s0, hd.s1, hd.s2, hd.cr, hd.st, hd.own, (MapG.del hcm), hd.pa⟩⟩, ⟨⟨n1, rfl⟩, ⟨n2, rfl⟩, ⟨n3, rfl⟩, ⟨n4, rfl⟩, ⟨n5, rfl⟩⟩⟩, ?_⟩
    rw [cells_lit (s := { s with oth := put s.oth (e.at 0) none }) hm]
    try dsimp only [List.set]
    exact (by first | exact Cov.refl _ | (intro p; simp only [List.flatten_cons, List.flatten_nil, List.flatten_append, List.append_nil, List.nil_append, cnt_append, cnt_cons, cnt_nil, List.set_cons_zero, List.set_cons_succ, List.length_nil, List.length_cons, Nat.zero_add, List.append]; omega))
  · try simp only [EvM.at_get, enQ_val]
    rw [StM.store15 hc117]
    refine ⟨[(b, .cells (StM.cells { s with us := e.at 0 } ⟨p0, p1, p2, some n1, some n2, some n3, some n4, some n5⟩).toArray 75 (0, 0))] ++ (a0 ++ (d0 ++ (a1 ++ (d1 ++ (a2 ++ (d2 ++ (k1 ++ (k2 ++ (k3 ++ (k4 ++ (k5))))))))))), (by first | rfl | exact trivial), ⟨⟨p0, p1, p2, some n1, some n2, some n3, some n4, some n5⟩, _, rfl, ⟨a0, d0, a1, d1, a2, d2, k1, k2, k3, k4, k5, rfl, ⟨hd.s0, hd.s1, hd.s2, hd.cr, hd.st, hd.own, hd.oth, hd.pa⟩⟩, ⟨⟨n1, rfl⟩, ⟨n2, rfl⟩, ⟨n3, rfl⟩, ⟨n4, rfl⟩, ⟨n5, rfl⟩⟩⟩, ?_⟩
    rw [cells_lit (s := { s with us := e.at 0 }) hm]
    try dsimp only [List.set]
    exact (by first | exact Cov.refl _ | (intro p; simp only [List.flatten_cons, List.flatten_nil, List.flatten_append, List.append_nil, List.nil_append, cnt_append, cnt_cons, cnt_nil, List.set_cons_zero, List.set_cons_succ, List.length_nil, List.length_cons, Nat.zero_add, List.append]; omega))
  · refine ow_mapUpdateG (kd := .u64) (c := k5) rfl Try.underlying73 Try.underlying22 rfl rfl rfl (by repeat (first | exact Sel.here | apply Sel.there)) g5 ?_
    intro cm hcm
    simp only [EvM.at_get, enQ_val] at hcm
    refine ow_nil ?_
    refine xw_np ?_
    refine xw_block ?_
    refine ret0n rfl ?_
    try simp only [EvM.at_get, enQ_val]
    rw [StM.store16 hc125]
    refine ⟨[(b, .cells (StM.cells { s with pa := put s.pa (e.at 0) (some (e.at 1)) } ⟨p0, p1, p2, some n1, some n2, some n3, some n4, some n5⟩).toArray 75 (0, 0))] ++ (a0 ++ (d0 ++ (a1 ++ (d1 ++ (a2 ++ (d2 ++ (k1 ++ (k2 ++ (k3 ++ (k4 ++ (cm))))))))))), (by first | rfl | exact trivial), ⟨⟨p0, p1, p2, some n1, some n2, some n3, some n4, some n5⟩, _, rfl, ⟨a0, d0, a1, d1, a2, d2, k1, k2, k3, k4, cm, rfl, ⟨hd.s0, hd.s1, hd.s2, hd.cr, hd.st, hd.own, hd.oth, (MapG.put hcm rfl)⟩⟩, ⟨⟨n1, rfl⟩, ⟨n2, rfl⟩, ⟨n3, rfl⟩, ⟨n4, rfl⟩, ⟨n5, rfl⟩⟩⟩, ?_⟩
    rw [cells_lit (s := { s with pa := put s.pa (e.at 0) (some (e.at 1)) }) hm]
    try dsimp only [List.set]
    exact (by first | exact Cov.refl _ | (intro p; simp only [List.flatten_cons, List.flatten_nil, List.flatten_append, List.append_nil, List.nil_append, cnt_append, cnt_cons, cnt_nil, List.set_cons_zero, List.set_cons_succ, List.length_nil, List.length_cons, Nat.zero_add, List.append]; omega))
  · try simp only [EvM.at_get, enQ_val]
    rw [StM.store17 hc137]
    refine ⟨[(b, .cells (StM.cells { s with tu := e.at 1 } ⟨p0, p1, p2, some n1, some n2, some n3, some n4, some n5⟩).toArray 75 (0, 0))] ++ (a0 ++ (d0 ++ (a1 ++ (d1 ++ (a2 ++ (d2 ++ (k1 ++ (k2 ++ (k3 ++ (k4 ++ (k5))))))))))), (by first | rfl | exact trivial), ⟨⟨p0, p1, p2, some n1, some n2, some n3, some n4, some n5⟩, _, rfl, ⟨a0, d0, a1, d1, a2, d2, k1, k2, k3, k4, k5, rfl, ⟨hd.s0, hd.s1, hd.s2, hd.cr, hd.st, hd.own, hd.oth, hd.pa⟩⟩, ⟨⟨n1, rfl⟩, ⟨n2, rfl⟩, ⟨n3, rfl⟩, ⟨n4, rfl⟩, ⟨n5, rfl⟩⟩⟩, ?_⟩
    rw [cells_lit (s := { s with tu := e.at 1 }) hm]
    try dsimp only [List.set]
    exact (by first | exact Cov.refl _ | (intro p; simp only [List.flatten_cons, List.flatten_nil, List.flatten_append, List.append_nil, List.nil_append, cnt_append, cnt_cons, cnt_nil, List.set_cons_zero, List.set_cons_succ, List.length_nil, List.length_cons, Nat.zero_add, List.append]; omega))
  · have h3 : e.n.length = 3 := ln18 hc145
    have hVn := (hD [De] (fun x hx => by simpa using hx)).n
    refine ow_val rfl rfl (v_s2a Try.underlying28 rfl (by omega) (qPtr hVn (by omega))) ?_
    refine ow_val rfl rfl (v_load rfl (qVarA (by rw [h3]; exact Ty.ag28) (hD _ (by repeat (first | exact Sub.here | exact Sub.nil | assumption | refine Sub.there ?_))).n (by omega))) ?_
    have hl3 : (e.n.map (Value.int .u64)).length = 3 := by rw [List.length_map]; exact h3
    have ho3 : ∀ u ∈ e.n.map (Value.int .u64), u.oneCell' = true := one_u64 e.n
    have hx := three_at h3
    refine ow_val rfl rfl (v_nilCheck rfl) ?_
    refine ow_val rfl rfl (v_fieldAddr0 Ty.fd75_10 rfl) ?_
    refine ow_storeN rfl rfl rfl Ty.ag28 (by first | rfl | assumption) (by first | assumption | simp) (.there .here) ((SetN.part (a := [Value.int .u64 s.ph, .int .u64 s.s0.nx, .slice p0.sa s.s0.sent.length p0.sc, .slice p0.ca s.s0.came.length p0.cc, .int .u64 s.s0.bl, .bool s.s0.dr, .int .u64 s.s1.nx, .slice p1.sa s.s1.sent.length p1.sc, .slice p1.ca s.s1.came.length p1.cc, .int .u64 s.s1.bl, .bool s.s1.dr, .int .u64 s.s2.nx, .slice p2.sa s.s2.sent.length p2.sc, .slice p2.ca s.s2.came.length p2.cc, .int .u64 s.s2.bl, .bool s.s2.dr, .int .u64 m0, .int .u64 m1, .int .u64 m2, .int .u64 m3, .int .u64 m4, .int .u64 m5, .int .u64 m6, .int .u64 m7, .map (some n1), .map (some n2), .map (some n3), .map (some n4), .int .u64 s.us, .map (some n5), .int .u64 s.tu]) (us := [Value.int .u64 s.c0, .int .u64 s.c1, .int .u64 s.c2]) (vs := e.n.map (Value.int .u64)) (c := [Value.bool s.cl, .bool s.cut, .int .i64 s.ev]) rfl hl3)) ?_
    refine ow_val rfl rfl (v_nilCheck rfl) ?_
    refine ow_val rfl rfl (v_fieldAddr0 Ty.fd75_11 rfl) ?_
    have hobj : [Value.int .u64 s.ph, .int .u64 s.s0.nx, .slice p0.sa s.s0.sent.length p0.sc, .slice p0.ca s.s0.came.length p0.cc, .int .u64 s.s0.bl, .bool s.s0.dr, .int .u64 s.s1.nx, .slice p1.sa s.s1.sent.length p1.sc, .slice p1.ca s.s1.came.length p1.cc, .int .u64 s.s1.bl, .bool s.s1.dr, .int .u64 s.s2.nx, .slice p2.sa s.s2.sent.length p2.sc, .slice p2.ca s.s2.came.length p2.cc, .int .u64 s.s2.bl, .bool s.s2.dr, .int .u64 m0, .int .u64 m1, .int .u64 m2, .int .u64 m3, .int .u64 m4, .int .u64 m5, .int .u64 m6, .int .u64 m7, .map (some n1), .map (some n2), .map (some n3), .map (some n4), .int .u64 s.us, .map (some n5), .int .u64 s.tu] ++ (e.n.map (Value.int .u64) ++ [Value.bool s.cl, .bool s.cut, .int .i64 s.ev]) = [Value.int .u64 s.ph, .int .u64 s.s0.nx, .slice p0.sa s.s0.sent.length p0.sc, .slice p0.ca s.s0.came.length p0.cc, .int .u64 s.s0.bl, .bool s.s0.dr, .int .u64 s.s1.nx, .slice p1.sa s.s1.sent.length p1.sc, .slice p1.ca s.s1.came.length p1.cc, .int .u64 s.s1.bl, .bool s.s1.dr, .int .u64 s.s2.nx, .slice p2.sa s.s2.sent.length p2.sc, .slice p2.ca s.s2.came.length p2.cc, .int .u64 s.s2.bl, .bool s.s2.dr, .int .u64 m0, .int .u64 m1, .int .u64 m2, .int .u64 m3, .int .u64 m4, .int .u64 m5, .int .u64 m6, .int .u64 m7, .map (some n1), .map (some n2), .map (some n3), .map (some n4), .int .u64 s.us, .map (some n5), .int .u64 s.tu, .int .u64 (e.at 0), .int .u64 (e.at 1), .int .u64 (e.at 2), .bool s.cl, .bool s.cut, .int .i64 s.ev] := by rw [hx]; rfl
    rw [hobj]
    refine ow_store1 rfl rfl rfl rfl Ty.sc4 (.there .here) (SetN.one (by first | decide | exact Nat.le_of_ble_eq_true rfl)) ?_
    refine ow_nil ?_
    refine xw_block ?_
    refine ret0n rfl ?_
    try simp only [EvM.at_get, enQ_val]
    rw [StM.store18 hc145]
    refine ⟨[(b, .cells (StM.cells { s with c0 := e.at 0, c1 := e.at 1, c2 := e.at 2, cl := true } ⟨p0, p1, p2, some n1, some n2, some n3, some n4, some n5⟩).toArray 75 (0, 0))] ++ (a0 ++ (d0 ++ (a1 ++ (d1 ++ (a2 ++ (d2 ++ (k1 ++ (k2 ++ (k3 ++ (k4 ++ (k5))))))))))), (by first | rfl | exact trivial), ⟨⟨p0, p1, p2, some n1, some n2, some n3, some n4, some n5⟩, _, rfl, ⟨a0, d0, a1, d1, a2, d2, k1, k2, k3, k4, k5, rfl, ⟨hd.s0, hd.s1, hd.s2, hd.cr, hd.st, hd.own, hd.oth, hd.pa⟩⟩, ⟨⟨n1, rfl⟩, ⟨n2, rfl⟩, ⟨n3, rfl⟩, ⟨n4, rfl⟩, ⟨n5, rfl⟩⟩⟩, ?_⟩
    rw [cells_lit (s := { s with c0 := e.at 0, c1 := e.at 1, c2 := e.at 2, cl := true }) hm]
    try dsimp only [List.set]
    exact (by first | exact Cov.refl _ | (intro p; simp only [List.flatten_cons, List.flatten_nil, List.flatten_append, List.append_nil, List.nil_append, cnt_append, cnt_cons, cnt_nil, List.set_cons_zero, List.set_cons_succ, List.length_nil, List.length_cons, Nat.zero_add, List.append]; omega))
  · try simp only [EvM.at_get, enQ_val]
    rw [StM.store19 hc156]
    refine ⟨[(b, .cells (StM.cells { s with cut := true } ⟨p0, p1, p2, some n1, some n2, some n3, some n4, some n5⟩).toArray 75 (0, 0))] ++ (a0 ++ (d0 ++ (a1 ++ (d1 ++ (a2 ++ (d2 ++ (k1 ++ (k2 ++ (k3 ++ (k4 ++ (k5))))))))))), (by first | rfl | exact trivial), ⟨⟨p0, p1, p2, some n1, some n2, some n3, some n4, some n5⟩, _, rfl, ⟨a0, d0, a1, d1, a2, d2, k1, k2, k3, k4, k5, rfl, ⟨hd.s0, hd.s1, hd.s2, hd.cr, hd.st, hd.own, hd.oth, hd.pa⟩⟩, ⟨⟨n1, rfl⟩, ⟨n2, rfl⟩, ⟨n3, rfl⟩, ⟨n4, rfl⟩, ⟨n5, rfl⟩⟩⟩, ?_⟩
    rw [cells_lit (s := { s with cut := true }) hm]
    try dsimp only [List.set]
    exact (by first | exact Cov.refl _ | (intro p; simp only [List.flatten_cons, List.flatten_nil, List.flatten_append, List.append_nil, List.nil_append, cnt_append, cnt_cons, cnt_nil, List.set_cons_zero, List.set_cons_succ, List.length_nil, List.length_cons, Nat.zero_add, List.append]; omega))
end Go.Proofs.Ytckdhelnafjddaa
