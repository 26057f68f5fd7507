/- The rules of the small separation logic for memory: new blocks, loads and stores, appends and copies. Conditions: none; nothing here speaks of a given program. -/
import Derived.Test.YtckdhelnafjddaaOps
import Derived.Laws.CopyOwn
namespace Go.Sl
set_option linter.unusedVariables false
set_option linter.unusedSimpArgs false
open Go.RowKit

variable {P : Program} {ops : Array Oper} {Q : Exit → Act → World → Prop} {B : Nat} {w0 : World} {N : Nat} {G : List Hp} {E : Env} {S : World → Prop} {ty T U : TypeId}

/-! ### Objects -/
def GetN (o : Obj) (off : Nat) (vs : List Value) : Prop := ∃ cs T fr, o = .cells cs T fr ∧ ∀ i v, vs[i]? = some v → cs[off + i]? = some v
def SetN (o : Obj) (off : Nat) (vs : List Value) (o' : Obj) : Prop := ∃ cs T, o = .cells cs T (0, 0) ∧ off + vs.length ≤ cs.size ∧ o' = .cells (splice cs.toList off vs).toArray T (0, 0)

theorem GetN.one {cs : Array Value} {e : TypeId} {fr : Nat × Nat} {off : Nat} {v : Value} (h : cs[off]? = some v) : GetN (.cells cs e fr) off [v] :=
  ⟨cs, e, fr, rfl, fun i u hu => by
    cases i with
    | zero => simp at hu; subst hu; exact h
    | succ i => simp at hu⟩
theorem GetN.all {vs : List Value} {e : TypeId} {fr : Nat × Nat} : GetN (.cells vs.toArray e fr) 0 vs := ⟨_, _, _, rfl, fun i v h => by simpa using h⟩
theorem GetN.part {a vs c : List Value} {e : TypeId} {fr : Nat × Nat} {off : Nat} (h : off = a.length) : GetN (.cells (a ++ (vs ++ c)).toArray e fr) off vs := by
  subst h
  refine ⟨_, _, _, rfl, fun i v hv => ?_⟩
  have hlt : i < vs.length := (List.getElem?_eq_some_iff.1 hv).1
  simp only [List.getElem?_toArray]
  rw [List.getElem?_append_right (by omega), Nat.add_sub_cancel_left, List.getElem?_append_left hlt]
  exact hv
theorem GetN.sub {o : Obj} {off k : Nat} {vs us : List Value} (h : GetN o off vs) (hk : ∀ i v, us[i]? = some v → vs[k + i]? = some v) : GetN o (off + k) us := by
  obtain ⟨cs, e, fr, ho, h1⟩ := h
  exact ⟨cs, e, fr, ho, fun i v hv => by rw [Nat.add_assoc]; exact h1 _ _ (hk i v hv)⟩

theorem SetN.one {l : List Value} {e : TypeId} {off : Nat} {v : Value} (h : off < l.length) : SetN (.cells l.toArray e (0, 0)) off [v] (.cells (l.set off v).toArray e (0, 0)) := by
  refine ⟨_, _, rfl, by simp; omega, ?_⟩
  congr 2
  simp only [splice, List.length_singleton, List.singleton_append]
  exact (List.set_eq_take_append_cons_drop (l := l) (i := off) (a := v)).trans (by rw [if_pos h]) |>.symm ▸ rfl
theorem SetN.all {l vs : List Value} {e : TypeId} (h : vs.length = l.length) : SetN (.cells l.toArray e (0, 0)) 0 vs (.cells vs.toArray e (0, 0)) := by
  refine ⟨_, _, rfl, by simp [h], ?_⟩
  simp [splice, h]
theorem SetN.part {a us vs c : List Value} {e : TypeId} {off : Nat} (h : off = a.length) (hl : vs.length = us.length) : SetN (.cells (a ++ (us ++ c)).toArray e (0, 0)) off vs (.cells (a ++ (vs ++ c)).toArray e (0, 0)) := by
  subst h
  refine ⟨_, _, rfl, by simp [hl], ?_⟩
  simp [splice, hl, List.drop_append]

theorem Var.get1 {c : Hp} {R : Hp → List Hp} {b off : Nat} {o : Obj} {v : Value} (hT : Scalar P T) (hs : Sel G c R) (hm : (b, o) ∈ c) (hg : GetN o off [v]) : Var P (St B w0 G) T ⟨b, off, none⟩ v := by
  obtain ⟨cs, e, fr, rfl, h⟩ := hg
  exact Var.one hT (Cell.of hs hm (h 0 v rfl))
theorem Var.getN {c : Hp} {R : Hp → List Hp} {b off n : Nat} {o : Obj} {vs : List Value} (hT : Agg P T n) (hs : Sel G c R) (hm : (b, o) ∈ c) (hg : GetN o off vs) (hn : vs.length = n) : Var P (St B w0 G) T ⟨b, off, none⟩ (.agg vs.toArray) := by
  subst hn
  obtain ⟨cs, e, fr, rfl, h⟩ := hg
  exact Var.many hT fun i v hv => by rw [add_mk]; exact Cell.of hs hm (h i v hv)
/-- the common case: the block is a chunk of its own -/
theorem Var.at1 {R : Hp → List Hp} {b off : Nat} {o : Obj} {v : Value} (hT : Scalar P T) (hs : Sel G [(b, o)] R) (hg : GetN o off [v]) : Var P (St B w0 G) T ⟨b, off, none⟩ v := Var.get1 hT hs (.head _) hg
theorem Var.atN {R : Hp → List Hp} {b off n : Nat} {o : Obj} {vs : List Value} (hT : Agg P T n) (hs : Sel G [(b, o)] R) (hg : GetN o off vs) (hn : vs.length = n) : Var P (St B w0 G) T ⟨b, off, none⟩ (.agg vs.toArray) := Var.getN hT hs (.head _) hg hn
/-- in old memory -/
theorem Var.old1 {b off : Nat} {v : Value} (hT : Scalar P T) (hb : b < B) (hv : w0.cell? ⟨b, off, none⟩ = some v) : Var P (St B w0 G) T ⟨b, off, none⟩ v := Var.one hT (Cell.old hb hv)
theorem Var.oldN {b off n : Nat} {vs : List Value} (hT : Agg P T n) (hb : b < B) (hn : vs.length = n) (hv : ∀ i v, vs[i]? = some v → w0.cell? ⟨b, off + i, none⟩ = some v) : Var P (St B w0 G) T ⟨b, off, none⟩ (.agg vs.toArray) := by
  subst hn
  exact Var.many hT fun i v h => by rw [add_mk]; exact Cell.old hb (hv i v h)

/-! ### Stores -/
theorem St.setRow {w : World} (h : St B w0 G w) {b : Nat} {cs cs' : Array Value} {e : TypeId} {R : Hp → List Hp} (hs : Sel G [(b, .cells cs e (0, 0))] R) : St B w0 (R [(b, .cells cs' e (0, 0))]) (w.setRow b cs') := by
  have hb := h.read hs (List.Mem.head _)
  refine h.write hs rfl rfl rfl (by simp) (setRow_heap w b cs cs' e _ hb) fun k hk => ?_
  exact setRow_other w b k cs' hk

theorem run_storeVar {w : World} {b off : Nat} {cs : Array Value} {e : TypeId} {vs : List Value} {v : Value} (hb : w.heap[b]? = some (.cells cs e (0, 0))) (hv : v.cells.toList = vs) (hsz : (P.info? T).map (·.size) = some vs.length) (hl : off + vs.length ≤ cs.size) (h1 : ∀ u ∈ vs, u.oneCell' = true) :
    (storeVar T ⟨b, off, none⟩ v).run P w = .ok () (w.setRow b (splice cs.toList off vs).toArray) := by
  have h2 := run_storeCells_at P b off e vs 0 cs w hb (by simpa using hl) h1
  have h3 : v.cells.size = vs.length := by rw [← hv]; simp
  simp only [storeVar, Sem.run_bind, run_sizeOf hsz, Result.andThen_ok, h3, ne_eq, not_true_eq_false, if_false, hv]
  simpa [splice] using h2

theorem ow_store {x y : Operand} {b off : Nat} {o o' : Obj} {v : Value} {vs : List Value} {R : Hp → List Hp} {pos : String} {af : Array Edge} {g : Option (Nat × Bool)} {rest : List Oper} (hg : Env.guard E ops g = some true)
    (hx : Env.ev E x = some (.pointer (some ⟨b, off, none⟩))) (hy : Env.ev E y = some v) (hv : v.cells.toList = vs) (hsz : (P.info? T).map (·.size) = some vs.length) (h1 : ∀ u ∈ vs, u.oneCell' = true)
    (hs : Sel G [(b, o)] R) (hset : SetN o off vs o') (h : OW P ops Q B w0 N (R [(b, o')]) E rest) : OW P ops Q B w0 N G E (⟨none, .store T x y, ty, pos, af, g⟩ :: rest) := fun a w ha hw => by
  unfold wpList
  rw [if_pos (ha.guard (o := ⟨none, .store T x y, ty, pos, af, g⟩) hg)]
  obtain ⟨cs, e, rfl, hl, rfl⟩ := hset
  have hb := hw.read hs (List.Mem.head _)
  have h2 := run_storeVar (P := P) (T := T) hb hv hsz hl h1
  refine .inl ?_
  unfold Oper.wp
  have h3 : (execOp a.eval ⟨none, .store T x y, ty, pos, af, g⟩).run P w = .ok .skip (w.setRow b (splice cs.toList off vs).toArray) := by
    simp [execOp, ha.ev hx, ha.ev hy, Instr.storeAt, Instr.sureAddr, h2]
  rw [h3]
  exact h a _ ha (hw.setRow hs)

theorem ow_store1 {x y : Operand} {b off : Nat} {o o' : Obj} {v : Value} {R : Hp → List Hp} {pos : String} {af : Array Edge} {g : Option (Nat × Bool)} {rest : List Oper} (hg : Env.guard E ops g = some true)
    (hx : Env.ev E x = some (.pointer (some ⟨b, off, none⟩))) (hy : Env.ev E y = some v) (h1 : v.oneCell' = true) (hT : Scalar P T)
    (hs : Sel G [(b, o)] R) (hset : SetN o off [v] o') (h : OW P ops Q B w0 N (R [(b, o')]) E rest) : OW P ops Q B w0 N G E (⟨none, .store T x y, ty, pos, af, g⟩ :: rest) :=
  ow_store hg hx hy (vs := [v]) (by cases v <;> first | rfl | simp [Value.oneCell'] at h1) hT.size (by simpa using h1) hs hset h

theorem ow_storeN {x y : Operand} {b off n : Nat} {o o' : Obj} {vs : List Value} {R : Hp → List Hp} {pos : String} {af : Array Edge} {g : Option (Nat × Bool)} {rest : List Oper} (hg : Env.guard E ops g = some true)
    (hx : Env.ev E x = some (.pointer (some ⟨b, off, none⟩))) (hy : Env.ev E y = some (.agg vs.toArray)) (hT : Agg P T n) (hn : vs.length = n) (h1 : ∀ u ∈ vs, u.oneCell' = true)
    (hs : Sel G [(b, o)] R) (hset : SetN o off vs o') (h : OW P ops Q B w0 N (R [(b, o')]) E rest) : OW P ops Q B w0 N G E (⟨none, .store T x y, ty, pos, af, g⟩ :: rest) :=
  ow_store hg hx hy (vs := vs) (by simp [Value.cells]) (by rw [hT.size, hn]) h1 hs hset h

/-! ### New blocks -/
structure Zero (P : Program) (T : TypeId) (zs : List Value) : Prop where
  run : ∀ w : World, ∃ z, (zeroValue T).run P w = .ok z w ∧ z.cells = zs.toArray

theorem ow_new {d : Nat} {op : Op} {pos : String} {af : Array Edge} {g : Option (Nat × Bool)} {rest : List Oper} {vs : List Value} {e : TypeId} (hg : Env.guard E ops g = some true) (hd : Nat.blt d N = true)
    (hrun : ∀ a w, EnvOK N E a → St B w0 G w → (execOp a.eval ⟨some d, op, ty, pos, af, g⟩).run P w = .ok (.value (.pointer (some ⟨w.heap.size, 0, none⟩))) (w.alloc (.cells vs.toArray e)))
    (h : ∀ b, OW P ops Q B w0 N ([(b, .cells vs.toArray e (0, 0))] :: G) ((d, .pointer (some ⟨b, 0, none⟩)) :: E) rest) : OW P ops Q B w0 N G E (⟨some d, op, ty, pos, af, g⟩ :: rest) := fun a w ha hw => by
  unfold wpList
  rw [if_pos (ha.guard (o := ⟨some d, op, ty, pos, af, g⟩) hg)]
  refine .inl ?_
  unfold Oper.wp
  rw [hrun a w ha hw]
  exact h w.heap.size _ _ (ha.put (by simpa using hd) _) (hw.new _)

theorem ow_alloc {d : Nat} {pos : String} {af : Array Edge} {g : Option (Nat × Bool)} {rest : List Oper} {zs : List Value} (hg : Env.guard E ops g = some true) (hd : Nat.blt d N = true) (hz : Zero P T zs)
    (h : ∀ b, OW P ops Q B w0 N ([(b, .cells zs.toArray T (0, 0))] :: G) ((d, .pointer (some ⟨b, 0, none⟩)) :: E) rest) : OW P ops Q B w0 N G E (⟨some d, .alloc T, ty, pos, af, g⟩ :: rest) :=
  ow_new hg hd (fun a w _ _ => by
    obtain ⟨z, h1, h2⟩ := hz.run w
    simp [execOp, Instr.alloc, h1, newVar, newRow, h2]) h

theorem ow_box {d : Nat} {x : Operand} {v : Value} {vs : List Value} {pos : String} {af : Array Edge} {g : Option (Nat × Bool)} {rest : List Oper} (hg : Env.guard E ops g = some true) (hd : Nat.blt d N = true) (hx : Env.ev E x = some v) (hv : v.cells = vs.toArray)
    (h : ∀ b, OW P ops Q B w0 N ([(b, .cells vs.toArray T (0, 0))] :: G) ((d, .pointer (some ⟨b, 0, none⟩)) :: E) rest) : OW P ops Q B w0 N G E (⟨some d, .box T x, ty, pos, af, g⟩ :: rest) :=
  ow_new hg hd (fun a w ha _ => by simp [execOp, Instr.box, ha.ev hx, newVar, newRow, hv]) h

/-- a composite literal -/
def Build (P : Program) (T : TypeId) (parts : Array (Nat × Value)) (v : Value) : Prop := ∀ w : World, (Instr.build T parts).run P w = .ok v w
def Env.parts (E : Env) : List (Nat × Operand) → Option (List (Nat × Value))
  | [] => some []
  | (i, x) :: r => match Env.ev E x, Env.parts E r with
    | some v, some vs => some ((i, v) :: vs)
    | _, _ => none
theorem EnvOK.parts {a : Act} (ha : EnvOK N E a) : ∀ {l : List (Nat × Operand)} {vs : List (Nat × Value)}, Env.parts E l = some vs → l.map (fun p => (p.1, a.eval p.2)) = vs
  | [], vs, h => by simpa [Env.parts] using h
  | (i, x) :: r, vs, h => by
    simp only [Env.parts] at h
    cases h1 : Env.ev E x with
    | none => rw [h1] at h; simp at h
    | some v =>
      cases h2 : Env.parts E r with
      | none => rw [h1, h2] at h; simp at h
      | some us =>
        rw [h1, h2] at h
        simp only [Option.some.injEq] at h
        subst h
        simp [ha.ev h1, ha.parts h2]
theorem v_build {l : List (Nat × Operand)} {vs : List (Nat × Value)} {v : Value} (hl : Env.parts E l = some vs) (hb : Build P T vs.toArray v) : OpV P S N E (.build T l.toArray) ty v := fun a w ha _ => by
  have h1 := ha.parts hl
  have h2 : (Array.map (fun p : Nat × Operand => (p.1, a.eval p.2)) l.toArray) = vs.toArray := by simp [h1]
  have h3 := hb w
  simp [execOp, h2, h3, Oper.quietUpon]

/-! ### Equality of arrays of numbers -/
theorem v_eqlA {x y : Operand} {xs ys : Array Value} {p : Prop} [Decidable p] (hx : Env.ev E x = some (.agg xs)) (hy : Env.ev E y = some (.agg ys)) (hgt : P.eqGuardType P.depth T = false) (heq : ∀ w : World, (Op.equal T (.agg xs) (.agg ys)).run P w = .ok (decide p) w) :
    OpV P S N E (.binOp .eql T x y U) ty (.bool (decide p)) := fun a w ha _ => by
  simp [execOp, ha.ev hx, ha.ev hy, eqGuard, binOp, hgt, heq w, Oper.quietUpon]
theorem v_neqA {x y : Operand} {xs ys : Array Value} {p : Prop} [Decidable p] (hx : Env.ev E x = some (.agg xs)) (hy : Env.ev E y = some (.agg ys)) (hgt : P.eqGuardType P.depth T = false) (heq : ∀ w : World, (Op.equal T (.agg xs) (.agg ys)).run P w = .ok (decide p) w) :
    OpV P S N E (.binOp .neq T x y U) ty (.bool (decide (¬ p))) := fun a w ha _ => by
  simp [execOp, ha.ev hx, ha.ev hy, eqGuard, binOp, hgt, heq w, Oper.quietUpon]

theorem run_part_one {e : TypeId} {k : IntKind} (he : P.underlying e = some (.int k)) (xs : List Value) (i : Nat) (v : Value) (h : xs[i]? = some v) (w : World) : (part e xs.toArray i).run P w = .ok v w := by
  have h1 : (isAgg e).run P w = .ok false w := by
    unfold isAgg
    rw [Sem.run_bind, run_underlying he w]
    rfl
  simp [part, Sem.run_bind, h1, h]

theorem run_equalIn_ints {len e : Nat} {k : IntKind} (d : Nat) (hT : P.underlying T = some (.array len e)) (he : P.underlying e = some (.int k)) (hs : (P.info? e).map (·.size) = some 1) (xs ys : List Int) (hx : xs.length = len) (hy : ys.length = len) (w : World) :
    (Op.equalIn (d + 2) T (.agg (xs.map (Value.int k)).toArray) (.agg (ys.map (Value.int k)).toArray)).run P w = .ok (decide (xs = ys)) w := by
  rw [Op.equalIn]
  simp only [Sem.run_bind, run_underlying hT, Result.andThen_ok, run_sizeOf hs]
  rw [Std.Legacy.Range.forIn_eq_forIn_range']
  have key : ∀ m i, i + m = len → (forIn (List.range' i m) (none, ()) (fun i (__s : Option Bool × Unit) => (do
            let __do_lift ← part e (List.map (Value.int k) xs).toArray (i * 1)
            let __do_lift_1 ← part e (List.map (Value.int k) ys).toArray (i * 1)
            let __do_lift ← Op.equalIn (d + 1) e __do_lift __do_lift_1
            if (!__do_lift) = true then pure (ForInStep.done (some false, ())) else pure (ForInStep.yield (none, ())) : Sem (ForInStep (Option Bool × Unit))))).run P w = .ok (if xs.drop i = ys.drop i then (none, ()) else (some false, ())) w := by
    intro m
    induction m with
    | zero =>
      intro i hi
      have h1 : xs.drop i = [] := List.drop_eq_nil_of_le (by omega)
      have h2 : ys.drop i = [] := List.drop_eq_nil_of_le (by omega)
      simp [h1, h2]
    | succ m ih =>
      intro i hi
      have hxi : i < xs.length := by omega
      have hyi : i < ys.length := by omega
      have p1 := run_part_one he (xs.map (Value.int k)) i (.int k xs[i]) (by simp [hxi]) w
      have p2 := run_part_one he (ys.map (Value.int k)) i (.int k ys[i]) (by simp [hyi]) w
      have p3 := run_equalIn_int (P := P) w d e k k xs[i] ys[i] he
      rw [List.range'_succ, List.forIn_cons]
      simp only [Nat.mul_one, Sem.run_bind, p1, p2, p3, Result.andThen_ok]
      have d1 : xs.drop i = xs[i] :: xs.drop (i + 1) := (List.getElem_cons_drop hxi).symm
      have d2 : ys.drop i = ys[i] :: ys.drop (i + 1) := (List.getElem_cons_drop hyi).symm
      have hiff : (xs.drop i = ys.drop i) = (xs[i] = ys[i] ∧ xs.drop (i + 1) = ys.drop (i + 1)) := by rw [d1, d2, List.cons.injEq]
      simp only [hiff]
      by_cases hq : xs[i] = ys[i]
      · simp only [hq, beq_self_eq_true, Bool.not_true, Bool.false_eq_true, if_false, Sem.run_pure, Result.andThen_ok, true_and]
        have := ih (i + 1) (by omega)
        simp only [Nat.mul_one] at this
        rw [this]
      · simp [hq]
  have h0 := key len 0 (by omega)
  simp only [List.drop_zero] at h0
  have hr : (List.range' ([:len] : Std.Legacy.Range).start ([:len] : Std.Legacy.Range).size ([:len] : Std.Legacy.Range).step) = List.range' 0 len := by simp [Std.Legacy.Range.size]
  rw [hr, h0]
  by_cases hq : xs = ys <;> simp [hq]

theorem run_equal_ints {len e : Nat} {k : IntKind} (hT : P.underlying T = some (.array len e)) (he : P.underlying e = some (.int k)) (hs : (P.info? e).map (·.size) = some 1) {xs ys : List Int} (hx : xs.length = len) (hy : ys.length = len) (w : World) :
    (Op.equal T (.agg (xs.map (Value.int k)).toArray) (.agg (ys.map (Value.int k)).toArray)).run P w = .ok (decide (xs = ys)) w := run_equalIn_ints 9998 hT he hs xs ys hx hy w

/-! ### Slices -/
def cutA (ao : Option Addr) (cap l size : Nat) : Option Addr := if cap = l then ao else ao.map fun a => a.add (l * size)
theorem cutA_some {b o cap l size : Nat} (h : l < cap) : cutA (some ⟨b, o, none⟩) cap l size = some ⟨b, o + l * size, none⟩ := by
  simp [cutA, Nat.ne_of_gt h, add_mk]
theorem cutA_zero {ao : Option Addr} {cap size : Nat} : cutA ao cap 0 size = ao := by
  unfold cutA
  split
  · rfl
  · cases ao <;> simp [Addr.add]

theorem v_slice_nn {x : Operand} {ao : Option Addr} {len cap e size : Nat} (hT : P.underlying T = some (.slice e)) (he : (P.info? e).map (·.size) = some size) (hx : Env.ev E x = some (.slice ao len cap)) :
    OpV P S N E (.slice T x none none none) ty (.slice ao len cap) := fun a w ha _ => by
  have h0 : (if cap = 0 then ao else Option.map (fun a => a.add (0 * size)) ao) = ao := cutA_zero
  simp at h0
  simp [execOp, ha.ev hx, Instr.sliceAt, Instr.slice, Instr.sliceBounds, run_underlying hT, run_sizeOf he w, Oper.quietUpon]
  exact h0
theorem v_slice_ln {x y : Operand} {ao : Option Addr} {len cap e size l : Nat} {k : IntKind} {n : Int} (hT : P.underlying T = some (.slice e)) (he : (P.info? e).map (·.size) = some size) (hx : Env.ev E x = some (.slice ao len cap)) (hy : Env.ev E y = some (.int k n)) (hn : n = (l : Int)) (hl : l ≤ len) :
    OpV P S N E (.slice T x (some y) none none) ty (.slice (cutA ao cap l size) (len - l) (cap - l)) := fun a w ha _ => by
  subst hn
  simp [execOp, ha.ev hx, ha.ev hy, Instr.sliceAt, Instr.slice, Instr.sliceBounds, Instr.sliceBound, asIntOf, run_underlying hT, run_sizeOf he w, hl, cutA, Oper.quietUpon]
theorem v_slice_nh {x y : Operand} {ao : Option Addr} {len cap e size h : Nat} {k : IntKind} {n : Int} (hT : P.underlying T = some (.slice e)) (he : (P.info? e).map (·.size) = some size) (hx : Env.ev E x = some (.slice ao len cap)) (hy : Env.ev E y = some (.int k n)) (hn : n = (h : Int)) (hh : h ≤ cap) :
    OpV P S N E (.slice T x none (some y) none) ty (.slice ao h cap) := fun a w ha _ => by
  subst hn
  have h0 : (if cap = 0 then ao else Option.map (fun a => a.add (0 * size)) ao) = ao := cutA_zero
  simp at h0
  simp [execOp, ha.ev hx, ha.ev hy, Instr.sliceAt, Instr.slice, Instr.sliceBounds, Instr.sliceBound, asIntOf, run_underlying hT, run_sizeOf he w, hh, Oper.quietUpon]
  exact h0
theorem v_slice_lh {x y z : Operand} {ao : Option Addr} {len cap e size l h : Nat} {k k' : IntKind} {n m : Int} (hT : P.underlying T = some (.slice e)) (he : (P.info? e).map (·.size) = some size) (hx : Env.ev E x = some (.slice ao len cap)) (hy : Env.ev E y = some (.int k n)) (hz : Env.ev E z = some (.int k' m)) (hn : n = (l : Int)) (hm : m = (h : Int)) (hl : l ≤ h) (hh : h ≤ cap) :
    OpV P S N E (.slice T x (some y) (some z) none) ty (.slice (cutA ao cap l size) (h - l) (cap - l)) := fun a w ha _ => by
  subst hn
  subst hm
  simp [execOp, ha.ev hx, ha.ev hy, ha.ev hz, Instr.sliceAt, Instr.slice, Instr.sliceBounds, Instr.sliceBound, asIntOf, run_underlying hT, run_sizeOf he w, hl, hh, cutA, Oper.quietUpon]
theorem v_sliceA_nn {x : Operand} {b o n e size : Nat} (hT : P.underlying T = some (.array n e)) (he : (P.info? e).map (·.size) = some size) (hx : Env.ev E x = some (.pointer (some ⟨b, o, none⟩))) :
    OpV P S N E (.slice T x none none none) ty (.slice (some ⟨b, o, none⟩) n n) := fun a w ha _ => by
  simp [execOp, ha.ev hx, Instr.sliceAt, Instr.sureAddr, Instr.sliceBounds, run_underlying hT, run_sizeOf he w, Addr.add, Oper.quietUpon]
theorem v_sliceA_ln {x y : Operand} {b o n e size l : Nat} {k : IntKind} {m : Int} (hT : P.underlying T = some (.array n e)) (he : (P.info? e).map (·.size) = some size) (hx : Env.ev E x = some (.pointer (some ⟨b, o, none⟩))) (hy : Env.ev E y = some (.int k m)) (hm : m = (l : Int)) (hl : l ≤ n) :
    OpV P S N E (.slice T x (some y) none none) ty (.slice (cutA (some ⟨b, o, none⟩) n l size) (n - l) (n - l)) := fun a w ha _ => by
  subst hm
  have h1 : cutA (some ⟨b, o, none⟩) n l size = some (if n = l then (⟨b, o, none⟩ : Addr) else (⟨b, o, none⟩ : Addr).add (l * size)) := by unfold cutA; split <;> rfl
  simp [execOp, ha.ev hx, ha.ev hy, Instr.sliceAt, Instr.sureAddr, Instr.sliceBounds, Instr.sliceBound, asIntOf, run_underlying hT, run_sizeOf he w, hl, h1, Oper.quietUpon]
theorem v_sliceA_nh {x y : Operand} {b o n e size h : Nat} {k : IntKind} {m : Int} (hT : P.underlying T = some (.array n e)) (he : (P.info? e).map (·.size) = some size) (hx : Env.ev E x = some (.pointer (some ⟨b, o, none⟩))) (hy : Env.ev E y = some (.int k m)) (hm : m = (h : Int)) (hh : h ≤ n) :
    OpV P S N E (.slice T x none (some y) none) ty (.slice (some ⟨b, o, none⟩) h n) := fun a w ha _ => by
  subst hm
  simp [execOp, ha.ev hx, ha.ev hy, Instr.sliceAt, Instr.sureAddr, Instr.sliceBounds, Instr.sliceBound, asIntOf, run_underlying hT, run_sizeOf he w, hh, Addr.add, Oper.quietUpon]

/-! ### What is copied, or appended -/
/-- the first n elements of x (a slice, a string) are these cells -/
structure Reads (P : Program) (S : World → Prop) (size : Nat) (x : Value) (n : Nat) (vs : List Value) : Prop where
  len : vs.length = n * size
  run : ∀ w, S w → (Builtin.firstCells size n x).run P w = .ok vs.toArray w
theorem Reads.slice {size n len cap : Nat} {p : Addr} {vs : List Value} (hl : vs.length = n * size) (h : ∀ i v, vs[i]? = some v → Cell S (p.add i) v) : Reads P S size (.slice (some p) len cap) n vs :=
  ⟨hl, fun w hw => run_firstCells_some w size n p len cap vs hl fun j v hj => h j v hj w hw⟩
theorem Reads.nil {size n len cap : Nat} (h : n * size = 0) : Reads P S size (.slice none len cap) n [] := ⟨by simp [h], fun w _ => run_firstCells_none w size n len cap⟩
theorem Reads.none {size : Nat} {ao : Option Addr} {len cap : Nat} : Reads P S size (.slice ao len cap) 0 [] := ⟨by simp, fun w _ => by
  cases ao with
  | none => exact run_firstCells_none w size 0 len cap
  | some p => exact run_firstCells_some w size 0 p len cap [] (by simp) (by simp)⟩
/-- out of a block -/
theorem Reads.block {c : Hp} {R : Hp → List Hp} {b off size n len cap : Nat} {o : Obj} {vs : List Value} (hs : Sel G c R) (hm : (b, o) ∈ c) (hg : GetN o off vs) (hl : vs.length = n * size) : Reads P (St B w0 G) size (.slice (some ⟨b, off, Option.none⟩) len cap) n vs := by
  obtain ⟨cs, e, fr, rfl, h⟩ := hg
  exact Reads.slice hl fun i v hv => by rw [add_mk]; exact Cell.of hs hm (h i v hv)

theorem ow_copy {d : Nat} {x y : Operand} {b off dLen dCap sLen sCap e size n : Nat} {so : Option Addr} {o o' : Obj} {vs : List Value} {R : Hp → List Hp} {tys : Array TypeId} {pos : String} {af : Array Edge} {g : Option (Nat × Bool)} {rest : List Oper} (hg : Env.guard E ops g = some true) (hd : Nat.blt d N = true)
    (ht : tys[0]? = some T) (hT : P.underlying T = some (.slice e)) (he : (P.info? e).map (·.size) = some size)
    (hx : Env.ev E x = some (.slice (some ⟨b, off, Option.none⟩) dLen dCap)) (hy : Env.ev E y = some (.slice so sLen sCap)) (hn : Nat.min sLen dLen = n)
    (hr : Reads P (St B w0 G) size (.slice so sLen sCap) n vs) (h1 : ∀ u ∈ vs, u.oneCell' = true) (hs : Sel G [(b, o)] R) (hset : SetN o off vs o')
    (h : OW P ops Q B w0 N (R [(b, o')]) ((d, .int .i64 n) :: E) rest) : OW P ops Q B w0 N G E (⟨some d, .call { callee := .builtin .copy, args := #[x, y], argTypes := tys }, ty, pos, af, g⟩ :: rest) := fun a w ha hw => by
  unfold wpList
  rw [if_pos (ha.guard (o := ⟨some d, .call { callee := .builtin .copy, args := #[x, y], argTypes := tys }, ty, pos, af, g⟩) hg)]
  obtain ⟨cs, e', rfl, hl, rfl⟩ := hset
  have hb := hw.read hs (List.Mem.head _)
  have h2 := run_storeCells_at P b off e' vs 0 cs w hb (by simpa using hl) h1
  have h2' : (storeCells ⟨b, off, Option.none⟩ vs).run P w = .ok () (w.setRow b (splice cs.toList off vs).toArray) := by simpa [splice] using h2
  refine .inl ?_
  unfold Oper.wp
  have h3 : (execOp a.eval ⟨some d, .call { callee := .builtin .copy, args := #[x, y], argTypes := tys }, ty, pos, af, g⟩).run P w = .ok (.value (.int .i64 n)) (w.setRow b (splice cs.toList off vs).toArray) := by
    have h4 := hr.run w hw
    simp [execOp, resolve, ha.ev hx, ha.ev hy, invoke, builtin, Builtin.copy_, ht, run_underlying hT, Builtin.lenOf, run_sizeOf he w, h4, h2', goInt, hn]
  rw [h3]
  exact h _ _ (ha.put (by simpa using hd) _) (hw.setRow hs)

/-! ### Appends -/
/-- a slice that the call owns: its value, its chunk, its cells -/
inductive IsSl (e : TypeId) (size : Nat) : Value → Hp → Nat → List Value → Prop where
  | nil : IsSl e size (.slice none 0 0) [] 0 []
  | row {b n cap : Nat} {pre xs spare post : List Value} (hx : xs.length = n * size) (hs : spare.length = (cap - n) * size) (hn : n ≤ cap) :
      IsSl e size (.slice (some ⟨b, pre.length, Option.none⟩) n cap) [(b, .cells (pre ++ (xs ++ (spare ++ post))).toArray e (0, 0))] n xs

theorem IsSl.drop {e : TypeId} {size : Nat} {ao : Option Addr} {n cap l : Nat} {c : Hp} {xs : List Value} (h : IsSl e size (.slice ao n cap) c n xs) (hl : l ≤ n) (hpos : 0 < l) :
    IsSl e size (.slice (cutA ao cap l size) (n - l) (cap - l)) c (n - l) (xs.drop (l * size)) := by
  cases h with
  | nil => omega
  | @row b n cap pre xs spare post hx hs hn =>
    have h1 : l * size ≤ xs.length := by rw [hx]; exact Nat.mul_le_mul_right _ hl
    have h2 : xs = xs.take (l * size) ++ xs.drop (l * size) := (List.take_append_drop _ _).symm
    by_cases hc : cap = l
    · subst hc
      have hn2 : n = cap := by omega
      subst hn2
      have h3 : xs.drop (n * size) = [] := by apply List.drop_eq_nil_of_le; omega
      have h4 : cutA (some ⟨b, pre.length, Option.none⟩) n n size = some ⟨b, pre.length, Option.none⟩ := by simp [cutA]
      rw [h3, h4, Nat.sub_self]
      exact IsSl.row (pre := pre) (xs := []) (spare := []) (post := xs ++ (spare ++ post)) (by simp) (by simp) (Nat.le_refl _)
    · have h4 : cutA (some ⟨b, pre.length, Option.none⟩) cap l size = some ⟨b, pre.length + l * size, Option.none⟩ := cutA_some (by omega)
      have h5 : pre.length + l * size = (pre ++ xs.take (l * size)).length := by simp; omega
      have h6 : pre ++ (xs ++ (spare ++ post)) = (pre ++ xs.take (l * size)) ++ (xs.drop (l * size) ++ (spare ++ post)) := by
        rw [List.append_assoc, ← List.append_assoc (xs.take (l * size)), List.take_append_drop]
      rw [h4, h5, h6]
      exact IsSl.row (by simp [hx, Nat.sub_mul]) (by rw [hs]; congr 1; omega) (by omega)

structure Elem (P : Program) (e : TypeId) (size bytes : Nat) : Prop where
  info : ∃ i, P.info? e = some i ∧ i.size = size ∧ i.bytes = bytes ∧ ∃ z, i.zero = some z ∧ z.cells.size = size

theorem zeroCells_size (zero : Array Value) (n : Nat) : (Builtin.zeroCells zero n).size = n * zero.size := by simp [Builtin.zeroCells]

theorem IsSl.length {e : TypeId} {size : Nat} {v : Value} {c : Hp} {n : Nat} {xs : List Value} (h : IsSl e size v c n xs) : xs.length = n * size := by
  cases h with
  | nil => simp
  | row hx _ _ => exact hx

/-- no room: a new block -/
theorem run_append_new {a : Act} {x y : Operand} {e size bytes n m cap : Nat} {so : Option Addr} {yv : Value} {xs ys : List Value} {pos : String} {af : Array Edge} {g : Option (Nat × Bool)} {d : Option Nat} {w : World}
    (hT : P.underlying T = some (.slice e)) (hU : P.underlying U = some (.slice e)) {i : TypeInfo} {z : Value} (hi : P.info? e = some i) (his : i.size = size) (hib : i.bytes = bytes) (hz : i.zero = some z)
    (hx : a.eval x = .slice so n cap) (hy : a.eval y = yv) (hm : (Builtin.lenOf yv).run P w = .ok m w) (hold : (Builtin.firstCells size n (.slice so n cap)).run P w.drew = .ok xs.toArray w.drew) (hnew : (Builtin.firstCells size m yv).run P w.drew = .ok ys.toArray w.drew)
    (hroom : cap < n + m) (h47 : (n + m) * bytes ≤ 140737488355328) (h63 : n + m ≤ 9223372036854775807) :
    ∃ c', n + m ≤ c' ∧ (execOp a.eval ⟨d, .call { callee := .builtin .append, args := #[x, y], argTypes := #[T, U] }, ty, pos, af, g⟩).run P w =
      .ok (.value (.slice (some ⟨w.heap.size, 0, Option.none⟩) (n + m) c')) (w.drew.alloc (.cells ((xs ++ (ys ++ (Builtin.zeroCells z.cells (c' - (n + m))).toList)).toArray) e)) := by
  subst his
  subst hib
  have hn : ¬ (n + m ≤ cap) := by omega
  have h63' : ¬ (9223372036854775807 < ((n : Int) + (m : Int))) := by omega
  have hfit : Builtin.nextslicecap (n + m) cap * i.bytes ≤ 281474976710656 := growslice_fits hroom h47
  have h48' : ¬ (281474976710656 < Builtin.nextslicecap (n + m) cap * i.bytes) := by omega
  refine ⟨n + m + w.tape w.drawn (.appendCap (n + m) cap e) % (9223372036854775808 - (n + m)), by omega, ?_⟩
  have hsz : ∀ v : World, (sizeOf e).run P v = .ok i.size v := fun v => run_sizeOf (by rw [hi]; rfl) v
  simp [execOp, resolve, hx, hy, invoke, builtin, Builtin.append_, run_underlying hT, run_underlying hU, hm, hn, hsz, h63', h48', typeInfo, hi, Question.forced, Question.cut, askRoom, hold, hnew, zeroValue, hz, newRow]
  congr 2
  apply Array.ext'
  simp

/-- room: in place -/
theorem run_append_in {a : Act} {x y : Operand} {e size n m cap b o : Nat} {yv : Value} {ys : List Value} {cs : Array Value} {e' : TypeId} {pos : String} {af : Array Edge} {g : Option (Nat × Bool)} {d : Option Nat} {w : World}
    (hT : P.underlying T = some (.slice e)) (hU : P.underlying U = some (.slice e)) (hsz : (P.info? e).map (·.size) = some size)
    (hx : a.eval x = .slice (some ⟨b, o, Option.none⟩) n cap) (hy : a.eval y = yv) (hm : (Builtin.lenOf yv).run P w = .ok m w) (hnew : (Builtin.firstCells size m yv).run P w = .ok ys.toArray w)
    (hroom : n + m ≤ cap) (hb : w.heap[b]? = some (.cells cs e' (0, 0))) (hl : o + n * size + ys.length ≤ cs.size) (h1 : ∀ u ∈ ys, u.oneCell' = true) :
    (execOp a.eval ⟨d, .call { callee := .builtin .append, args := #[x, y], argTypes := #[T, U] }, ty, pos, af, g⟩).run P w =
      .ok (.value (.slice (some ⟨b, o, Option.none⟩) (n + m) cap)) (w.setRow b (splice cs.toList (o + n * size) ys).toArray) := by
  have h2 := run_storeCells_at P b (o + n * size) e' ys 0 cs w hb (by simpa using hl) h1
  have h2' : (storeCells ⟨b, o + n * size, Option.none⟩ ys).run P w = .ok () (w.setRow b (splice cs.toList (o + n * size) ys).toArray) := by simpa [splice] using h2
  simp [execOp, resolve, hx, hy, invoke, builtin, Builtin.append_, run_underlying hT, run_underlying hU, hm, hroom, run_sizeOf hsz, hnew, add_mk, h2']

/-- append(s, y...): s is owned, y is read -/
theorem ow_append {d : Nat} {x y : Operand} {e size bytes n m : Nat} {sv yv : Value} {c : Hp} {xs ys : List Value} {R : Hp → List Hp} {pos : String} {af : Array Edge} {g : Option (Nat × Bool)} {rest : List Oper} (hg : Env.guard E ops g = some true) (hd : Nat.blt d N = true)
    (hT : P.underlying T = some (.slice e)) (hU : P.underlying U = some (.slice e)) (he : Elem P e size bytes)
    (hx : Env.ev E x = some sv) (hy : Env.ev E y = some yv) (hm : ∀ w : World, (Builtin.lenOf yv).run P w = .ok m w)
    (hsl : IsSl e size sv c n xs) (hs : Sel G c R) (hr : Reads P (St B w0 G) size yv m ys) (h1 : ∀ u ∈ ys, u.oneCell' = true) (h47 : (n + m) * bytes ≤ 140737488355328) (h63 : n + m ≤ 9223372036854775807)
    (h : ∀ v' c', IsSl e size v' c' (n + m) (xs ++ ys) → OW P ops Q B w0 N (R c') ((d, v') :: E) rest) :
    OW P ops Q B w0 N G E (⟨some d, .call { callee := .builtin .append, args := #[x, y], argTypes := #[T, U] }, ty, pos, af, g⟩ :: rest) := fun a w ha hw => by
  unfold wpList
  rw [if_pos (ha.guard (o := ⟨some d, .call { callee := .builtin .append, args := #[x, y], argTypes := #[T, U] }, ty, pos, af, g⟩) hg)]
  refine .inl ?_
  unfold Oper.wp
  obtain ⟨i, hi, his, hib, z, hz, hzs⟩ := he.info
  have hsz : (P.info? e).map (·.size) = some size := by rw [hi]; simp [his]
  obtain ⟨F, hp1, hp2⟩ := hs.perm
  -- the new block
  have fresh : ∀ {so : Option Addr} {cap : Nat}, sv = .slice so n cap → cap < n + m → xs.length = n * size → (Builtin.firstCells size n (.slice so n cap)).run P w.drew = .ok xs.toArray w.drew →
      Oper.upon P ⟨some d, .call { callee := .builtin .append, args := #[x, y], argTypes := #[T, U] }, ty, pos, af, g⟩ a (wpList P ops Q rest) Q
        ((execOp a.eval ⟨some d, .call { callee := .builtin .append, args := #[x, y], argTypes := #[T, U] }, ty, pos, af, g⟩).run P w) := by
    intro so cap hsv hroom hxl hold
    obtain ⟨c', hc', hrun⟩ := run_append_new (ty := ty) (pos := pos) (af := af) (g := g) (d := some d) hT hU hi his hib hz ((ha.ev hx).trans hsv) (ha.ev hy) (hm w) hold (hr.run _ hw.drew) hroom h47 h63
    rw [hrun]
    have hrow := IsSl.row (e := e) (size := size) (b := w.heap.size) (n := n + m) (cap := c') (pre := []) (xs := xs ++ ys) (spare := (Builtin.zeroCells z.cells (c' - (n + m))).toList) (post := [])
      (by simp [hxl, hr.len, Nat.add_mul]) (by simp [zeroCells_size, hzs]) hc'
    refine h _ _ hrow _ _ (ha.put (by simpa using hd) _) ?_
    refine St.perm ?_ (hp2 _).symm
    have hst := (hw.drew.perm hp1).new (.cells ((xs ++ (ys ++ (Builtin.zeroCells z.cells (c' - (n + m))).toList)).toArray) e)
    have hst2 := hst.weak (G' := [(w.drew.heap.size, .cells ((xs ++ (ys ++ (Builtin.zeroCells z.cells (c' - (n + m))).toList)).toArray) e (0, 0))] :: F) ((List.sublist_cons_self c F).cons_cons _)
    simpa using hst2
  cases hsl with
  | nil =>
    by_cases h0 : m = 0
    · subst h0
      have hys : ys = [] := by have := hr.len; simp at this; exact this
      subst hys
      have h3 : (execOp a.eval ⟨some d, .call { callee := .builtin .append, args := #[x, y], argTypes := #[T, U] }, ty, pos, af, g⟩).run P w = .ok (.value (.slice none 0 0)) w := by
        have hrd := hr.run w hw
        have hm' := hm w
        simp [execOp, resolve, ha.ev hx, ha.ev hy, invoke, builtin, Builtin.append_, run_underlying hT, run_underlying hU, hm', run_sizeOf hsz w, hrd]
      rw [h3]
      refine h _ _ IsSl.nil _ _ (ha.put (by simpa using hd) _) ?_
      rw [hs.eq]
      exact hw
    · exact fresh (so := none) (cap := 0) rfl (by omega) (by simp) (run_firstCells_none _ size 0 0 0)
  | @row b n cap pre xs spare post hx' hsp hn =>
    by_cases hroom : n + m ≤ cap
    · have hb := hw.read hs (List.Mem.head _)
      have hlen : pre.length + n * size + ys.length ≤ (pre ++ (xs ++ (spare ++ post))).toArray.size := by
        have h5 : m * size ≤ (cap - n) * size := Nat.mul_le_mul_right _ (by omega)
        have h6 := hr.len
        simp only [List.size_toArray, List.length_append]
        omega
      rw [run_append_in (ty := ty) (pos := pos) (af := af) (g := g) (d := some d) hT hU hsz (ha.ev hx) (ha.ev hy) (hm w) (hr.run w hw) hroom hb hlen h1]
      have hrow := IsSl.row (e := e) (size := size) (b := b) (n := n + m) (cap := cap) (pre := pre) (xs := xs ++ ys) (spare := spare.drop ys.length) (post := post)
        (by simp [hx', hr.len, Nat.add_mul]) (by simp [hsp, hr.len, ← Nat.sub_mul, Nat.sub_add_eq]) hroom
      refine h _ _ hrow _ _ (ha.put (by simpa using hd) _) ?_
      have hst := hw.setRow (cs' := (splice (pre ++ (xs ++ (spare ++ post))) (pre.length + n * size) ys).toArray) hs
      have hsp2 : splice (pre ++ (xs ++ (spare ++ post))) (pre.length + n * size) ys = pre ++ ((xs ++ ys) ++ (spare.drop ys.length ++ post)) := by
        have h5 : m * size ≤ (cap - n) * size := Nat.mul_le_mul_right _ (by omega)
        have h6 : ys.length ≤ spare.length := by rw [hsp, hr.len]; exact h5
        simp only [splice, ← hx', List.append_assoc]
        have h7 : pre.length + xs.length + ys.length = (pre ++ xs).length + ys.length := by simp
        have h8 : pre.length + xs.length = (pre ++ xs).length := by simp
        rw [h7, h8, ← List.append_assoc pre xs (spare ++ post), List.take_left, List.drop_append, List.drop_eq_nil_of_le (by omega), Nat.add_sub_cancel_left, List.drop_append_of_le_length h6]
        simp
      rw [hsp2] at hst
      show St B w0 _ (w.setRow b (splice (pre ++ (xs ++ (spare ++ post))) (pre.length + n * size) ys).toArray)
      rw [hsp2]
      exact hst
    · have hold : (Builtin.firstCells size n (.slice (some ⟨b, pre.length, Option.none⟩) n cap)).run P w.drew = .ok xs.toArray w.drew :=
        (Reads.block (P := P) (len := n) (cap := cap) hs (List.Mem.head _) (GetN.part rfl) hx').run _ hw.drew
      exact fresh rfl (by omega) hx' hold

/-- []T{..}: a new block -/
theorem ow_buildSlice {d len e size : Nat} {l : List (Nat × Operand)} {vs : List (Nat × Value)} {cells : List Value} {pos : String} {af : Array Edge} {g : Option (Nat × Bool)} {rest : List Oper} (hg : Env.guard E ops g = some true) (hd : Nat.blt d N = true)
    (hl : Env.parts E l = some vs) (hb : ∀ w : World, (Instr.buildSlice T len vs.toArray).run P w = .ok (.slice (some ⟨w.heap.size, 0, none⟩) len len) (w.alloc (.cells cells.toArray e)))
    (hsize : cells.length = len * size)
    (h : ∀ b, IsSl e size (.slice (some ⟨b, 0, none⟩) len len) [(b, .cells cells.toArray e (0, 0))] len cells → OW P ops Q B w0 N ([(b, .cells cells.toArray e (0, 0))] :: G) ((d, .slice (some ⟨b, 0, none⟩) len len) :: E) rest) :
    OW P ops Q B w0 N G E (⟨some d, .buildSlice T len l.toArray, ty, pos, af, g⟩ :: rest) := fun a w ha hw => by
  unfold wpList
  rw [if_pos (ha.guard (o := ⟨some d, .buildSlice T len l.toArray, ty, pos, af, g⟩) hg)]
  refine .inl ?_
  unfold Oper.wp
  have h1 := ha.parts hl
  have h2 : (Array.map (fun p : Nat × Operand => (p.1, a.eval p.2)) l.toArray) = vs.toArray := by simp [h1]
  have h3 : (execOp a.eval ⟨some d, .buildSlice T len l.toArray, ty, pos, af, g⟩).run P w = .ok (.value (.slice (some ⟨w.heap.size, 0, none⟩) len len)) (w.alloc (.cells cells.toArray e)) := by
    simp [execOp, h2, hb w]
  rw [h3]
  have hrow := IsSl.row (e := e) (size := size) (b := w.heap.size) (n := len) (cap := len) (pre := []) (xs := cells) (spare := []) (post := []) hsize (by simp) (Nat.le_refl _)
  simp only [List.nil_append, List.append_nil, List.length_nil] at hrow
  exact h w.heap.size hrow _ _ (ha.put (by simpa using hd) _) (hw.new _)

/-! ### Facts on types -/
theorem Scalar.of {d : TypeDesc} (hT : P.underlying T = some d) (hd : (match d with | .struct _ | .array _ _ => false | _ => true) = true) (hs : (P.info? T).map (·.size) = some 1) : Scalar P T :=
  ⟨fun w => by
    unfold isAgg
    rw [Sem.run_bind, run_underlying hT w]
    cases d <;> simp_all, hs⟩
theorem Agg.of {d : TypeDesc} {n : Nat} (hT : P.underlying T = some d) (hd : (match d with | .struct _ | .array _ _ => true | _ => false) = true) (hs : (P.info? T).map (·.size) = some n) : Agg P T n :=
  ⟨fun w => by
    unfold isAgg
    rw [Sem.run_bind, run_underlying hT w]
    cases d <;> simp_all, hs⟩
theorem Zero.of {z : Value} {zs : List Value} (h : (P.info? T).bind (·.zero) = some z) (hz : z.cells = zs.toArray) : Zero P T zs :=
  ⟨fun w => ⟨z, by
    cases hq : P.info? T with
    | none => rw [hq] at h; simp at h
    | some i =>
      rw [hq] at h
      simp only [Option.bind_some] at h
      simp [zeroValue, typeInfo, hq, h], hz⟩⟩
theorem Elem.of {e : TypeId} {size bytes : Nat} (h : (P.info? e).map (fun i => (i.size, i.bytes, i.zero.map fun z => z.cells.size)) = some (size, bytes, some size)) : Elem P e size bytes :=
  ⟨by
    cases hq : P.info? e with
    | none => rw [hq] at h; simp at h
    | some i =>
      rw [hq] at h
      simp only [Option.map_some, Option.some.injEq, Prod.mk.injEq, Option.map_eq_some_iff] at h
      obtain ⟨h1, h2, z, h3, h4⟩ := h
      exact ⟨i, rfl, h1, h2, z, h3, h4⟩⟩

end Go.Sl
