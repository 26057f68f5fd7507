/- More rules for lists in memory: composite slices, three indexes, zeros appended, overlaps. Conditions: none; nothing here speaks of a given program. -/
import Derived.Test.YtckdhelnafjddaaLs
import Derived.Laws.Externs
import Derived.Laws.Cover3
import Derived.Lib.Overlaps
namespace Go.Sl
set_option linter.unusedVariables false
set_option linter.unusedSimpArgs false
open Go.RowKit Go

variable {P : Program} {ops : Array Oper} {Q : Exit → Act → World → Prop} {B : Nat} {w0 : World} {N : Nat} {G : List Hp} {E : Env} {S : World → Prop} {ty T U : TypeId}

theorem v_slice_lhm {x y z u : Operand} {ao : Option Addr} {len cap e size l h m : Nat} {k k' k'' : IntKind} {n n' n'' : Int} (hT : P.underlying T = some (.slice e)) (he : (P.info? e).map (·.size) = some size) (hx : Env.ev E x = some (.slice ao len cap)) (hy : Env.ev E y = some (.int k n)) (hz : Env.ev E z = some (.int k' n')) (hu : Env.ev E u = some (.int k'' n'')) (hn : n = (l : Int)) (hn' : n' = (h : Int)) (hn'' : n'' = (m : Int)) (hl : l ≤ h) (hh : h ≤ m) (hm : m ≤ cap) :
    OpV P S N E (.slice T x (some y) (some z) (some u)) ty (.slice (if m = l then ao else ao.map fun a => a.add (l * size)) (h - l) (m - l)) := fun a w ha _ => by
  subst hn
  subst hn'
  subst hn''
  simp [execOp, ha.ev hx, ha.ev hy, ha.ev hz, ha.ev hu, Instr.sliceAt, Instr.slice, Instr.sliceBounds, Instr.sliceBound, asIntOf, run_underlying hT, run_sizeOf he w, hl, hh, hm, Oper.quietUpon]

theorem v_eql_slnil {x : Operand} {e n c : Nat} {ao : Option Addr} (hT : P.underlying T = some (.slice e)) (hx : Env.ev E x = some (.slice ao n c)) : OpV P S N E (.binOp .eql T x (.const (.slice none 0 0)) U) ty (.bool ao.isNone) := fun a w ha _ => by
  have h := run_equal_slice_nil (P := P) w T e ao n c hT
  simp [execOp, ha.ev hx, ha.ev (x := .const (.slice none 0 0)) rfl, eqGuard, binOp, h, Oper.quietUpon]
theorem v_neq_slnil {x : Operand} {e n c : Nat} {ao : Option Addr} (hT : P.underlying T = some (.slice e)) (hx : Env.ev E x = some (.slice ao n c)) : OpV P S N E (.binOp .neq T x (.const (.slice none 0 0)) U) ty (.bool ao.isSome) := fun a w ha _ => by
  have h := run_equal_slice_nil (P := P) w T e ao n c hT
  cases ao <;> simp [execOp, ha.ev hx, ha.ev (x := .const (.slice none 0 0)) rfl, eqGuard, binOp, h, Oper.quietUpon]

/-! ### Composite slices -/
theorem foldl_set (off : Nat) : ∀ (vs : List Value) (k : Nat) (cells : Array Value), off + k + vs.length ≤ cells.size →
    ((vs.zipIdx k).foldl (fun cs (p : Value × Nat) => cs.setIfInBounds (off + p.2) p.1) cells) = (cells.toList.take (off + k) ++ (vs ++ cells.toList.drop (off + k + vs.length))).toArray := by
  intro vs
  induction vs with
  | nil => intro k cells h; simp
  | cons c r ih =>
    intro k cells h
    simp only [List.length_cons] at h
    simp only [List.zipIdx_cons, List.foldl_cons]
    rw [ih (k + 1) _ (by simp; omega)]
    congr 1
    simp only [Array.toList_setIfInBounds, List.length_cons]
    rw [List.set_eq_take_append_cons_drop, if_pos (by simp; omega)]
    have h1 : (cells.toList.take (off + k)).length = off + k := by simp; omega
    have e1 : List.take (off + (k + 1)) (List.take (off + k) cells.toList ++ c :: List.drop (off + k + 1) cells.toList) = List.take (off + k) cells.toList ++ [c] := by
      rw [show off + (k + 1) = (List.take (off + k) cells.toList).length + 1 by omega, List.take_append, List.take_of_length_le (by omega)]
      simp
    have e2 : List.drop (off + (k + 1) + r.length) (List.take (off + k) cells.toList ++ c :: List.drop (off + k + 1) cells.toList) = List.drop (off + k + (r.length + 1)) cells.toList := by
      rw [List.drop_append, List.drop_eq_nil_of_le (by omega), h1, List.nil_append, show off + (k + 1) + r.length - (off + k) = r.length + 1 by omega, List.drop_succ_cons, List.drop_drop]
      congr 1
      omega
    rw [e1, e2]
    simp

theorem fill_all {size : Nat} : ∀ (vs : List Value) (k : Nat) (pre : List Value) (cells : Array Value), pre.length = k * size → (∀ v ∈ vs, v.cells.size = size) → cells.toList.take (k * size) = pre → cells.size = (k + vs.length) * size →
    Instr.fill (fun i => some (i * size, size)) cells ((vs.zipIdx k).map fun p => (p.2, p.1)) = some (pre ++ vs.flatMap fun v => v.cells.toList).toArray := by
  intro vs
  induction vs with
  | nil =>
    intro k pre cells hp _ ht hs
    simp only [List.zipIdx_nil, List.map_nil, Instr.fill, List.flatMap_nil, List.append_nil]
    congr 1
    rw [← ht, List.take_of_length_le (by simp at hs ⊢; omega)]
  | cons v r ih =>
    intro k pre cells hp hv ht hs
    have h1 := hv v (by simp)
    have h2 : (k + 1) * size ≤ cells.size := by
      rw [hs]; exact Nat.mul_le_mul_right _ (by simp)
    rw [Nat.succ_mul] at h2
    simp only [List.zipIdx_cons, List.map_cons, Instr.fill]
    rw [if_neg (by simp [h1]; omega)]
    have h3 := foldl_set (k * size) v.cells.toList 0 cells (by simp; omega)
    have h4 : Array.foldl (fun cs (x : Value × Nat) => match x with | (c, j) => cs.setIfInBounds (k * size + j) c) cells v.cells.zipIdx = (cells.toList.take (k * size + 0) ++ (v.cells.toList ++ cells.toList.drop (k * size + 0 + v.cells.toList.length))).toArray := by
      rw [← h3, ← Array.foldl_toList]
      simp
    have h5 := ih (k + 1) (pre ++ v.cells.toList) (cells.toList.take (k * size + 0) ++ (v.cells.toList ++ cells.toList.drop (k * size + 0 + v.cells.toList.length))).toArray (by simp [hp, h1, Nat.succ_mul]) (fun u hu => hv u (by simp [hu])) (by
      simp only [Nat.add_zero, ht]
      rw [← List.append_assoc, List.take_append_of_le_length (by simp [hp, h1, Nat.succ_mul])]
      rw [List.take_of_length_le (by simp [hp, h1, Nat.succ_mul])]) (by
      simp only [List.size_toArray, List.length_append, List.length_take, List.length_drop, Array.length_toList, h1]
      rw [hs] at h2 ⊢
      simp only [List.length_cons] at h2 ⊢
      have e1 : (k + 1 + r.length) * size = (k + (r.length + 1)) * size := by congr 1; omega
      rw [e1]
      omega)
    simp only [List.flatMap_cons, ← List.append_assoc]
    rw [← h5]
    congr 1

theorem run_buildSlice {e size : Nat} {z : Value} {i : TypeInfo} (hT : P.underlying T = some (.slice e)) (hi : P.info? e = some i) (his : i.size = size) (hz : i.zero = some z) (hzs : z.cells.size = size) (vs : List Value) (hv : ∀ v ∈ vs, v.cells.size = size) (hbig : vs.length * size ≤ 16777216) (w : World) :
    (Instr.buildSlice T vs.length ((vs.zipIdx).map fun p => (p.2, p.1)).toArray).run P w = .ok (.slice (some ⟨w.heap.size, 0, none⟩) vs.length vs.length) (w.alloc (.cells (vs.flatMap fun v => v.cells.toList).toArray e)) := by
  have hsz : (P.info? e).map (·.size) = some size := by rw [hi]; simp [his]
  have hn : ¬ (2 ^ 24 < vs.length * size) := by omega
  have hf : ∀ cells : Array Value, cells.size = vs.length * size → Instr.fill (fun i => some (i * size, size)) cells ((vs.zipIdx).map fun p => (p.2, p.1)) = some (vs.flatMap fun v => v.cells.toList).toArray := fun cells hc => by
    have := fill_all (size := size) vs 0 [] cells (by simp) hv (by simp) (by simpa using hc)
    simpa using this
  unfold Instr.buildSlice
  simp only [Sem.run_bind, run_underlying hT, Result.andThen_ok, run_sizeOf hsz]
  by_cases h0 : vs.length * size = 0
  · have := hf (Array.map (fun _ => (default : Value)) (Array.range 0)) (by simp [h0])
    simp [h0, this, newRow]
  · have h1 : ∀ zz : Array Value, ((Array.range (vs.length * size)).map fun j => zz[j % zz.size]!).size = vs.length * size := by simp
    simp [h0, hn, zeroValue, typeInfo, hi, hz, hf _ (h1 _), newRow]

/-- []T{a, b, ..} -/
theorem ow_buildL {α : Type} {En : Enc α} {d len e bytes : Nat} {l : List (Nat × Operand)} {es : List α} {pos : String} {af : Array Edge} {g : Option (Nat × Bool)} {rest : List Oper} (hg : Env.guard E ops g = some true) (hd : Nat.blt d N = true)
    (hT : P.underlying T = some (.slice e)) (he : Elem P e En.size bytes) (hen : EncTy P e En) (hlen : len = es.length) (hl : Env.parts E l = some (((es.map En.val).zipIdx).map fun p => (p.2, p.1))) (ha : ∀ a ∈ es, En.ok a) (hbig : es.length * En.size ≤ 16777216)
    (h : ∀ ao c, Ls En e (.slice ao es.length es.length) c es → OW P ops Q B w0 N (c :: G) ((d, .slice ao es.length es.length) :: E) rest) :
    OW P ops Q B w0 N G E (⟨some d, .buildSlice T len l.toArray, ty, pos, af, g⟩ :: rest) := by
  subst hlen
  obtain ⟨i, hi, his, hib, z, hz, hzs⟩ := he.info
  have hfm : ∀ bs : List α, (∀ a ∈ bs, En.ok a) → (bs.map En.val).flatMap (fun v => v.cells.toList) = bs.flatMap En.f := by
    intro bs hbs
    induction bs with
    | nil => rfl
    | cons b bs ih => simp [hen.cells b (hbs b (by simp)), ih (fun a ha => hbs a (by simp [ha]))]
  have hcs : ∀ v ∈ es.map En.val, v.cells.size = En.size := by
    intro v hv
    obtain ⟨a, h1, rfl⟩ := List.mem_map.1 hv
    have := hen.len a (ha a h1)
    rw [← hen.cells a (ha a h1)] at this
    simpa using this
  refine ow_buildSlice (e := e) (size := En.size) (cells := es.flatMap En.f) hg hd hl (fun w => ?_) (fm_len fun a h1 => hen.len a (ha a h1)) fun b hb => h _ _ ⟨hb, ha⟩
  have := run_buildSlice hT hi his hz hzs (es.map En.val) hcs (by simpa using hbig) w
  rw [hfm es ha] at this
  simpa using this

theorem sw_buildL {α : Type} {En : Enc α} {d len e bytes : Nat} {l : List (Nat × Operand)} {es : List α} {pos : String} {af : Array Edge} {g : Option (Nat × Bool)} {rest tail : List Oper} (hg : Env.guard E ops g = some true) (hd : Nat.blt d N = true)
    (hT : P.underlying T = some (.slice e)) (he : Elem P e En.size bytes) (hen : EncTy P e En) (hlen : len = es.length) (hl : Env.parts E l = some (((es.map En.val).zipIdx).map fun p => (p.2, p.1))) (ha : ∀ a ∈ es, En.ok a) (hbig : es.length * En.size ≤ 16777216)
    (h : ∀ ao c, Ls En e (.slice ao es.length es.length) c es → SW P ops Q B w0 N (c :: G) ((d, .slice ao es.length es.length) :: E) rest tail) :
    SW P ops Q B w0 N G E (⟨some d, .buildSlice T len l.toArray, ty, pos, af, g⟩ :: rest) tail := by
  subst hlen
  obtain ⟨i, hi, his, hib, z, hz, hzs⟩ := he.info
  have hfm : ∀ bs : List α, (∀ a ∈ bs, En.ok a) → (bs.map En.val).flatMap (fun v => v.cells.toList) = bs.flatMap En.f := by
    intro bs hbs
    induction bs with
    | nil => rfl
    | cons b bs ih => simp [hen.cells b (hbs b (by simp)), ih (fun a ha => hbs a (by simp [ha]))]
  have hcs : ∀ v ∈ es.map En.val, v.cells.size = En.size := by
    intro v hv
    obtain ⟨a, h1, rfl⟩ := List.mem_map.1 hv
    have := hen.len a (ha a h1)
    rw [← hen.cells a (ha a h1)] at this
    simpa using this
  have hlf : (es.flatMap En.f).length = es.length * En.size := fm_len fun a h1 => hen.len a (ha a h1)
  refine sw_new (vs := es.flatMap En.f) (e := e) (fun b => .slice (some ⟨b, 0, none⟩) es.length es.length) hg hd (fun a w hE hw => ?_) fun b => ?_
  · have h1 := hE.parts hl
    have h2 : (Array.map (fun p : Nat × Operand => (p.1, a.eval p.2)) l.toArray) = (((es.map En.val).zipIdx).map fun p => (p.2, p.1)).toArray := by simp [h1]
    have h3 := run_buildSlice hT hi his hz hzs (es.map En.val) hcs (by simpa using hbig) w
    rw [hfm es ha] at h3
    have h4 : (Instr.buildSlice T es.length (((es.map En.val).zipIdx).map fun p => (p.2, p.1)).toArray).run P w = .ok (.slice (some ⟨w.heap.size, 0, none⟩) es.length es.length) (w.alloc (.cells (es.flatMap En.f).toArray e)) := by simpa using h3
    simp only [execOp, h2, Sem.run_bind, h4, Result.andThen_ok, Sem.run_pure]
  · have hrow := IsSl.row (e := e) (size := En.size) (b := b) (n := es.length) (cap := es.length) (pre := []) (xs := es.flatMap En.f) (spare := []) (post := []) hlf (by simp) (Nat.le_refl _)
    simp only [List.nil_append, List.append_nil, List.length_nil] at hrow
    exact h _ _ ⟨hrow, ha⟩

/-! ### append(s, make([]T, n)...) -/
theorem ow_appendZ {d : Nat} {x y : Operand} {k : IntKind} {e size bytes n m cap : Nat} {ao : Option Addr} {mi : Int} {c : Hp} {xs : List Value} {R : Hp → List Hp} {pos : String} {af : Array Edge} {g : Option (Nat × Bool)} {rest : List Oper} (hg : Env.guard E ops g = some true) (hd : Nat.blt d N = true)
    (hT : P.underlying T = some (.slice e)) (hU : P.underlying U = some (.int k)) (he : Elem P e size bytes)
    (hx : Env.ev E x = some (.slice ao n cap)) (hy : Env.ev E y = some (.int k mi)) (hmi : mi = (m : Int)) (hm0 : 0 < m) (hsl : IsSl e size (.slice ao n cap) c n xs) (hs : Sel G c R) (hroom : cap < n + m) (h47 : (n + m) * bytes ≤ 140737488355328) (h63 : n + m ≤ 9223372036854775807)
    (h : ∀ ao' cap' c' ys, ys.length = m * size → n + m ≤ cap' → IsSl e size (.slice ao' (n + m) cap') c' (n + m) (xs ++ ys) → OW P ops Q B w0 N (c' :: G) ((d, .slice ao' (n + m) cap') :: E) rest) :
    OW P ops Q B w0 N G E (⟨some d, .call { callee := .builtin .append, args := #[x, y], argTypes := #[T, U] }, ty, pos, af, g⟩ :: rest) := fun a w ha hw => by
  subst hmi
  unfold wpList
  rw [if_pos (ha.guard (o := ⟨some d, .call { callee := .builtin .append, args := #[x, y], argTypes := #[T, U] }, ty, pos, af, g⟩) hg)]
  refine .inl ?_
  unfold Oper.wp
  obtain ⟨i, hi, his, hib, z, hz, hzs⟩ := he.info
  subst his
  subst hib
  have hold : (Builtin.firstCells i.size n (.slice ao n cap)).run P w.drew = .ok xs.toArray w.drew := by
    cases hsl with
    | nil => exact run_firstCells_none _ _ _ _ _
    | row hx' hsp hn => exact (Reads.block (P := P) (B := B) (w0 := w0) hs (List.Mem.head _) (GetN.part rfl) hx').run _ hw.drew
  have hxl := hsl.length
  have hn : ¬ (n + m ≤ cap) := by omega
  have h63' : ¬ (9223372036854775807 < ((n : Int) + (m : Int))) := by omega
  have hfit : Builtin.nextslicecap (n + m) cap * i.bytes ≤ 281474976710656 := growslice_fits hroom h47
  have h48' : ¬ (281474976710656 < Builtin.nextslicecap (n + m) cap * i.bytes) := by omega
  have hw64 : IntKind.wrap .i64 (m : Int) = (m : Int) := nw_i64 (by omega) (by omega)
  have hmb : m * i.bytes ≤ 140737488355328 := Nat.le_trans (Nat.mul_le_mul_right _ (by omega)) h47
  have h48 : ¬ (281474976710656 < (m : Int) * (i.bytes : Int)) := by
    have : ((m * i.bytes : Nat) : Int) = (m : Int) * (i.bytes : Int) := by push_cast; rfl
    omega
  have hneg : ¬ ((m : Int) < 0) := by omega
  have hsz : ∀ v : World, (sizeOf e).run P v = .ok i.size v := fun v => run_sizeOf (by rw [hi]; rfl) v
  have key : ∃ c', n + m ≤ c' ∧ ∃ zs : List Value, zs.length = m * i.size ∧ (execOp a.eval ⟨some d, .call { callee := .builtin .append, args := #[x, y], argTypes := #[T, U] }, ty, pos, af, g⟩).run P w =
      .ok (.value (.slice (some ⟨w.heap.size, 0, none⟩) (n + m) c')) (w.drew.alloc (.cells ((xs ++ (zs ++ (Builtin.zeroCells z.cells (c' - (n + m))).toList)).toArray) e)) := by
    refine ⟨n + m + w.tape w.drawn (.appendCap (n + m) cap e) % (9223372036854775808 - (n + m)), by omega, ?_⟩
    by_cases hz0 : m * i.size = 0
    · refine ⟨[], by simp [hz0], ?_⟩
      simp [execOp, resolve, ha.ev hx, ha.ev hy, invoke, builtin, Builtin.append_, run_underlying hT, run_underlying hU, asInt, asIntOf, hw64, hneg, h48, hn, hsz, h63', h48', typeInfo, hi, Question.forced, Question.cut, askRoom, hold, hz0, zeroValue, hz, newRow]
      congr 2
      apply Array.ext'
      simp
    · refine ⟨(Builtin.zeroCells z.cells m).toList, by simp [zeroCells_size, hzs], ?_⟩
      simp [execOp, resolve, ha.ev hx, ha.ev hy, invoke, builtin, Builtin.append_, run_underlying hT, run_underlying hU, asInt, asIntOf, hw64, hneg, h48, hn, hsz, h63', h48', typeInfo, hi, Question.forced, Question.cut, askRoom, hold, hz0, zeroValue, hz, newRow]
      congr 2
      apply Array.ext'
      simp
  obtain ⟨c', hc', zs, hzl, hrun⟩ := key
  rw [hrun]
  have hrow := IsSl.row (e := e) (size := i.size) (b := w.heap.size) (n := n + m) (cap := c') (pre := []) (xs := xs ++ zs) (spare := (Builtin.zeroCells z.cells (c' - (n + m))).toList) (post := [])
    (by simp [hxl, hzl, Nat.add_mul]) (by simp [zeroCells_size, hzs]) hc'
  have hst := hw.drew.new (.cells ((xs ++ (zs ++ (Builtin.zeroCells z.cells (c' - (n + m))).toList)).toArray) e)
  refine h _ _ _ zs hzl hc' hrow _ _ (ha.put (by simpa using hd) _) ?_
  simpa using hst

/-! ### append where there is room -/
theorem ow_append_room {d : Nat} {x y : Operand} {e size n m cap cap2 : Nat} {ao ao2 : Option Addr} {c : Hp} {xs ys : List Value} {R : Hp → List Hp} {pos : String} {af : Array Edge} {g : Option (Nat × Bool)} {rest : List Oper} (hg : Env.guard E ops g = some true) (hd : Nat.blt d N = true)
    (hT : P.underlying T = some (.slice e)) (hU : P.underlying U = some (.slice e)) (he : (P.info? e).map (·.size) = some size)
    (hx : Env.ev E x = some (.slice ao n cap)) (hy : Env.ev E y = some (.slice ao2 m cap2))
    (hsl : IsSl e size (.slice ao n cap) c n xs) (hs : Sel G c R) (hr : Reads P (St B w0 G) size (.slice ao2 m cap2) m ys) (h1 : ∀ u ∈ ys, u.oneCell' = true) (hroom : n + m ≤ cap)
    (h : ∀ c', IsSl e size (.slice ao (n + m) cap) c' (n + m) (xs ++ ys) → OW P ops Q B w0 N (R c') ((d, .slice ao (n + m) cap) :: E) rest) :
    OW P ops Q B w0 N G E (⟨some d, .call { callee := .builtin .append, args := #[x, y], argTypes := #[T, U] }, ty, pos, af, g⟩ :: rest) := fun a w ha hw => by
  unfold wpList
  rw [if_pos (ha.guard (o := ⟨some d, .call { callee := .builtin .append, args := #[x, y], argTypes := #[T, U] }, ty, pos, af, g⟩) hg)]
  refine .inl ?_
  unfold Oper.wp
  cases hsl with
  | nil =>
    obtain rfl : m = 0 := by omega
    have hys : ys = [] := by have := hr.len; simp at this; exact this
    subst hys
    have h3 : (execOp a.eval ⟨some d, .call { callee := .builtin .append, args := #[x, y], argTypes := #[T, U] }, ty, pos, af, g⟩).run P w = .ok (.value (.slice none 0 0)) w := by
      have hrd := hr.run w hw
      simp [execOp, resolve, ha.ev hx, ha.ev hy, invoke, builtin, Builtin.append_, run_underlying hT, run_underlying hU, Builtin.lenOf, run_sizeOf he w, hrd]
    rw [h3]
    refine h _ IsSl.nil _ _ (ha.put (by simpa using hd) _) ?_
    rw [hs.eq]
    exact hw
  | @row b n cap pre xs spare post hx' hsp hn =>
    have hb := hw.read hs (List.Mem.head _)
    have h5 : m * size ≤ (cap - n) * size := Nat.mul_le_mul_right _ (by omega)
    have h6 : ys.length ≤ spare.length := by rw [hsp, hr.len]; exact h5
    have hlen : pre.length + n * size + ys.length ≤ (pre ++ (xs ++ (spare ++ post))).toArray.size := by
      simp only [List.size_toArray, List.length_append]
      omega
    rw [run_append_in (ty := ty) (pos := pos) (af := af) (g := g) (d := some d) hT hU he (ha.ev hx) (ha.ev hy) (run_lenOf_slice w) (hr.run w hw) hroom hb hlen h1]
    have hrow := IsSl.row (e := e) (size := size) (b := b) (n := n + m) (cap := cap) (pre := pre) (xs := xs ++ ys) (spare := spare.drop ys.length) (post := post)
      (by simp [hx', hr.len, Nat.add_mul]) (by simp [hsp, hr.len, ← Nat.sub_mul, Nat.sub_add_eq]) hroom
    refine h _ hrow _ _ (ha.put (by simpa using hd) _) ?_
    have hst := hw.setRow (cs' := (splice (pre ++ (xs ++ (spare ++ post))) (pre.length + n * size) ys).toArray) hs
    have hsp2 : splice (pre ++ (xs ++ (spare ++ post))) (pre.length + n * size) ys = pre ++ ((xs ++ ys) ++ (spare.drop ys.length ++ post)) := by
      simp only [splice, ← hx', List.append_assoc]
      have h7 : pre.length + xs.length + ys.length = (pre ++ xs).length + ys.length := by simp
      have h8 : pre.length + xs.length = (pre ++ xs).length := by simp
      rw [h7, h8, ← List.append_assoc pre xs (spare ++ post), List.take_left, List.drop_append, List.drop_eq_nil_of_le (by omega), Nat.add_sub_cancel_left, List.drop_append_of_le_length h6]
      simp
    rw [hsp2] at hst
    show St B w0 _ (w.setRow b (splice (pre ++ (xs ++ (spare ++ post))) (pre.length + n * size) ys).toArray)
    rw [hsp2]
    exact hst

theorem ow_appendL_room {α : Type} {En : Enc α} {d : Nat} {x y : Operand} {e n m cap cap2 : Nat} {ao ao2 : Option Addr} {c : Hp} {l l2 : List α} {R : Hp → List Hp} {pos : String} {af : Array Edge} {g : Option (Nat × Bool)} {rest : List Oper} (hg : Env.guard E ops g = some true) (hd : Nat.blt d N = true)
    (hT : P.underlying T = some (.slice e)) (hU : P.underlying U = some (.slice e)) (hen : EncTy P e En)
    (hx : Env.ev E x = some (.slice ao n cap)) (hy : Env.ev E y = some (.slice ao2 m cap2)) (hsl : Ls En e (.slice ao n cap) c l) (hs : Sel G c R) (hv : Vw En (St B w0 G) (.slice ao2 m cap2) l2) (hroom : l.length + l2.length ≤ cap)
    (h : ∀ c', Ls En e (.slice ao (l ++ l2).length cap) c' (l ++ l2) → OW P ops Q B w0 N (R c') ((d, .slice ao (l ++ l2).length cap) :: E) rest) :
    OW P ops Q B w0 N G E (⟨some d, .call { callee := .builtin .append, args := #[x, y], argTypes := #[T, U] }, ty, pos, af, g⟩ :: rest) := by
  have hn := hsl.len
  have hm := hv.len
  subst hn
  subst hm
  refine ow_append_room hg hd hT hU hen.size hx hy hsl.sl hs (hv.reads_all hen) (enc_one hen hv.ok) hroom fun c' h1 => ?_
  have h2 : Ls En e (.slice ao (l.length + l2.length) cap) c' (l ++ l2) := ⟨by simpa using h1, fun a ha => by
    rcases List.mem_append.1 ha with h | h
    · exact hsl.ok a h
    · exact hv.ok a h⟩
  have h3 := h c' (by simpa using h2)
  simpa using h3
theorem ow_clearL {α : Type} {En : Enc α} {x : Operand} {e bytes n cap m k : Nat} {ao : Option Addr} {c : Hp} {l : List α} {R : Hp → List Hp} {pos : String} {af : Array Edge} {g : Option (Nat × Bool)} {rest : List Oper} (hg : Env.guard E ops g = some true) 
    (hT : P.underlying T = some (.slice e)) (he : Elem P e En.size bytes) (hzo : Zone P e)
    (hx : Env.ev E x = some (.slice (cutA ao cap n En.size) m k)) (hm : m + n ≤ cap) (hsl : Ls En e (.slice ao n cap) c l) (hs : Sel G c R)
    (h : ∀ c', Ls En e (.slice ao n cap) c' l → OW P ops Q B w0 N (R c') E rest) :
    OW P ops Q B w0 N G E (⟨none, .call { callee := .builtin .clear, args := #[x], argTypes := #[T] }, ty, pos, af, g⟩ :: rest) := by
  have hn := hsl.len
  subst hn
  exact ow_clear hg hT he hzo hx hm hsl.sl hs fun c' h1 => h c' ⟨h1, hsl.ok⟩

theorem cov_swap {c c2 : Hp} {R : Hp → List Hp} {F : List Hp} (hs : Sel G c R) (hR : ∀ x, (R x).Perm (x :: F)) (h : Cov [c, c2] G) {c' : Hp} : Cov [c', c2] (c' :: F) := fun p => by
  have h1 := h p
  have h2 := cnt_perm (hR c).flatten p
  rw [hs.eq] at h2
  simp only [List.flatten_cons, List.flatten_nil, List.append_nil, cnt_append] at *
  omega
theorem cov_sub {c c' : Hp} {F : List Hp} (h : Cov [c', c] F) : Sub c F := fun p hp => by
  have h1 := h p
  have : 0 < cnt p c := by
    obtain ⟨a, b, rfl⟩ := List.append_of_mem hp
    rw [cnt_append, cnt_self]
    omega
  simp only [List.flatten_cons, List.flatten_nil, List.append_nil, cnt_append] at h1
  exact cnt_pos (by omega)

theorem IsSl.readsR {e size n cap m : Nat} {ao : Option Addr} {c : Hp} {xs : List Value} (h : IsSl e size (.slice ao n cap) c n xs) (hs : Sub c G) (hm : m ≤ n) : Reads P (St B w0 G) size (.slice ao n cap) m (xs.take (m * size)) := by
  have hl := h.length
  have hml : m * size ≤ n * size := Nat.mul_le_mul_right _ hm
  by_cases h0 : m = 0
  · subst h0
    simpa using Reads.none
  · obtain ⟨e1, cs, m1, r1⟩ := h.reads (by omega)
    rw [e1]
    refine Reads.slice (by rw [List.length_take]; omega) fun i v hv => ?_
    rw [add_mk]
    refine Cell.sub hs m1 (r1 i v ?_)
    rw [List.getElem?_take] at hv
    split at hv
    · exact hv
    · simp at hv
theorem IsSl.readsA {e size n cap : Nat} {ao : Option Addr} {c : Hp} {xs : List Value} (h : IsSl e size (.slice ao n cap) c n xs) (hs : Sub c G) : Reads P (St B w0 G) size (.slice ao n cap) n xs := by
  have := h.readsR (P := P) (B := B) (w0 := w0) hs (Nat.le_refl n)
  rwa [List.take_of_length_le (by rw [h.length]; exact Nat.le_refl _)] at this

theorem ins_eq {β : Type} {A Bl ys V : List β} {a b m : Nat} (hA : A.length = a) (hB : Bl.length = b) (hy : ys.length = m) :
    (((A ++ Bl) ++ ys).take (a + m) ++ (Bl ++ ((A ++ Bl) ++ ys).drop (a + m + b))).take a ++ (V ++ (((A ++ Bl) ++ ys).take (a + m) ++ (Bl ++ ((A ++ Bl) ++ ys).drop (a + m + b))).drop (a + m)) = A ++ (V ++ Bl) := by
  subst hA
  subst hB
  subst hy
  have h1 : ((A ++ Bl) ++ ys).drop (A.length + ys.length + Bl.length) = [] := List.drop_eq_nil_of_le (by simp only [List.length_append]; omega)
  have h2 : (((A ++ Bl) ++ ys).take (A.length + ys.length)).length = A.length + ys.length := by simp only [List.length_append, List.length_take]; omega
  rw [h1, List.append_nil, List.drop_append, List.drop_eq_nil_of_le (by omega), h2, Nat.sub_self, List.drop_zero, List.nil_append, List.take_append_of_le_length (by omega), List.take_take, Nat.min_eq_left (by omega), List.append_assoc, List.take_left]
theorem ins_eq2 {β : Type} {A Bl ys V : List β} {a b m : Nat} (hA : A.length = a) (hB : Bl.length = b) (hy : ys.length = m + b) (hV : V.length = m) :
    ((A ++ ys).take a ++ (V ++ (A ++ ys).drop (a + m))).take (a + m) ++ (Bl ++ ((A ++ ys).take a ++ (V ++ (A ++ ys).drop (a + m))).drop (a + m + b)) = A ++ (V ++ Bl) := by
  subst hA
  subst hB
  subst hV
  have h1 : (A ++ ys).take A.length = A := List.take_left
  have h2 : (A ++ (V ++ (A ++ ys).drop (A.length + V.length))).take (A.length + V.length) = A ++ V := by
    rw [← List.append_assoc, List.take_append_of_le_length (by simp), List.take_of_length_le (by simp)]
  have h3 : (A ++ (V ++ (A ++ ys).drop (A.length + V.length))).drop (A.length + V.length + Bl.length) = [] := List.drop_eq_nil_of_le (by simp only [List.length_append, List.length_drop]; omega)
  rw [h1, h2, h3]
  simp

/-! ### slices.overlaps -/
theorem ow_overlaps {d : Nat} {x y : Operand} {f : FuncId} {fn : Func} {tS tR e size n1 n2 cap1 cap2 : Nat} {ao1 ao2 : Option Addr} {c1 c2 : Hp} {xs1 xs2 : List Value} {tys : Array TypeId} {pos : String} {af : Array Edge} {g : Option (Nat × Bool)} {rest : List Oper} (hg : Env.guard E ops g = some true) (hd : Nat.blt d N = true)
    (hf : P.funcs[f]? = some fn) (hname : (fn.name == "runtime.NumGoroutine") = false) (hb : fn.body.isNone = true) (hn : Extern.findNext fn = none) (he : Extern.find fn = some (Extern.SlicesOverlaps.overlaps #[tS, tS] #[tR]))
    (hT : P.underlying tS = some (.slice e)) (hsz : (P.info? e).map (·.size) = some size) (hpos : 0 < size) (hx : Env.ev E x = some (.slice ao1 n1 cap1)) (hy : Env.ev E y = some (.slice ao2 n2 cap2)) (h1 : IsSl e size (.slice ao1 n1 cap1) c1 n1 xs1) (h2 : IsSl e size (.slice ao2 n2 cap2) c2 n2 xs2)
    (hn1 : 0 < n1) (hn2 : 0 < n2) (hc : Cov [c1, c2] G) (h : OW P ops Q B w0 N G ((d, .bool false) :: E) rest) :
    OW P ops Q B w0 N G E (⟨some d, .call { callee := .value (.func f), args := #[x, y], argTypes := tys }, ty, pos, af, g⟩ :: rest) := fun a w ha hw => by
  unfold wpList
  rw [if_pos (ha.guard (o := ⟨some d, .call { callee := .value (.func f), args := #[x, y], argTypes := tys }, ty, pos, af, g⟩) hg)]
  refine .inl ?_
  unfold Oper.wp
  have hS := hw.cov hc
  obtain ⟨e1, cs1, m1, r1⟩ := h1.reads hn1
  obtain ⟨e2, cs2, m2, r2⟩ := h2.reads hn2
  have b1 := (hS.has (bOf ao1, .cells cs1 e (0, 0)) (by simp [m1])).2
  have b2 := (hS.has (bOf ao2, .cells cs2 e (0, 0)) (by simp [m2])).2
  have hne : bOf ao1 ≠ bOf ao2 := by
    have hnd := hS.nodup
    simp only [List.flatten_cons, List.flatten_nil, List.append_nil, List.map_append] at hnd
    have := (List.nodup_append.1 hnd).2.2
    exact this _ (List.mem_map.2 ⟨_, m1, rfl⟩) _ (List.mem_map.2 ⟨_, m2, rfl⟩)
  have hk2 : cs2.size ≠ 0 := by
    have hl : 0 < xs2.length := by rw [h2.length]; exact Nat.mul_pos hn2 hpos
    have := r2 0 xs2[0] (by simp)
    have := (Array.getElem?_eq_some_iff.1 this).1
    omega
  have hrun := Go.Lib.run_overlaps_apart (P := P) w tS tR e hT size (fun v => run_sizeOf hsz v) ⟨bOf ao1, oOf ao1, none⟩ ⟨bOf ao2, oOf ao2, none⟩ n1 cap1 n2 cap2 hne e e cs1.size cs2.size
    (by simp [World.shape?, b1]) (by simp [World.shape?, b2]) hk2 (by simp [World.frozen?, b1]) (by simp [World.frozen?, b1])
  rw [← e1, ← e2] at hrun
  have hr2 := run_callFunc_extern hf hname hb hn he #[.slice ao1 n1 cap1, .slice ao2 n2 cap2] w
  rw [hrun] at hr2
  have hr3 : (execOp a.eval ⟨some d, .call { callee := .value (.func f), args := #[x, y], argTypes := tys }, ty, pos, af, g⟩).run P w = .ok (.value (.bool false)) w := by
    simp only [execOp, resolve, Sem.run_bind, ha.ev (x := .func f) rfl, Deferred.ofValue, Sem.run_pure, Result.andThen_ok, invoke]
    have h3 : (Array.map a.eval #[x, y]) = #[.slice ao1 n1 cap1, .slice ao2 n2 cap2] := by simp [ha.ev hx, ha.ev hy]
    rw [h3]
    simpa using hr2
  rw [hr3]
  exact h _ _ (ha.put (by simpa using hd) _) hw

end Go.Sl
