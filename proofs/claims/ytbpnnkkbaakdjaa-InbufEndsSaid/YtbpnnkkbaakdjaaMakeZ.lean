/- append(x, make([]T, n)...): zeros behind a list. Conditions: none; nothing here speaks of a given program. -/
import Derived.Test.YtbpnnkkbaakdjaaMake
namespace Go.Sl
set_option linter.unusedVariables false
set_option linter.unusedSimpArgs false
open Go.RowKit Go Go.Instr
variable {P : Program} {ops : Array Oper} {Q : Exit → Act → World → Prop} {B : Nat} {w0 : World} {N : Nat} {G : List Hp} {E : Env} {ty T : TypeId}

/-! ### append(x, make([]T, n)...) -/
theorem zeroCells_rep {α : Type} {f : α → List Value} {a : α} {n size : Nat} (hf : (f a).length = size) (hp : 0 < size) : (Builtin.zeroCells (f a).toArray n).toList = (List.replicate n a).flatMap f := by
  rw [fm_rep hf hp]
  unfold Builtin.zeroCells
  simp [hf]
theorem zeroCells_nil {z : Array Value} {m : Nat} (h : m * z.size = 0) : Builtin.zeroCells z m = #[] := by
  unfold Builtin.zeroCells
  rw [h]
  rw [show Array.range 0 = #[] from rfl, Array.map_empty]
theorem run_appendZ_new {a : Act} {x y : Operand} {e size bytes n m cap : Nat} {so : Option Addr} {xs : List Value} {k : IntKind} {pos : String} {af : Array Edge} {g : Option (Nat × Bool)} {d : Option Nat} {w : World} {U : TypeId}
    (hT : P.underlying T = some (.slice e)) (hU : P.underlying U = some (.int k)) {i : TypeInfo} {z : Value} (hi : P.info? e = some i) (his : i.size = size) (hib : i.bytes = bytes) (hz : i.zero = some z) (hzs : z.cells.size = size)
    (hx : a.eval x = .slice so n cap) (hy : a.eval y = .int k m) (hold : (Builtin.firstCells size n (.slice so n cap)).run P w.drew = .ok xs.toArray w.drew)
    (hroom : cap < n + m) (h47 : (n + m) * bytes ≤ 140737488355328) (h63 : n + m ≤ 9223372036854775807) :
    ∃ c', n + m ≤ c' ∧ (execOp a.eval ⟨d, .call { callee := .builtin .append, args := #[x, y], argTypes := #[T, U] }, ty, pos, af, g⟩).run P w =
      .ok (.value (.slice (some ⟨w.heap.size, 0, Option.none⟩) (n + m) c')) (w.drew.alloc (.cells ((xs ++ ((Builtin.zeroCells z.cells m).toList ++ (Builtin.zeroCells z.cells (c' - (n + m))).toList)).toArray) e)) := by
  subst his
  subst hib
  have hn : ¬ (n + m ≤ cap) := by omega
  have h63' : ¬ (9223372036854775807 < ((n : Int) + (m : Int))) := by omega
  have hfit : Builtin.nextslicecap (n + m) cap * i.bytes ≤ 281474976710656 := growslice_fits hroom h47
  have h48' : ¬ (281474976710656 < Builtin.nextslicecap (n + m) cap * i.bytes) := by omega
  have hw64 : IntKind.wrap .i64 (m : Int) = (m : Int) := nw_i64 (by omega) (by omega)
  have hmb : m * i.bytes ≤ 140737488355328 := Nat.le_trans (Nat.mul_le_mul_right _ (by omega)) h47
  have h48 : ¬ (281474976710656 < (m : Int) * (i.bytes : Int)) := by
    have : ((m * i.bytes : Nat) : Int) = (m : Int) * (i.bytes : Int) := by push_cast; rfl
    omega
  have hneg : ¬ ((m : Int) < 0) := by omega
  have hsz : ∀ v : World, (sizeOf e).run P v = .ok i.size v := fun v => run_sizeOf (by rw [hi]; rfl) v
  refine ⟨n + m + w.tape w.drawn (.appendCap (n + m) cap e) % (9223372036854775808 - (n + m)), by omega, ?_⟩
  by_cases hz0 : m * i.size = 0
  · have hzn : Builtin.zeroCells z.cells m = #[] := zeroCells_nil (by rw [hzs]; exact hz0)
    rw [hzn]
    simp [execOp, resolve, hx, hy, invoke, builtin, Builtin.append_, run_underlying hT, run_underlying hU, asInt, asIntOf, hw64, hneg, h48, hn, hsz, h63', h48', typeInfo, hi, Question.forced, Question.cut, askRoom, hold, hz0, zeroValue, hz, newRow]
    congr 2
    apply Array.ext'
    simp
  · simp [execOp, resolve, hx, hy, invoke, builtin, Builtin.append_, run_underlying hT, run_underlying hU, asInt, asIntOf, hw64, hneg, h48, hn, hsz, h63', h48', typeInfo, hi, Question.forced, Question.cut, askRoom, hold, hz0, zeroValue, hz, newRow]
    congr 2
    apply Array.ext'
    simp
theorem run_appendZ_in {a : Act} {x y : Operand} {e size bytes n m cap b o : Nat} {cs : Array Value} {e' : TypeId} {k : IntKind} {pos : String} {af : Array Edge} {g : Option (Nat × Bool)} {d : Option Nat} {w : World} {U : TypeId}
    (hT : P.underlying T = some (.slice e)) (hU : P.underlying U = some (.int k)) {i : TypeInfo} {z : Value} (hi : P.info? e = some i) (his : i.size = size) (hib : i.bytes = bytes) (hz : i.zero = some z) (hzs : z.cells.size = size)
    (hx : a.eval x = .slice (some ⟨b, o, Option.none⟩) n cap) (hy : a.eval y = .int k m) (hroom : n + m ≤ cap) (hmb : m * bytes ≤ 140737488355328) (hm63 : m ≤ 9223372036854775807)
    (hb : w.heap[b]? = some (.cells cs e' (0, 0))) (hl : o + n * size + (Builtin.zeroCells z.cells m).toList.length ≤ cs.size) (h1 : ∀ u ∈ (Builtin.zeroCells z.cells m).toList, u.oneCell' = true) :
    (execOp a.eval ⟨d, .call { callee := .builtin .append, args := #[x, y], argTypes := #[T, U] }, ty, pos, af, g⟩).run P w =
      .ok (.value (.slice (some ⟨b, o, Option.none⟩) (n + m) cap)) (w.setRow b (splice cs.toList (o + n * size) (Builtin.zeroCells z.cells m).toList).toArray) := by
  subst his
  subst hib
  have h2 := run_storeCells_at P b (o + n * i.size) e' (Builtin.zeroCells z.cells m).toList 0 cs w hb (by simpa using hl) h1
  have h2' : (storeCells ⟨b, o + n * i.size, Option.none⟩ (Builtin.zeroCells z.cells m).toList).run P w = .ok () (w.setRow b (splice cs.toList (o + n * i.size) (Builtin.zeroCells z.cells m).toList).toArray) := by simpa [splice] using h2
  have hw64 : IntKind.wrap .i64 (m : Int) = (m : Int) := nw_i64 (by omega) (by omega)
  have h48 : ¬ (281474976710656 < (m : Int) * (i.bytes : Int)) := by
    have : ((m * i.bytes : Nat) : Int) = (m : Int) * (i.bytes : Int) := by push_cast; rfl
    omega
  have hneg : ¬ ((m : Int) < 0) := by omega
  have hsz : ∀ v : World, (sizeOf e).run P v = .ok i.size v := fun v => run_sizeOf (by rw [hi]; rfl) v
  by_cases hz0 : m * i.size = 0
  · have hzn : Builtin.zeroCells z.cells m = #[] := zeroCells_nil (by rw [hzs]; exact hz0)
    rw [hzn] at h2' ⊢
    simp only [List.toList_toArray, Array.toList_empty] at h2' ⊢
    simp [execOp, resolve, hx, hy, invoke, builtin, Builtin.append_, run_underlying hT, run_underlying hU, asInt, asIntOf, hw64, hneg, h48, hroom, hsz, typeInfo, hi, hz0, add_mk, h2']
  · simp [execOp, resolve, hx, hy, invoke, builtin, Builtin.append_, run_underlying hT, run_underlying hU, asInt, asIntOf, hw64, hneg, h48, hroom, hsz, typeInfo, hi, hz0, zeroValue, hz, add_mk, h2']

theorem ow_appendZs {α : Type} {En : Enc α} {d : Nat} {x y : Operand} {k : IntKind} {e bytes n m cap : Nat} {ao : Option Addr} {mi : Int} {c : Hp} {l : List α} {a0 : α} {R : Hp → List Hp} {pos : String} {af : Array Edge} {g : Option (Nat × Bool)} {rest : List Oper} {U : TypeId} (hg : Env.guard E ops g = some true) (hd : Nat.blt d N = true)
    (hT : P.underlying T = some (.slice e)) (hU : P.underlying U = some (.int k)) (hen : EncTy P e En) (hz : ZeroE P e En a0 bytes)
    (hx : Env.ev E x = some (.slice ao n cap)) (hy : Env.ev E y = some (.int k mi)) (hmi : mi = (m : Int)) (hL : Ls En e (.slice ao n cap) c l) (hs : Sel G c R) (h47 : (n + m) * bytes ≤ 140737488355328) (h63 : n + m ≤ 9223372036854775807)
    (h : ∀ ao' cap' c', Ls En e (.slice ao' (n + m) cap') c' (l ++ List.replicate m a0) → OW P ops Q B w0 N (R c') ((d, .slice ao' (n + m) cap') :: E) rest) :
    OW P ops Q B w0 N G E (⟨some d, .call { callee := .builtin .append, args := #[x, y], argTypes := #[T, U] }, ty, pos, af, g⟩ :: rest) := fun a w ha hw => by
  subst hmi
  have hn := hL.len
  subst hn
  have hok : ∀ b ∈ l ++ List.replicate m a0, En.ok b := fun b hb => by
    rcases List.mem_append.1 hb with h1 | h1
    · exact hL.ok b h1
    · rw [(List.mem_replicate.1 h1).2]; exact hz.ok
  have h : ∀ ao' cap' c', IsSl e En.size (.slice ao' (l.length + m) cap') c' (l.length + m) (l.flatMap En.f ++ (List.replicate m a0).flatMap En.f) → OW P ops Q B w0 N (R c') ((d, .slice ao' (l.length + m) cap') :: E) rest := fun ao' cap' c' hsl => h ao' cap' c' ⟨by
    rw [List.flatMap_append, List.length_append, List.length_replicate]
    exact hsl, hok⟩
  obtain ⟨i, z, hi, his, hib, hzz, hzc⟩ := hz.info
  have hfl := hen.len a0 hz.ok
  have hzs : z.cells.size = En.size := by rw [hzc]; simpa using hfl
  have hrep : (Builtin.zeroCells z.cells m).toList = (List.replicate m a0).flatMap En.f := by rw [hzc]; exact zeroCells_rep hfl hen.pos
  have hrl : ((List.replicate m a0).flatMap En.f).length = m * En.size := by rw [fm_len (k := En.size) fun b hb => by rw [(List.mem_replicate.1 hb).2]; exact hfl, List.length_replicate]
  have h1 : ∀ u ∈ (List.replicate m a0).flatMap En.f, u.oneCell' = true := enc_one hen fun b hb => by rw [(List.mem_replicate.1 hb).2]; exact hz.ok
  have hmb : m * bytes ≤ 140737488355328 := Nat.le_trans (Nat.mul_le_mul_right _ (by omega)) h47
  have hsl := hL.sl
  generalize l.flatMap En.f = xs at hsl h
  generalize l.length = n at *
  unfold wpList
  rw [if_pos (ha.guard (o := ⟨some d, .call { callee := .builtin .append, args := #[x, y], argTypes := #[T, U] }, ty, pos, af, g⟩) hg)]
  refine .inl ?_
  unfold Oper.wp
  obtain ⟨F, hp1, hp2⟩ := hs.perm
  have fresh : ∀ {so : Option Addr} {cap : Nat}, Env.ev E x = some (.slice so n cap) → cap < n + m → xs.length = n * En.size → (Builtin.firstCells En.size n (.slice so n cap)).run P w.drew = .ok xs.toArray w.drew →
      Oper.upon P ⟨some d, .call { callee := .builtin .append, args := #[x, y], argTypes := #[T, U] }, ty, pos, af, g⟩ a (wpList P ops Q rest) Q
        ((execOp a.eval ⟨some d, .call { callee := .builtin .append, args := #[x, y], argTypes := #[T, U] }, ty, pos, af, g⟩).run P w) := by
    intro so cap hsv hroom hxl hold
    obtain ⟨c', hc', hrun⟩ := run_appendZ_new (ty := ty) (pos := pos) (af := af) (g := g) (d := some d) hT hU hi his hib hzz hzs (ha.ev hsv) (ha.ev hy) hold hroom h47 h63
    rw [hrun, hrep]
    have hrow := IsSl.row (e := e) (size := En.size) (b := w.heap.size) (n := n + m) (cap := c') (pre := []) (xs := xs ++ (List.replicate m a0).flatMap En.f) (spare := (Builtin.zeroCells z.cells (c' - (n + m))).toList) (post := [])
      (by rw [List.length_append, hxl, hrl, Nat.add_mul]) (by simp [zeroCells_size, hzs]) hc'
    refine h _ _ _ hrow _ _ (ha.put (by simpa using hd) _) ?_
    refine St.perm ?_ (hp2 _).symm
    have hst := (hw.drew.perm hp1).new (.cells ((xs ++ ((List.replicate m a0).flatMap En.f ++ (Builtin.zeroCells z.cells (c' - (n + m))).toList)).toArray) e)
    have hst2 := hst.weak (G' := [(w.drew.heap.size, .cells ((xs ++ ((List.replicate m a0).flatMap En.f ++ (Builtin.zeroCells z.cells (c' - (n + m))).toList)).toArray) e (0, 0))] :: F) ((List.sublist_cons_self c F).cons_cons _)
    simpa using hst2
  cases hsl with
  | nil =>
    by_cases h0 : m = 0
    · subst h0
      have hw0 : IntKind.wrap .i64 0 = 0 := by decide
      have hsz : ∀ v : World, (sizeOf e).run P v = .ok En.size v := fun v => run_sizeOf (by rw [hi, ← his]; rfl) v
      have h3 : (execOp a.eval ⟨some d, .call { callee := .builtin .append, args := #[x, y], argTypes := #[T, U] }, ty, pos, af, g⟩).run P w = .ok (.value (.slice none 0 0)) w := by
        simp [execOp, resolve, ha.ev hx, ha.ev hy, invoke, builtin, Builtin.append_, run_underlying hT, run_underlying hU, asInt, asIntOf, hw0, typeInfo, hi, hsz]
      rw [h3]
      refine h _ _ _ IsSl.nil _ _ (ha.put (by simpa using hd) _) ?_
      rw [hs.eq]
      exact hw
    · exact fresh hx (by omega) (by simp) (run_firstCells_none _ En.size 0 0 0)
  | @row b n cap pre xs spare post hx' hsp hn =>
    by_cases hroom : n + m ≤ cap
    · have hb := hw.read hs (List.Mem.head _)
      have h5 : m * En.size ≤ (cap - n) * En.size := Nat.mul_le_mul_right _ (by omega)
      have hlen : pre.length + n * En.size + (Builtin.zeroCells z.cells m).toList.length ≤ (pre ++ (xs ++ (spare ++ post))).toArray.size := by
        rw [hrep, hrl]
        simp only [List.size_toArray, List.length_append]
        omega
      rw [run_appendZ_in (ty := ty) (pos := pos) (af := af) (g := g) (d := some d) hT hU hi his hib hzz hzs (ha.ev hx) (ha.ev hy) hroom hmb (by omega) hb hlen (by rw [hrep]; exact h1), hrep]
      have hrow := IsSl.row (e := e) (size := En.size) (b := b) (n := n + m) (cap := cap) (pre := pre) (xs := xs ++ (List.replicate m a0).flatMap En.f) (spare := spare.drop ((List.replicate m a0).flatMap En.f).length) (post := post)
        (by rw [List.length_append, hx', hrl, Nat.add_mul]) (by rw [List.length_drop, hsp, hrl, ← Nat.sub_mul, Nat.sub_add_eq]) hroom
      refine h _ _ _ hrow _ _ (ha.put (by simpa using hd) _) ?_
      have hst := hw.setRow (cs' := (splice (pre ++ (xs ++ (spare ++ post))) (pre.length + n * En.size) ((List.replicate m a0).flatMap En.f)).toArray) hs
      have hsp2 : splice (pre ++ (xs ++ (spare ++ post))) (pre.length + n * En.size) ((List.replicate m a0).flatMap En.f) = pre ++ ((xs ++ (List.replicate m a0).flatMap En.f) ++ (spare.drop ((List.replicate m a0).flatMap En.f).length ++ post)) := by
        have h6 : ((List.replicate m a0).flatMap En.f).length ≤ spare.length := by rw [hsp, hrl]; exact h5
        generalize (List.replicate m a0).flatMap En.f = ys at h6 ⊢
        simp only [splice, ← hx', List.append_assoc]
        have h7 : pre.length + xs.length + ys.length = (pre ++ xs).length + ys.length := by simp
        have h8 : pre.length + xs.length = (pre ++ xs).length := by simp
        rw [h7, h8, ← List.append_assoc pre xs (spare ++ post), List.take_left, List.drop_append, List.drop_eq_nil_of_le (by omega), Nat.add_sub_cancel_left, List.drop_append_of_le_length h6]
        simp
      rw [hsp2] at hst
      show St B w0 _ (w.setRow b (splice (pre ++ (xs ++ (spare ++ post))) (pre.length + n * En.size) ((List.replicate m a0).flatMap En.f)).toArray)
      rw [hsp2]
      exact hst
    · have hold : (Builtin.firstCells En.size n (.slice (some ⟨b, pre.length, Option.none⟩) n cap)).run P w.drew = .ok xs.toArray w.drew :=
        (Reads.block (P := P) (len := n) (cap := cap) hs (List.Mem.head _) (GetN.part rfl) hx').run _ hw.drew
      exact fresh hx (by omega) hx' hold
end Go.Sl
