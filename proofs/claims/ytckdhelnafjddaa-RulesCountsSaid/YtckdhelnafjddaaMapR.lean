/- Maps with whole numbers as keys that are ranged over: what a map object holds with its entries' ages, how it is read, written, made, counted, ranged over. Conditions: none; nothing here speaks of a given program. -/
import Derived.Test.YtckdhelnafjddaaMap
import Derived.Maps.RangeRun
namespace Go.Sl
set_option linter.unusedVariables false
set_option linter.unusedSimpArgs false
open Go.RowKit Go Go.Instr

variable {P : Program} {ops : Array Oper} {Q : Exit → Act → World → Prop} {B : Nat} {w0 : World} {N : Nat} {G : List Hp} {E : Env} {ty T : TypeId}
structure Ages (es : Array MapEntry) (clock : Nat) : Prop where
  nd : (es.toList.map (·.born)).Nodup
  lt : ∀ e ∈ es.toList, e.born < clock
/-- a map object, seen as a list of pairs -/
def MapR (kd : IntKind) (m : List (Int × Value)) (b : Nat) (c : Hp) : Prop := ∃ es clock, c = [(b, .map es clock)] ∧ MapL kd m es.toList ∧ (m.map (·.1)).Nodup ∧ Ages es clock
/-- .. as a function -/
def MapG (kd : IntKind) (f : Int → Option Value) (b : Nat) (c : Hp) : Prop := ∃ m, MapR kd m b c ∧ ∀ k, Go.Sl.look m k = f k
theorem MapG.f {kd : IntKind} {f : Int → Option Value} {b : Nat} {c : Hp} (h : MapG kd f b c) : MapF kd f b c := by
  obtain ⟨m, ⟨es, clock, hc, hL, hn, _⟩, hf⟩ := h
  exact ⟨es, clock, m, hc, hL, hn, hf⟩
theorem MapR.g {kd : IntKind} {m : List (Int × Value)} {b : Nat} {c : Hp} (h : MapR kd m b c) : MapG kd (Go.Sl.look m) b c := ⟨m, h, fun _ => rfl⟩
theorem MapG.congr {kd : IntKind} {f g : Int → Option Value} {b : Nat} {c : Hp} (h : MapG kd f b c) (he : ∀ k, f k = g k) : MapG kd g b c := by
  obtain ⟨m, h1, h2⟩ := h
  exact ⟨m, h1, fun k => (h2 k).trans (he k)⟩

theorem look_mem {m : List (Int × Value)} (hn : (m.map (·.1)).Nodup) {k : Int} {v : Value} : Go.Sl.look m k = some v ↔ (k, v) ∈ m := by
  induction m with
  | nil => simp [Go.Sl.look]
  | cons p m ih =>
    simp only [List.map_cons, List.nodup_cons] at hn
    unfold Go.Sl.look at ih ⊢
    by_cases hp : p.1 = k
    · rw [List.find?_cons_of_pos (by simp [hp])]
      simp only [Option.map_some, Option.some.injEq, List.mem_cons]
      constructor
      · intro h; left; rw [← h, ← hp]
      · rintro (h | h)
        · rw [← h]
        · exact absurd (List.mem_map.2 ⟨(k, v), h, hp.symm⟩) hn.1
    · rw [List.find?_cons_of_neg (by simp [hp]), ih hn.2]
      simp only [List.mem_cons]
      constructor
      · exact .inr
      · rintro (h | h)
        · exact absurd (by rw [← h]) hp
        · exact h

/-! ### Writing -/
theorem Ages.push {es : Array MapEntry} {clock : Nat} (h : Ages es clock) (k v : Value) : Ages (es.push { key := k, val := v, born := clock }) (clock + 1) := by
  constructor
  · rw [Array.toList_push, List.map_append, List.nodup_append]
    refine ⟨h.nd, by simp, ?_⟩
    intro x hx y hy
    obtain ⟨e, he, rfl⟩ := List.mem_map.1 hx
    simp at hy
    subst hy
    have := h.lt e he
    omega
  · intro e he
    rw [Array.toList_push] at he
    rcases List.mem_append.1 he with he | he
    · have := h.lt e he; omega
    · simp at he
      subst he
      exact Nat.lt_succ_self clock
theorem modify_born {i : Nat} {g : MapEntry → MapEntry} (hg : ∀ e, (g e).born = e.born) : ∀ (es : List MapEntry), (es.modify i g).map (·.born) = es.map (·.born) := by
  induction i with
  | zero => intro es; cases es with | nil => rfl | cons e es => simp [hg]
  | succ i ih => intro es; cases es with | nil => rfl | cons e es => simp [ih]
theorem Ages.of_born {es es' : Array MapEntry} {clock : Nat} (h : Ages es clock) (he : es'.toList.map (·.born) = es.toList.map (·.born)) : Ages es' clock := by
  refine ⟨by rw [he]; exact h.nd, fun e hm => ?_⟩
  have : e.born ∈ es.toList.map (·.born) := by rw [← he]; exact List.mem_map.2 ⟨e, hm, rfl⟩
  obtain ⟨x, hx, hxe⟩ := List.mem_map.1 this
  have := h.lt x hx
  omega
theorem ow_mapUpdateG {x y u : Operand} {kt e : TypeId} {kd kd' : IntKind} {b : Nat} {k : Int} {v : Value} {f : Int → Option Value} {c : Hp} {R : Hp → List Hp} {pos : String} {af : Array Edge} {g : Option (Nat × Bool)} {rest : List Oper} (hg : Env.guard E ops g = some true)
    (hT : P.underlying T = some (.map kt e)) (hk : P.underlying kt = some (.int kd')) (hx : Env.ev E x = some (.map (some b))) (hy : Env.ev E y = some (.int kd k)) (hu : Env.ev E u = some v) (hs : Sel G c R) (hM : MapG kd f b c)
    (h : ∀ c', MapG kd (fun j => if j = k then some v else f j) b c' → OW P ops Q B w0 N (R c') E rest) : OW P ops Q B w0 N G E (⟨none, .mapUpdate T x y u, ty, pos, af, g⟩ :: rest) := fun a w ha hw => by
  unfold wpList
  rw [if_pos (ha.guard (o := ⟨none, .mapUpdate T x y u, ty, pos, af, g⟩) hg)]
  obtain ⟨m, ⟨es, clock, rfl, hL, hnd, hA⟩, hf⟩ := hM
  have hb := hw.read hs (List.Mem.head _)
  refine .inl ?_
  unfold Oper.wp
  have h1 := run_checkKey (P := P) (emp := false) (n := 9999) (kd := kd) (k := k) hk w
  have h2 := run_findKey (P := P) (k := k) hk hL w
  have hfn : ∀ j, Go.Sl.look (updM m k v) j = if j = k then some v else f j := fun j => by rw [look_upd, hf]
  cases hl : lookI m k with
  | none =>
    have h3 : (execOp a.eval ⟨none, .mapUpdate T x y u, ty, pos, af, g⟩).run P w = .ok .skip { w with heap := w.heap.setIfInBounds b (.map (es.push { key := .int kd k, val := v, born := clock }) (clock + 1)) } := by
      simp [execOp, Instr.mapUpdate, ha.ev hx, ha.ev hy, ha.ev hu, run_underlying hT, run_getObjM hb, run_setObjM _ hb, h1, h2, hl]
    rw [h3]
    exact h _ ⟨updM m k v, ⟨_, _, rfl, by rw [Array.toList_push]; exact upd_none ⟨rfl, rfl⟩ hL hl, nodup_upd hnd k v, hA.push _ _⟩, hfn⟩ a _ ha (hw.setMap hs)
  | some q =>
    obtain ⟨i, u0⟩ := q
    obtain ⟨⟨e0, he1, he2⟩, hup⟩ := upd_some (v := v) hL hl
    have he3 : es[i]? = some e0 := by simpa using he1
    have h3 : (execOp a.eval ⟨none, .mapUpdate T x y u, ty, pos, af, g⟩).run P w = .ok .skip { w with heap := w.heap.setIfInBounds b (.map (es.modify i fun e => { e with key := .int kd k, val := v }) clock) } := by
      simp [execOp, Instr.mapUpdate, ha.ev hx, ha.ev hy, ha.ev hu, run_underlying hT, run_getObjM hb, run_setObjM _ hb, h1, h2, hl, he3, he2, run_keyStays]
    rw [h3]
    exact h _ ⟨updM m k v, ⟨_, _, rfl, by rw [Array.toList_modify]; exact hup _ fun e => ⟨rfl, rfl⟩, nodup_upd hnd k v, hA.of_born (by rw [Array.toList_modify]; exact modify_born (g := fun e => { e with key := .int kd k, val := v }) (fun _ => rfl) _)⟩, hfn⟩ a _ ha (hw.setMap hs)
theorem Ages.nil : Ages #[] 0 := ⟨by simp, by simp⟩
theorem MapR.nil {kd : IntKind} {b : Nat} : MapR kd [] b [(b, .map #[] 0)] := ⟨#[], 0, rfl, by simp [MapL], by simp, Ages.nil⟩
theorem ow_makeMapG {d : Nat} {kd : IntKind} {pos : String} {af : Array Edge} {g : Option (Nat × Bool)} {rest : List Oper} (hg : Env.guard E ops g = some true) (hd : Nat.blt d N = true)
    (h : ∀ b c, MapG kd (fun _ => none) b c → OW P ops Q B w0 N (c :: G) ((d, .map (some b)) :: E) rest) : OW P ops Q B w0 N G E (⟨some d, .makeMap T none, ty, pos, af, g⟩ :: rest) := fun a w ha hw => by
  unfold wpList
  rw [if_pos (ha.guard (o := ⟨some d, .makeMap T none, ty, pos, af, g⟩) hg)]
  refine .inl ?_
  unfold Oper.wp
  have h3 : (execOp a.eval ⟨some d, .makeMap T none, ty, pos, af, g⟩).run P w = .ok (.value (.map (some w.heap.size))) (w.alloc (.map #[] 0)) := by
    simp [execOp, Instr.makeMap]
  rw [h3]
  exact h w.heap.size _ ⟨[], MapR.nil, fun k => rfl⟩ _ _ (ha.put (by simpa using hd) _) (hw.new _)
theorem ow_makeMapN {d : Nat} {x : Operand} {kt e : TypeId} {n : Int} {ki : IntKind} {kd : IntKind} {pos : String} {af : Array Edge} {g : Option (Nat × Bool)} {rest : List Oper} (hg : Env.guard E ops g = some true) (hd : Nat.blt d N = true)
    (hT : P.underlying T = some (.map kt e)) (hx : Env.ev E x = some (.int ki n))
    (h : ∀ b c, MapG kd (fun _ => none) b c → OW P ops Q B w0 N (c :: G) ((d, .map (some b)) :: E) rest) : OW P ops Q B w0 N G E (⟨some d, .makeMap T (some x), ty, pos, af, g⟩ :: rest) := fun a w ha hw => by
  unfold wpList
  rw [if_pos (ha.guard (o := ⟨some d, .makeMap T (some x), ty, pos, af, g⟩) hg)]
  refine .inl ?_
  unfold Oper.wp
  have h3 : (execOp a.eval ⟨some d, .makeMap T (some x), ty, pos, af, g⟩).run P w = .ok (.value (.map (some w.heap.size))) (w.alloc (.map #[] 0)) := by
    simp [execOp, Instr.makeMap, ha.ev hx, run_underlying hT, asInt, asIntOf]
  rw [h3]
  exact h w.heap.size _ ⟨[], MapR.nil, fun k => rfl⟩ _ _ (ha.put (by simpa using hd) _) (hw.new _)
theorem ow_deleteG {x y : Operand} {kt e : TypeId} {kd kd' : IntKind} {b : Nat} {k : Int} {f : Int → Option Value} {c : Hp} {R : Hp → List Hp} {tys : Array TypeId} {pos : String} {af : Array Edge} {g : Option (Nat × Bool)} {rest : List Oper} (hg : Env.guard E ops g = some true)
    (ht : tys[0]? = some T) (hT : P.underlying T = some (.map kt e)) (hk : P.underlying kt = some (.int kd')) (hx : Env.ev E x = some (.map (some b))) (hy : Env.ev E y = some (.int kd k)) (hs : Sel G c R) (hM : MapG kd f b c)
    (h : ∀ c', MapG kd (fun j => if j = k then none else f j) b c' → OW P ops Q B w0 N (R c') E rest) : OW P ops Q B w0 N G E (⟨none, .call { callee := .builtin .delete, args := #[x, y], argTypes := tys }, ty, pos, af, g⟩ :: rest) := fun a w ha hw => by
  unfold wpList
  rw [if_pos (ha.guard (o := ⟨none, .call { callee := .builtin .delete, args := #[x, y], argTypes := tys }, ty, pos, af, g⟩) hg)]
  obtain ⟨m, ⟨es, clock, rfl, hL, hnd, hA⟩, hf⟩ := hM
  have hb := hw.read hs (List.Mem.head _)
  refine .inl ?_
  unfold Oper.wp
  have h1 := run_checkKey (P := P) (emp := es.isEmpty) (n := 9999) (kd := kd) (k := k) hk w
  have h2 := run_findKey (P := P) (k := k) hk hL w
  have hfn : ∀ j, Go.Sl.look (delM m k) j = if j = k then none else f j := fun j => by rw [look_del, hf]
  have hnd2 : ((delM m k).map (·.1)).Nodup := List.Nodup.sublist (List.Sublist.map _ List.filter_sublist) hnd
  cases hl : lookI m k with
  | none =>
    have h3 : (execOp a.eval ⟨none, .call { callee := .builtin .delete, args := #[x, y], argTypes := tys }, ty, pos, af, g⟩).run P w = .ok (.value (.tuple #[])) { w with heap := w.heap.setIfInBounds b (.map es clock) } := by
      simp [execOp, resolve, ha.ev hx, ha.ev hy, invoke, builtin, Builtin.delete_, ht, run_underlying hT, run_getObjM hb, run_setObjM _ hb, h1, h2, hl]
    rw [h3]
    exact h _ ⟨delM m k, ⟨_, _, rfl, by rw [del_none hl]; exact hL, hnd2, hA⟩, hfn⟩ a _ ha (hw.setMap hs)
  | some q =>
    obtain ⟨i, u0⟩ := q
    obtain ⟨hi, hup⟩ := del_some hL hnd hl
    have h3 : (execOp a.eval ⟨none, .call { callee := .builtin .delete, args := #[x, y], argTypes := tys }, ty, pos, af, g⟩).run P w = .ok (.value (.tuple #[])) { w with heap := w.heap.setIfInBounds b (.map (es.eraseIdxIfInBounds i) clock) } := by
      simp [execOp, resolve, ha.ev hx, ha.ev hy, invoke, builtin, Builtin.delete_, ht, run_underlying hT, run_getObjM hb, run_setObjM _ hb, h1, h2, hl]
    rw [h3]
    have hi2 : i < es.size := by simpa using hi
    refine h _ ⟨delM m k, ⟨_, _, rfl, by rw [Array.eraseIdxIfInBounds, dif_pos hi2, Array.toList_eraseIdx]; exact hup, hnd2, ?_⟩, hfn⟩ a _ ha (hw.setMap hs)
    have hsub : List.Sublist (es.eraseIdxIfInBounds i).toList es.toList := by
      rw [Array.eraseIdxIfInBounds, dif_pos hi2, Array.toList_eraseIdx]
      exact List.eraseIdx_sublist _ _
    exact ⟨(hsub.map _).nodup hA.nd, fun e he => hA.lt e (hsub.subset he)⟩

/-! ### A map that may be nil -/
/-- a map's value and its chunk -/
def MapV (kd : IntKind) (m : List (Int × Value)) (v : Value) (c : Hp) : Prop := (v = .map none ∧ c = [] ∧ m = []) ∨ ∃ b, v = .map (some b) ∧ MapR kd m b c
theorem MapV.nd {kd : IntKind} {m : List (Int × Value)} {v : Value} {c : Hp} (h : MapV kd m v c) : (m.map (·.1)).Nodup := by
  rcases h with ⟨_, _, rfl⟩ | ⟨b, _, es, clock, _, _, hn, _⟩
  · simp
  · exact hn
theorem v_lenMap {x : Operand} {kt e : TypeId} {kd : IntKind} {m : List (Int × Value)} {v : Value} {c : Hp} {tys : Array TypeId} (ht : tys[0]? = some T) (hT : P.underlying T = some (.map kt e)) (hx : Env.ev E x = some v) (hs : Sub c G) (hM : MapV kd m v c) :
    OpV P (St B w0 G) N E (.call { callee := .builtin .len, args := #[x], argTypes := tys }) ty (.int .i64 m.length) := fun a w ha hw => by
  rcases hM with ⟨rfl, rfl, rfl⟩ | ⟨b, rfl, es, clock, rfl, hL, hn, _⟩
  · simp [execOp, resolve, ha.ev hx, invoke, builtin, Builtin.len_, ht, run_underlying hT, goInt, Oper.quietUpon]
  · have hb := hw.sub hs (List.Mem.head _)
    have hl : es.size = m.length := by
      have := congrArg List.length hL
      simpa using this
    simp [execOp, resolve, ha.ev hx, invoke, builtin, Builtin.len_, ht, run_underlying hT, run_getObjM hb, goInt, Oper.quietUpon, hl]

/-! ### Ranging -/
/-- an iterator over a map's value: the entry that it stands at, what is left -/
def ItAt (kd : IntKind) (v : Value) (cm : Hp) (r : Nat) (cur : Option (Int × Value)) (rem : List (Int × Value)) (c : Hp) : Prop :=
  (v = .map none ∧ rem = [] ∧ cur = none ∧ c = [(r, .mapIter none 0 #[] 0)]) ∨
  ∃ b es clock seen c0, v = .map (some b) ∧ cm = [(b, .map es clock)] ∧ Ages es clock ∧ clock ≤ c0 ∧ c = [(r, .mapIter (some b) clock seen c0)] ∧ MapL kd rem (leftOf es seen).toList ∧
    ∀ p, cur = some p → ∃ e ∈ es.toList, e.key = .int kd p.1 ∧ e.val = p.2 ∧ c0 = clock ∧ ∃ s' : Array Nat, seen = s'.push e.born
theorem ow_range {d : Nat} {x : Operand} {kt e : TypeId} {kd : IntKind} {m : List (Int × Value)} {v : Value} {c : Hp} {pos : String} {af : Array Edge} {g : Option (Nat × Bool)} {rest : List Oper} (hg : Env.guard E ops g = some true) (hd : Nat.blt d N = true)
    (hT : P.underlying T = some (.map kt e)) (hx : Env.ev E x = some v) (hs : Sub c G) (hM : MapV kd m v c)
    (h : ∀ r ci, ItAt kd v c r none m ci → OW P ops Q B w0 N (ci :: G) ((d, .pointer (some ⟨r, 0, none⟩)) :: E) rest) : OW P ops Q B w0 N G E (⟨some d, .range T x, ty, pos, af, g⟩ :: rest) := fun a w ha hw => by
  unfold wpList
  rw [if_pos (ha.guard (o := ⟨some d, .range T x, ty, pos, af, g⟩) hg)]
  refine .inl ?_
  unfold Oper.wp
  rcases hM with ⟨rfl, rfl, rfl⟩ | ⟨b, rfl, es, clock, rfl, hL, hn, hA⟩
  · have h3 : (execOp a.eval ⟨some d, .range T x, ty, pos, af, g⟩).run P w = .ok (.value (.pointer (some ⟨w.heap.size, 0, none⟩))) (w.alloc (.mapIter none 0 #[] 0)) := by
      simp [execOp, Instr.range, ha.ev hx, run_underlying hT]
    rw [h3]
    exact h w.heap.size _ (.inl ⟨rfl, rfl, rfl, rfl⟩) _ _ (ha.put (by simpa using hd) _) (hw.new _)
  · have hb := hw.sub hs (List.Mem.head _)
    have h3 : (execOp a.eval ⟨some d, .range T x, ty, pos, af, g⟩).run P w = .ok (.value (.pointer (some ⟨w.heap.size, 0, none⟩))) (w.alloc (.mapIter (some b) clock #[] clock)) := by
      simp [execOp, Instr.range, ha.ev hx, run_underlying hT, run_getObjM hb]
    rw [h3]
    refine h w.heap.size _ (.inr ⟨b, es, clock, #[], clock, rfl, rfl, hA, Nat.le_refl _, rfl, ?_, fun p hp => by cases hp⟩) _ _ (ha.put (by simpa using hd) _) (hw.new _)
    have : leftOf es #[] = es := by unfold leftOf; simp
    rw [this]
    exact hL
theorem v_entry {x : Operand} {kd : IntKind} {r : Nat} {v : Value} {k : Int} {u : Value} {rem : List (Int × Value)} {cm c : Hp} (hx : Env.ev E x = some (.pointer (some ⟨r, 0, none⟩))) (hs : Sub c G) (hs2 : Sub cm G) (hI : ItAt kd v cm r (some (k, u)) rem c) :
    OpV P (St B w0 G) N E (.entry x) ty (.tuple #[.int kd k, u]) := fun a w ha hw => by
  rcases hI with ⟨_, _, h, _⟩ | ⟨b, es, clock, seen, c0, rfl, rfl, hA, hc0, rfl, hL, hcur⟩
  · cases h
  · obtain ⟨e, he, h1, h2, rfl, s', rfl⟩ := hcur _ rfl
    have hr := hw.sub hs (List.Mem.head _)
    have hb := hw.sub hs2 (List.Mem.head _)
    have h3 := run_entry_at (P := P) w r b c0 s' es c0 e hr hb he hA.nd
    rw [h1, h2] at h3
    simp [execOp, ha.ev hx, h3, Oper.quietUpon]
theorem mapL_mem {kd : IntKind} : ∀ {m : List (Int × Value)} {es : List MapEntry} {e : MapEntry}, MapL kd m es → e ∈ es → (es.map (·.born)).Nodup → ∃ k v m', e.key = .int kd k ∧ e.val = v ∧ MapL kd m' (es.filter fun x => !(x.born == e.born)) ∧ m.Perm ((k, v) :: m')
  | [], es, e, h, he, _ => by
    cases es with
    | nil => cases he
    | cons _ _ => simp [MapL] at h
  | p :: m, [], e, h, he, _ => by cases he
  | p :: m, x :: es, e, h, he, hn => by
    simp only [MapL, List.map_cons, List.cons.injEq, Prod.mk.injEq] at h
    obtain ⟨⟨h1, h2⟩, h3⟩ := h
    simp only [List.map_cons, List.nodup_cons] at hn
    rcases List.mem_cons.1 he with rfl | he
    · refine ⟨p.1, p.2, m, h1, h2, ?_, List.Perm.refl _⟩
      rw [List.filter_cons_of_neg (by simp)]
      have : es.filter (fun x => !(x.born == e.born)) = es := List.filter_eq_self.2 fun y hy => by
        have : ¬ y.born = e.born := fun hh => hn.1 (List.mem_map.2 ⟨y, hy, hh⟩)
        simp [this]
      rw [this]
      exact h3
    · obtain ⟨k, v, m', g1, g2, g3, g4⟩ := mapL_mem (m := m) h3 he hn.2
      have hne : ¬ x.born = e.born := fun hh => hn.1 (List.mem_map.2 ⟨e, he, hh.symm⟩)
      refine ⟨k, v, p :: m', g1, g2, ?_, (List.Perm.cons p g4).trans (List.Perm.swap _ _ _)⟩
      rw [List.filter_cons_of_pos (by simp [hne])]
      simp only [MapL, List.map_cons, h1, h2]
      simp only [MapL] at g3
      rw [g3]
theorem left_push {es : Array MapEntry} {seen : Array Nat} {b : Nat} : (leftOf es (seen.push b)).toList = (leftOf es seen).toList.filter fun x => !(x.born == b) := by
  unfold leftOf
  simp only [Array.toList_filter, List.filter_filter]
  congr 1
  funext x
  rw [contains_push]
  cases seen.contains x.born <;> cases x.born == b <;> rfl
theorem ow_next {d : Nat} {x : Operand} {kd : IntKind} {r : Nat} {v : Value} {cur : Option (Int × Value)} {rem : List (Int × Value)} {cm c : Hp} {R : Hp → List Hp} {pos : String} {af : Array Edge} {g : Option (Nat × Bool)} {rest : List Oper} (hg : Env.guard E ops g = some true) (hd : Nat.blt d N = true)
    (hx : Env.ev E x = some (.pointer (some ⟨r, 0, none⟩))) (hsel : Sel G c R) (hs : Sub cm G) (hI : ItAt kd v cm r cur rem c)
    (h0 : rem = [] → OW P ops Q B w0 N (R c) ((d, .tuple #[.bool false]) :: E) rest)
    (h1 : ∀ k u rem' c', rem.Perm ((k, u) :: rem') → ItAt kd v cm r (some (k, u)) rem' c' → OW P ops Q B w0 N (R c') ((d, .tuple #[.bool true, .int kd k, u]) :: E) rest) :
    OW P ops Q B w0 N G E (⟨some d, .next x false, ty, pos, af, g⟩ :: rest) := fun a w ha hw => by
  unfold wpList
  rw [if_pos (ha.guard (o := ⟨some d, .next x false, ty, pos, af, g⟩) hg)]
  refine .inl ?_
  unfold Oper.wp
  rcases hI with ⟨rfl, rfl, _, rfl⟩ | ⟨b, es, clock, seen, c0, rfl, rfl, hA, hc0, rfl, hL, _⟩
  · have hb := hw.read hsel (List.Mem.head _)
    have hob : (getObj r).run P w = .ok (.mapIter none 0 #[] 0) w := by simp [getObj, Sem.run, hb]
    have h3 : (execOp a.eval ⟨some d, .next x false, ty, pos, af, g⟩).run P w = .ok (.value (.tuple #[.bool false])) w := by
      simp [execOp, Instr.next, ha.ev hx, hob]
    rw [h3]
    have he := hsel.eq
    rw [he] at h0
    exact h0 rfl _ _ (ha.put (by simpa using hd) _) hw
  · have hr := hw.read hsel (List.Mem.head _)
    have hb := hw.sub hs (List.Mem.head _)
    rcases run_next_at (P := P) w ty r b clock c0 seen es clock hr hb hA.lt hc0 with ⟨g1, g2⟩ | ⟨e, he, w1, hw1, g2⟩
    · have hrem : rem = [] := by
        have h5 : (leftOf es seen).toList = [] := by
          have : (leftOf es seen).toList.length = 0 := by simpa using g1
          exact List.eq_nil_of_length_eq_zero this
        rw [h5] at hL
        cases rem with
        | nil => rfl
        | cons _ _ => simp [MapL] at hL
      have h3 : (execOp a.eval ⟨some d, .next x false, ty, pos, af, g⟩).run P w = .ok (.value (.tuple #[.bool false])) w := by
        simp [execOp, ha.ev hx, g2]
      rw [h3]
      have he := hsel.eq
      rw [he] at h0
      exact h0 hrem _ _ (ha.put (by simpa using hd) _) hw
    · have hnl : ((leftOf es seen).toList.map (·.born)).Nodup := by
        unfold leftOf
        rw [Array.toList_filter]
        exact (List.filter_sublist.map _).nodup hA.nd
      obtain ⟨k, u, rem', e1, e2, e3, e4⟩ := mapL_mem hL he hnl
      have h3 : (execOp a.eval ⟨some d, .next x false, ty, pos, af, g⟩).run P w = .ok (.value (.tuple #[.bool true, e.key, e.val])) (Go.ChangeMaps.setBlock w1 r (.mapIter (some b) clock (seen.push e.born) clock)) := by
        simp [execOp, ha.ev hx, g2]
      rw [h3, e1, e2]
      have hst1 : St B w0 G w1 := by
        rcases hw1 with rfl | rfl
        · exact hw
        · exact hw.drew
      have hin : e ∈ es.toList := (mem_left he).1
      refine h1 k u rem' [(r, .mapIter (some b) clock (seen.push e.born) clock)] e4 (.inr ⟨b, es, clock, _, clock, rfl, rfl, hA, Nat.le_refl _, rfl, ?_, fun p hp => ?_⟩) _ _ (ha.put (by simpa using hd) _) ?_
      · rw [left_push]; exact e3
      · obtain rfl := Option.some.inj hp
        exact ⟨e, hin, e1, e2, rfl, _, rfl⟩
      · exact hst1.setMap hsel

theorem look_nodup_len {m1 m2 : List (Int × Value)} (h1 : (m1.map (·.1)).Nodup) (hs : ∀ k v, Go.Sl.look m1 k = some v → Go.Sl.look m2 k ≠ none) : m1.length ≤ m2.length := by
  have key : ∀ (l1 l2 : List Int), l1.Nodup → (∀ k ∈ l1, k ∈ l2) → l1.length ≤ l2.length := by
    intro l1
    induction l1 with
    | nil => intro l2 _ _; simp
    | cons x l1 ih =>
      intro l2 hn hsub
      simp only [List.nodup_cons] at hn
      have hx : x ∈ l2 := hsub x (by simp)
      have := ih (l2.erase x) hn.2 fun k hk => by
        have hne : k ≠ x := fun hh => hn.1 (hh ▸ hk)
        exact (List.mem_erase_of_ne hne).2 (hsub k (by simp [hk]))
      rw [List.length_erase_of_mem hx] at this
      have := List.length_pos_of_mem hx
      simp only [List.length_cons]
      omega
  have := key (m1.map (·.1)) (m2.map (·.1)) h1 fun k hk => by
    obtain ⟨p, hp, rfl⟩ := List.mem_map.1 hk
    have h3 := hs p.1 p.2 ((look_mem h1).2 hp)
    unfold Go.Sl.look at h3
    cases hf : m2.find? fun q => decide (q.1 = p.1) with
    | none => rw [hf] at h3; exact absurd rfl h3
    | some q =>
      have h4 := List.find?_some hf
      have h5 := List.mem_of_find?_eq_some hf
      exact List.mem_map.2 ⟨q, h5, by simpa using h4⟩
  simpa using this
end Go.Sl
