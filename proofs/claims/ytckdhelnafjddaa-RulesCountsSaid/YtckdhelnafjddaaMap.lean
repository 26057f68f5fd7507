/- Maps with whole numbers as keys: what a map object holds, how it is read, written, made. Conditions: none; nothing here speaks of a given program. -/
import Derived.Test.YtckdhelnafjddaaStep
namespace Go.Sl
set_option linter.unusedVariables false
set_option linter.unusedSimpArgs false
open Go.RowKit Go Go.Instr

/-- the entries as pairs -/
def MapL (kd : IntKind) (m : List (Int × Value)) (es : List MapEntry) : Prop := es.map (fun e => (e.key, e.val)) = m.map fun p => (Value.int kd p.1, p.2)
def look (m : List (Int × Value)) (k : Int) : Option Value := (m.find? fun p => decide (p.1 = k)).map (·.2)
def lookI (m : List (Int × Value)) (k : Int) : Option (Nat × Value) := match m with
  | [] => none
  | p :: m => if p.1 = k then some (0, p.2) else (lookI m k).map fun q => (q.1 + 1, q.2)

theorem findNow_eq {kd kd' : IntKind} {k : Int} : ∀ {es : List MapEntry} {m : List (Int × Value)} (i : Nat), MapL kd m es → findNow (.int kd') (.int kd k) es i = some ((lookI m k).map fun q => (i + q.1, q.2)) := by
  intro es
  induction es with
  | nil =>
    intro m i h
    cases m with
    | nil => rfl
    | cons p m => simp [MapL] at h
  | cons e es ih =>
    intro m i h
    cases m with
    | nil => simp [MapL] at h
    | cons p m =>
      simp only [MapL, List.map_cons, List.cons.injEq, Prod.mk.injEq] at h
      obtain ⟨⟨h1, h2⟩, h3⟩ := h
      have h4 := ih (m := m) (i + 1) h3
      unfold findNow
      rw [h1]
      simp only [sameNow, if_true]
      by_cases hk : p.1 = k
      · have : (k == p.1) = true := by simp [hk]
        rw [this]
        simp [lookI, hk, h2]
      · have : (k == p.1) = false := by simp; exact fun h => hk h.symm
        rw [this]
        simp only [lookI, if_neg hk]
        rw [h4]
        cases lookI m k with
        | none => rfl
        | some q => simp; omega
theorem lookI_look (m : List (Int × Value)) (k : Int) : (lookI m k).map (·.2) = look m k := by
  induction m with
  | nil => rfl
  | cons p m ih =>
    unfold lookI look
    by_cases hk : p.1 = k
    · simp [hk]
    · rw [if_neg hk, List.find?_cons_of_neg (by simp [hk])]
      rw [look] at ih
      rw [← ih]
      cases lookI m k <;> rfl

variable {P : Program} {ops : Array Oper} {Q : Exit → Act → World → Prop} {B : Nat} {w0 : World} {N : Nat} {G : List Hp} {E : Env} {ty T : TypeId}
/-- a map object, seen as a function -/
def MapF (kd : IntKind) (f : Int → Option Value) (b : Nat) (c : Hp) : Prop := ∃ es clock m, c = [(b, .map es clock)] ∧ MapL kd m es.toList ∧ (m.map (·.1)).Nodup ∧ ∀ k, look m k = f k

theorem run_checkKey {emp : Bool} {n : Nat} {t : TypeId} {kd kd' : IntKind} {k : Int} (ht : P.underlying t = some (.int kd')) (w : World) : (checkKey emp (n + 1) t (.int kd k)).run P w = .ok () w := by
  simp [checkKey, run_underlying ht]
theorem run_findKey {t : TypeId} {kd kd' : IntKind} {k : Int} {es : List MapEntry} {m : List (Int × Value)} (ht : P.underlying t = some (.int kd')) (h : MapL kd m es) (w : World) : (findKey t (.int kd k) es).run P w = .ok (lookI m k) w := by
  have h1 := findNow_eq (kd' := kd') (k := k) 0 h
  simp only [Nat.zero_add] at h1
  have h2 : (lookI m k).map (fun q => (q.1, q.2)) = lookI m k := by cases lookI m k <;> rfl
  rw [h2] at h1
  simp [findKey, run_underlying ht, h1]

theorem run_getObjM {b clock : Nat} {es : Array MapEntry} {w : World} (hb : w.heap[b]? = some (.map es clock)) : (getObj b).run P w = .ok (.map es clock) w := by simp [getObj, Sem.run, hb]
theorem run_setObjM {b clock : Nat} {es : Array MapEntry} {w : World} (o : Obj) (hb : w.heap[b]? = some (.map es clock)) : (setObj b o).run P w = .ok () { w with heap := w.heap.setIfInBounds b o } := by simp [setObj, Sem.run, hb]

theorem v_lookupM {x y : Operand} {kt e : TypeId} {kd kd' : IntKind} {b : Nat} {k : Int} {f : Int → Option Value} {c : Hp} {z : Value} (hT : P.underlying T = some (.map kt e)) (hk : P.underlying kt = some (.int kd')) (hz : ∀ w : World, (zeroValue e).run P w = .ok z w)
    (hx : Env.ev E x = some (.map (some b))) (hy : Env.ev E y = some (.int kd k)) (hs : Sub c G) (hM : MapF kd f b c) : OpV P (St B w0 G) N E (.lookup T x y true) ty (.tuple #[(f k).getD z, .bool (f k).isSome]) := fun a w ha hw => by
  obtain ⟨es, clock, m, rfl, hL, _, hf⟩ := hM
  have hb := hw.sub hs (List.Mem.head _)
  have h1 := run_checkKey (P := P) (emp := es.isEmpty) (n := 9999) (kd := kd) (k := k) hk w
  have h2 := run_findKey (P := P) (k := k) hk hL w
  have h3 := lookI_look m k
  rw [hf] at h3
  have h4 : (execOp a.eval ⟨none, .lookup T x y true, ty, "", #[], none⟩).run P w = .ok (.value (.tuple #[(f k).getD z, .bool (f k).isSome])) w := by
    rw [← h3]
    cases hl : lookI m k with
    | none => simp [execOp, Instr.lookup, ha.ev hx, ha.ev hy, run_underlying hT, run_getObjM hb, h1, h2, hl, hz]
    | some q => simp [execOp, Instr.lookup, ha.ev hx, ha.ev hy, run_underlying hT, run_getObjM hb, h1, h2, hl]
  rw [h4]
  exact ⟨rfl, rfl⟩

theorem v_lookupM0 {x y : Operand} {kt e : TypeId} {kd kd' : IntKind} {b : Nat} {k : Int} {f : Int → Option Value} {c : Hp} {z : Value} (hT : P.underlying T = some (.map kt e)) (hk : P.underlying kt = some (.int kd')) (hz : ∀ w : World, (zeroValue e).run P w = .ok z w)
    (hx : Env.ev E x = some (.map (some b))) (hy : Env.ev E y = some (.int kd k)) (hs : Sub c G) (hM : MapF kd f b c) : OpV P (St B w0 G) N E (.lookup T x y false) ty ((f k).getD z) := fun a w ha hw => by
  obtain ⟨es, clock, m, rfl, hL, _, hf⟩ := hM
  have hb := hw.sub hs (List.Mem.head _)
  have h1 := run_checkKey (P := P) (emp := es.isEmpty) (n := 9999) (kd := kd) (k := k) hk w
  have h2 := run_findKey (P := P) (k := k) hk hL w
  have h3 := lookI_look m k
  rw [hf] at h3
  have h4 : (execOp a.eval ⟨none, .lookup T x y false, ty, "", #[], none⟩).run P w = .ok (.value ((f k).getD z)) w := by
    rw [← h3]
    cases hl : lookI m k with
    | none => simp [execOp, Instr.lookup, ha.ev hx, ha.ev hy, run_underlying hT, run_getObjM hb, h1, h2, hl, hz]
    | some q => simp [execOp, Instr.lookup, ha.ev hx, ha.ev hy, run_underlying hT, run_getObjM hb, h1, h2, hl]
  rw [h4]
  exact ⟨rfl, rfl⟩

/-! ### Writing -/
def updM (m : List (Int × Value)) (k : Int) (v : Value) : List (Int × Value) := match m with
  | [] => [(k, v)]
  | p :: m => if p.1 = k then (k, v) :: m else p :: updM m k v
theorem look_upd (m : List (Int × Value)) (k : Int) (v : Value) (j : Int) : look (updM m k v) j = if j = k then some v else look m j := by
  induction m with
  | nil =>
    unfold updM look
    by_cases h : j = k
    · subst h; simp
    · have : ¬ k = j := fun hh => h hh.symm
      simp [h, this]
  | cons p m ih =>
    unfold updM
    by_cases hp : p.1 = k
    · rw [if_pos hp]
      unfold look
      by_cases h : j = k
      · subst h; simp
      · have h1 : ¬ k = j := fun hh => h hh.symm
        have h2 : ¬ p.1 = j := fun hh => h (hh.symm.trans hp)
        simp [h, h1, h2]
    · rw [if_neg hp]
      unfold look at ih ⊢
      by_cases h2 : p.1 = j
      · have h3 : ¬ j = k := fun hh => hp (h2.trans hh)
        simp [h2, h3]
      · rw [List.find?_cons_of_neg (by simp [h2]), ih, List.find?_cons_of_neg (by simp [h2])]
theorem keys_upd (m : List (Int × Value)) (k : Int) (v : Value) : ∀ x ∈ (updM m k v).map (·.1), x = k ∨ x ∈ m.map (·.1) := by
  induction m with
  | nil => intro x hx; simp [updM] at hx; exact .inl hx
  | cons p m ih =>
    intro x hx
    unfold updM at hx
    by_cases hp : p.1 = k
    · rw [if_pos hp] at hx
      simp only [List.map_cons, List.mem_cons] at hx ⊢
      rcases hx with h | h
      · exact .inl h
      · exact .inr (.inr h)
    · rw [if_neg hp] at hx
      simp only [List.map_cons, List.mem_cons] at hx ⊢
      rcases hx with h | h
      · exact .inr (.inl h)
      · rcases ih x h with h | h
        · exact .inl h
        · exact .inr (.inr h)
theorem nodup_upd {m : List (Int × Value)} (h : (m.map (·.1)).Nodup) (k : Int) (v : Value) : ((updM m k v).map (·.1)).Nodup := by
  induction m with
  | nil => simp [updM]
  | cons p m ih =>
    simp only [List.map_cons, List.nodup_cons] at h
    unfold updM
    by_cases hp : p.1 = k
    · rw [if_pos hp]
      simp only [List.map_cons, List.nodup_cons]
      rw [← hp]
      exact h
    · rw [if_neg hp]
      simp only [List.map_cons, List.nodup_cons]
      refine ⟨fun hh => ?_, ih h.2⟩
      rcases keys_upd m k v _ hh with h1 | h1
      · exact hp h1
      · exact h.1 h1
/-- the entry that is there is another one -/
theorem upd_some {kd : IntKind} {k : Int} {v : Value} : ∀ {es : List MapEntry} {m : List (Int × Value)} {i : Nat} {u : Value}, MapL kd m es → lookI m k = some (i, u) →
    (∃ e, es[i]? = some e ∧ e.key = .int kd k) ∧ ∀ (g : MapEntry → MapEntry), (∀ e, (g e).key = .int kd k ∧ (g e).val = v) → MapL kd (updM m k v) (es.modify i g) := by
  intro es
  induction es with
  | nil =>
    intro m i u h hl
    cases m with
    | nil => simp [lookI] at hl
    | cons p m => simp [MapL] at h
  | cons e es ih =>
    intro m i u h hl
    cases m with
    | nil => simp [lookI] at hl
    | cons p m =>
      simp only [MapL, List.map_cons, List.cons.injEq, Prod.mk.injEq] at h
      obtain ⟨⟨h1, h2⟩, h3⟩ := h
      unfold lookI at hl
      by_cases hp : p.1 = k
      · rw [if_pos hp] at hl
        injection hl with hl
        injection hl with hl1 hl2
        subst hl1
        refine ⟨⟨e, rfl, by rw [h1, hp]⟩, fun g hg => ?_⟩
        have hg1 := hg e
        unfold updM
        rw [if_pos hp]
        simp only [MapL, List.modify_zero_cons, List.map_cons, hg1.1, hg1.2]
        rw [h3]
      · rw [if_neg hp] at hl
        cases hq : lookI m k with
        | none => rw [hq] at hl; cases hl
        | some q =>
          rw [hq] at hl
          obtain ⟨i', u'⟩ := q
          injection hl with hl
          injection hl with hl1 hl2
          subst hl1
          obtain ⟨⟨e', he1, he2⟩, hup⟩ := ih (m := m) h3 hq
          refine ⟨⟨e', by simpa using he1, he2⟩, fun g hg => ?_⟩
          have h4 := hup g hg
          unfold updM
          rw [if_neg hp]
          simp only [MapL, List.modify_succ_cons, List.map_cons, h1, h2]
          simp only [MapL] at h4
          rw [h4]
theorem upd_none {kd : IntKind} {k : Int} {v : Value} {e : MapEntry} (he : e.key = .int kd k ∧ e.val = v) : ∀ {es : List MapEntry} {m : List (Int × Value)}, MapL kd m es → lookI m k = none → MapL kd (updM m k v) (es ++ [e]) := by
  intro es
  induction es with
  | nil =>
    intro m h hl
    cases m with
    | nil => simp [MapL, updM, he.1, he.2]
    | cons p m => simp [MapL] at h
  | cons x es ih =>
    intro m h hl
    cases m with
    | nil => simp [MapL] at h
    | cons p m =>
      simp only [MapL, List.map_cons, List.cons.injEq, Prod.mk.injEq] at h
      obtain ⟨⟨h1, h2⟩, h3⟩ := h
      unfold lookI at hl
      by_cases hp : p.1 = k
      · rw [if_pos hp] at hl; cases hl
      · rw [if_neg hp] at hl
        have h4 := ih (m := m) h3 (by cases hq : lookI m k with | none => rfl | some q => rw [hq] at hl; cases hl)
        unfold updM
        rw [if_neg hp]
        simp only [MapL, List.cons_append, List.map_cons, h1, h2] at h4 ⊢
        rw [h4]

theorem run_keyStays {kd : IntKind} {k : Int} {w : World} : (keyThatStays (.int kd k) (.int kd k)).run P w = .ok (.int kd k) w := by
  have h : sameBits 10000 (.int kd k) (.int kd k) = true := by
    show sameBits (9999 + 1) (.int kd k) (.int kd k) = true
    simp [sameBits]
  simp [keyThatStays, h]
theorem St.setMap {w : World} (h : St B w0 G w) {b : Nat} {o o' : Obj} {R : Hp → List Hp} (hs : Sel G [(b, o)] R) : St B w0 (R [(b, o')]) { w with heap := w.heap.setIfInBounds b o' } := by
  have hb := h.read hs (List.Mem.head _)
  have hlt : b < w.heap.size := (Array.getElem?_eq_some_iff.1 hb).1
  exact h.write hs rfl rfl rfl (by simp) (by simp [hlt]) fun k hk => by simp [Array.getElem?_setIfInBounds_ne (Ne.symm hk)]

theorem ow_mapUpdate {x y u : Operand} {kt e : TypeId} {kd kd' : IntKind} {b : Nat} {k : Int} {v : Value} {f : Int → Option Value} {c : Hp} {R : Hp → List Hp} {pos : String} {af : Array Edge} {g : Option (Nat × Bool)} {rest : List Oper} (hg : Env.guard E ops g = some true)
    (hT : P.underlying T = some (.map kt e)) (hk : P.underlying kt = some (.int kd')) (hx : Env.ev E x = some (.map (some b))) (hy : Env.ev E y = some (.int kd k)) (hu : Env.ev E u = some v) (hs : Sel G c R) (hM : MapF kd f b c)
    (h : ∀ c', MapF kd (fun j => if j = k then some v else f j) b c' → OW P ops Q B w0 N (R c') E rest) : OW P ops Q B w0 N G E (⟨none, .mapUpdate T x y u, ty, pos, af, g⟩ :: rest) := fun a w ha hw => by
  unfold wpList
  rw [if_pos (ha.guard (o := ⟨none, .mapUpdate T x y u, ty, pos, af, g⟩) hg)]
  obtain ⟨es, clock, m, rfl, hL, hnd, hf⟩ := hM
  have hb := hw.read hs (List.Mem.head _)
  refine .inl ?_
  unfold Oper.wp
  have h1 := run_checkKey (P := P) (emp := false) (n := 9999) (kd := kd) (k := k) hk w
  have h2 := run_findKey (P := P) (k := k) hk hL w
  have hfn : ∀ j, look (updM m k v) j = if j = k then some v else f j := fun j => by rw [look_upd, hf]
  cases hl : lookI m k with
  | none =>
    have h3 : (execOp a.eval ⟨none, .mapUpdate T x y u, ty, pos, af, g⟩).run P w = .ok .skip { w with heap := w.heap.setIfInBounds b (.map (es.push { key := .int kd k, val := v, born := clock }) (clock + 1)) } := by
      simp [execOp, Instr.mapUpdate, ha.ev hx, ha.ev hy, ha.ev hu, run_underlying hT, run_getObjM hb, run_setObjM _ hb, h1, h2, hl]
    rw [h3]
    exact h _ ⟨_, _, updM m k v, rfl, by rw [Array.toList_push]; exact upd_none ⟨rfl, rfl⟩ hL hl, nodup_upd hnd k v, hfn⟩ a _ ha (hw.setMap hs)
  | some q =>
    obtain ⟨i, u0⟩ := q
    obtain ⟨⟨e0, he1, he2⟩, hup⟩ := upd_some (v := v) hL hl
    have he3 : es[i]? = some e0 := by simpa using he1
    have h3 : (execOp a.eval ⟨none, .mapUpdate T x y u, ty, pos, af, g⟩).run P w = .ok .skip { w with heap := w.heap.setIfInBounds b (.map (es.modify i fun e => { e with key := .int kd k, val := v }) clock) } := by
      simp [execOp, Instr.mapUpdate, ha.ev hx, ha.ev hy, ha.ev hu, run_underlying hT, run_getObjM hb, run_setObjM _ hb, h1, h2, hl, he3, he2, run_keyStays]
    rw [h3]
    exact h _ ⟨_, _, updM m k v, rfl, by rw [Array.toList_modify]; exact hup _ fun e => ⟨rfl, rfl⟩, nodup_upd hnd k v, hfn⟩ a _ ha (hw.setMap hs)

theorem ow_makeMap {d : Nat} {kd : IntKind} {pos : String} {af : Array Edge} {g : Option (Nat × Bool)} {rest : List Oper} (hg : Env.guard E ops g = some true) (hd : Nat.blt d N = true)
    (h : ∀ b c, MapF kd (fun _ => none) b c → OW P ops Q B w0 N (c :: G) ((d, .map (some b)) :: E) rest) : OW P ops Q B w0 N G E (⟨some d, .makeMap T none, ty, pos, af, g⟩ :: rest) := fun a w ha hw => by
  unfold wpList
  rw [if_pos (ha.guard (o := ⟨some d, .makeMap T none, ty, pos, af, g⟩) hg)]
  refine .inl ?_
  unfold Oper.wp
  have h3 : (execOp a.eval ⟨some d, .makeMap T none, ty, pos, af, g⟩).run P w = .ok (.value (.map (some w.heap.size))) (w.alloc (.map #[] 0)) := by
    simp [execOp, Instr.makeMap]
  rw [h3]
  exact h w.heap.size _ ⟨#[], 0, [], rfl, by simp [MapL], by simp, fun k => rfl⟩ _ _ (ha.put (by simpa using hd) _) (hw.new _)

/-! ### delete -/
def delM (m : List (Int × Value)) (k : Int) : List (Int × Value) := m.filter fun p => !decide (p.1 = k)
theorem look_del (m : List (Int × Value)) (k j : Int) : look (delM m k) j = if j = k then none else look m j := by
  unfold look delM
  induction m with
  | nil => by_cases h : j = k <;> simp [h]
  | cons p m ih =>
    by_cases hp : p.1 = k
    · rw [List.filter_cons_of_neg (by simp [hp]), ih]
      by_cases h : j = k
      · simp [h]
      · rw [if_neg h, if_neg h, List.find?_cons_of_neg (by simp; exact fun hh => h (hh.symm.trans hp))]
    · rw [List.filter_cons_of_pos (by simp [hp])]
      by_cases h2 : p.1 = j
      · have h3 : ¬ j = k := fun hh => hp (h2.trans hh)
        simp [h2, h3]
      · rw [List.find?_cons_of_neg (by simp [h2]), ih, List.find?_cons_of_neg (by simp [h2])]
theorem del_none {m : List (Int × Value)} {k : Int} (h : lookI m k = none) : delM m k = m := by
  induction m with
  | nil => rfl
  | cons p m ih =>
    unfold lookI at h
    by_cases hp : p.1 = k
    · rw [if_pos hp] at h; cases h
    · rw [if_neg hp] at h
      have h2 := ih (by cases hq : lookI m k with | none => rfl | some q => rw [hq] at h; cases h)
      unfold delM at h2 ⊢
      rw [List.filter_cons_of_pos (by simp [hp]), h2]
theorem del_some {kd : IntKind} {k : Int} : ∀ {es : List MapEntry} {m : List (Int × Value)} {i : Nat} {u : Value}, MapL kd m es → (m.map (·.1)).Nodup → lookI m k = some (i, u) → i < es.length ∧ MapL kd (delM m k) (es.eraseIdx i) := by
  intro es
  induction es with
  | nil =>
    intro m i u h _ hl
    cases m with
    | nil => simp [lookI] at hl
    | cons p m => simp [MapL] at h
  | cons e es ih =>
    intro m i u h hnd hl
    cases m with
    | nil => simp [lookI] at hl
    | cons p m =>
      simp only [MapL, List.map_cons, List.cons.injEq, Prod.mk.injEq] at h
      obtain ⟨⟨h1, h2⟩, h3⟩ := h
      simp only [List.map_cons, List.nodup_cons] at hnd
      unfold lookI at hl
      by_cases hp : p.1 = k
      · rw [if_pos hp] at hl
        injection hl with hl
        injection hl with hl1 hl2
        subst hl1
        have h4 : delM m k = m := by
          unfold delM
          refine List.filter_eq_self.2 fun q hq => ?_
          have : ¬ q.1 = k := fun hh => hnd.1 (List.mem_map.2 ⟨q, hq, hh.trans hp.symm⟩)
          simp [this]
        refine ⟨by simp, ?_⟩
        have h5 : delM (p :: m) k = m := by
          have : delM (p :: m) k = delM m k := List.filter_cons_of_neg (by simp [hp])
          rw [this, h4]
        rw [h5]
        simpa [MapL] using h3
      · rw [if_neg hp] at hl
        cases hq : lookI m k with
        | none => rw [hq] at hl; cases hl
        | some q =>
          rw [hq] at hl
          obtain ⟨i', u'⟩ := q
          injection hl with hl
          injection hl with hl1 hl2
          subst hl1
          obtain ⟨g1, g2⟩ := ih (m := m) h3 hnd.2 hq
          refine ⟨by simpa using g1, ?_⟩
          have h5 : delM (p :: m) k = p :: delM m k := List.filter_cons_of_pos (by simp [hp])
          rw [h5]
          simp only [MapL] at g2 ⊢
          simp only [List.eraseIdx_cons_succ, List.map_cons, h1, h2, g2]

theorem ow_delete {x y : Operand} {kt e : TypeId} {kd kd' : IntKind} {b : Nat} {k : Int} {f : Int → Option Value} {c : Hp} {R : Hp → List Hp} {tys : Array TypeId} {pos : String} {af : Array Edge} {g : Option (Nat × Bool)} {rest : List Oper} (hg : Env.guard E ops g = some true)
    (ht : tys[0]? = some T) (hT : P.underlying T = some (.map kt e)) (hk : P.underlying kt = some (.int kd')) (hx : Env.ev E x = some (.map (some b))) (hy : Env.ev E y = some (.int kd k)) (hs : Sel G c R) (hM : MapF kd f b c)
    (h : ∀ c', MapF kd (fun j => if j = k then none else f j) b c' → OW P ops Q B w0 N (R c') E rest) : OW P ops Q B w0 N G E (⟨none, .call { callee := .builtin .delete, args := #[x, y], argTypes := tys }, ty, pos, af, g⟩ :: rest) := fun a w ha hw => by
  unfold wpList
  rw [if_pos (ha.guard (o := ⟨none, .call { callee := .builtin .delete, args := #[x, y], argTypes := tys }, ty, pos, af, g⟩) hg)]
  obtain ⟨es, clock, m, rfl, hL, hnd, hf⟩ := hM
  have hb := hw.read hs (List.Mem.head _)
  refine .inl ?_
  unfold Oper.wp
  have h1 := run_checkKey (P := P) (emp := es.isEmpty) (n := 9999) (kd := kd) (k := k) hk w
  have h2 := run_findKey (P := P) (k := k) hk hL w
  have hfn : ∀ j, look (delM m k) j = if j = k then none else f j := fun j => by rw [look_del, hf]
  have hnd2 : ((delM m k).map (·.1)).Nodup := List.Nodup.sublist (List.Sublist.map _ List.filter_sublist) hnd
  cases hl : lookI m k with
  | none =>
    have h3 : (execOp a.eval ⟨none, .call { callee := .builtin .delete, args := #[x, y], argTypes := tys }, ty, pos, af, g⟩).run P w = .ok (.value (.tuple #[])) { w with heap := w.heap.setIfInBounds b (.map es clock) } := by
      simp [execOp, resolve, ha.ev hx, ha.ev hy, invoke, builtin, Builtin.delete_, ht, run_underlying hT, run_getObjM hb, run_setObjM _ hb, h1, h2, hl]
    rw [h3]
    exact h _ ⟨_, _, delM m k, rfl, by rw [del_none hl]; exact hL, hnd2, hfn⟩ a _ ha (hw.setMap hs)
  | some q =>
    obtain ⟨i, u0⟩ := q
    obtain ⟨hi, hup⟩ := del_some hL hnd hl
    have h3 : (execOp a.eval ⟨none, .call { callee := .builtin .delete, args := #[x, y], argTypes := tys }, ty, pos, af, g⟩).run P w = .ok (.value (.tuple #[])) { w with heap := w.heap.setIfInBounds b (.map (es.eraseIdxIfInBounds i) clock) } := by
      simp [execOp, resolve, ha.ev hx, ha.ev hy, invoke, builtin, Builtin.delete_, ht, run_underlying hT, run_getObjM hb, run_setObjM _ hb, h1, h2, hl]
    rw [h3]
    have hi2 : i < es.size := by simpa using hi
    exact h _ ⟨_, _, delM m k, rfl, by rw [Array.eraseIdxIfInBounds, dif_pos hi2, Array.toList_eraseIdx]; exact hup, hnd2, hfn⟩ a _ ha (hw.setMap hs)
end Go.Sl
