/- Regions that draw their order, whose operations read, but for some at the end (the tail), each of which waits for all that reads memory: one walk in the text's order serves every order. Conditions: none; nothing here speaks of a given program. -/
import Derived.Test.YtckdhelnafjddaaMem
namespace Go.Sl
set_option linter.unusedVariables false
set_option linter.unusedSimpArgs false
open Go.RowKit Go

variable {P : Program} {ops : Array Oper} {md : Region.Mode} {C : World → Prop} {B : Nat} {w0 : World}

/-- it looks at memory -/
def readsMem (o : Oper) : Bool := match o.op with
  | .move _ | .assign _ | .pick .. | .nilCheck _ | .binOp .. | .unOp .. | .fieldAddr .. | .indexAddr .. | .slice .. | .extract .. | .build .. | .field .. | .index .. | .makeFunc .. => false
  | .call { callee := .builtin .len, .. } | .call { callee := .builtin .cap, .. } | .call { callee := .builtin .min, .. } | .call { callee := .builtin .max, .. } => false
  | _ => true

/-- what is asked of an operation of the head -/
def headAt (P : Program) (o : Oper) (a : Act) (C : World → Prop) (v : Value) : Prop :=
  (∀ w, C w → o.quietAt P a C w v) ∧ (readsMem o = false → ∀ w, (execOp a.eval o).run P w = .ok (.value v) w)

def wpHead (P : Program) (ops : Array Oper) (C : World → Prop) (Q : Act → Prop) : List Oper → Act → Prop
  | [], a => Q a
  | o :: rest, a => if Region.wanted o (yielded ops a.tmps) then ∃ v, headAt P o a C v ∧ wpHead P ops C Q rest (a.put o.dst v) else wpHead P ops C Q rest (a.put o.dst undef)

def hOp (P : Program) (ops : Array Oper) (C : World → Prop) (i : Nat) (K : Act → Prop) (a : Act) : Prop :=
  match ops[i]? with
  | none => K a
  | some o => if Region.wanted o (yielded ops a.tmps) then ∃ v, headAt P o a C v ∧ K (a.put o.dst v) else K (a.put o.dst undef)

theorem hOp_mono {i : Nat} {a : Act} {K K' : Act → Prop} (h : ∀ a, K a → K' a) (hh : hOp P ops C i K a) : hOp P ops C i K' a := by
  unfold hOp at *
  split
  · rename_i ho; simp only [ho] at hh; exact h _ hh
  · rename_i o ho
    simp only [ho] at hh
    split
    · rename_i hw; simp only [hw, if_true] at hh; obtain ⟨v, h1, h2⟩ := hh; exact ⟨v, h1, h _ h2⟩
    · rename_i hw; simp only [hw] at hh; exact h _ hh

/-- an operation that lays a new block, and is no call -/
def softAt (P : Program) (B : Nat) (w0 : World) (G : List Hp) (o : Oper) (a : Act) (obj : Obj) (mk : Nat → Value) : Prop :=
  ∀ w, St B w0 G w → (execOp a.eval o).run P w = .ok (.value (mk w.heap.size)) (w.alloc obj)
def sOp (P : Program) (ops : Array Oper) (B : Nat) (w0 : World) (j : Nat) (K : List Hp → Act → Prop) (G : List Hp) (a : Act) : Prop :=
  match ops[j]? with
  | none => K G a
  | some o => if Region.wanted o (yielded ops a.tmps) then ∃ obj mk, softAt P B w0 G o a obj mk ∧ ∀ b, K ([(b, obj)] :: G) (a.put o.dst (mk b)) else K G (a.put o.dst undef)

/-- every order of the head, the soft ones and the tail as they come -/
def wpM (P : Program) (md : Region.Mode) (ops : Array Oper) (B : Nat) (w0 : World) (sf tl : List Nat) (Q : Exit → Act → World → Prop) : Nat → Array Bool → List Hp → Act → Prop
  | 0, listed, G, a => Region.ready md ops listed = [] ∧ ∀ w, St B w0 G w → Q .normal a w
  | fuel + 1, listed, G, a =>
    (Region.ready md ops listed = [] → ∀ w, St B w0 G w → Q .normal a w) ∧
    ∀ i ∈ Region.ready md ops listed, if tl.contains i then ∀ w, St B w0 G w → wpOp P ops Q i (wpAny P md ops Q fuel (listed.setIfInBounds i true)) a w
      else if sf.contains i then sOp P ops B w0 i (wpM P md ops B w0 sf tl Q fuel (listed.setIfInBounds i true)) G a
      else hOp P ops (St B w0 G) i (wpM P md ops B w0 sf tl Q fuel (listed.setIfInBounds i true) G) a

theorem wpOp_of_hOp {i : Nat} {a : Act} {K : Act → Prop} {K' : Act → World → Prop} {Q : Exit → Act → World → Prop} {w : World} (hC : C w) (h : ∀ a w', C w' → K a → K' a w') (hh : hOp P ops C i K a) : wpOp P ops Q i K' a w := by
  unfold hOp at hh
  unfold wpOp
  split
  · rename_i ho; simp only [ho] at hh; exact h _ _ hC hh
  · rename_i o ho
    simp only [ho] at hh
    split
    · rename_i hw
      simp only [hw, if_true] at hh
      obtain ⟨v, h1, h2⟩ := hh
      exact .inl (Oper.wp_of_quiet (K := fun a' => a' = a.put o.dst v) hC (fun a' w' hw' e => by subst e; exact h _ _ hw' h2) ⟨v, h1.1, rfl⟩)
    · rename_i hw; simp only [hw] at hh; exact h _ _ hC hh

theorem wpOp_of_sOp {i : Nat} {a : Act} {K : List Hp → Act → Prop} {K' : Act → World → Prop} {Q : Exit → Act → World → Prop} {G : List Hp} {w : World} (hw : St B w0 G w) (h : ∀ G a w', St B w0 G w' → K G a → K' a w') (hh : sOp P ops B w0 i K G a) : wpOp P ops Q i K' a w := by
  unfold sOp at hh
  unfold wpOp
  split
  · rename_i ho; simp only [ho] at hh; exact h _ _ _ hw hh
  · rename_i o ho
    simp only [ho] at hh
    split
    · rename_i hwt
      simp only [hwt, if_true] at hh
      obtain ⟨obj, mk, h1, h2⟩ := hh
      refine .inl ?_
      unfold Oper.wp
      rw [h1 w hw]
      exact h _ _ _ (hw.new obj) (h2 _)
    · rename_i hwt; simp only [hwt] at hh; exact h _ _ _ hw hh

theorem wpAny_of_M {sf tl : List Nat} {Q : Exit → Act → World → Prop} : ∀ (fuel : Nat) (listed : Array Bool) (G : List Hp) (a : Act) (w : World), St B w0 G w → wpM P md ops B w0 sf tl Q fuel listed G a → wpAny P md ops Q fuel listed a w
  | 0, _, _, _, w, hw, h => ⟨h.1, h.2 w hw⟩
  | fuel + 1, _, G, _, w, hw, h => ⟨fun h0 => h.1 h0 w hw, fun i hi => by
      have h1 := h.2 i hi
      split at h1
      · exact h1 w hw
      · split at h1
        · exact wpOp_of_sOp hw (fun G' a' w' hw' => wpAny_of_M fuel _ G' a' w' hw') h1
        · exact wpOp_of_hOp hw (fun a' w' hw' => wpAny_of_M fuel _ G a' w' hw') h1⟩

/-- In state 'a' operation 'o' of the head leaves 'v'. -/
def YieldsH (P : Program) (ops : Array Oper) (C : World → Prop) (o : Oper) (v : Value) (a : Act) : Prop :=
  (Region.wanted o (yielded ops a.tmps) = true ∧ headAt P o a C v) ∨ (Region.wanted o (yielded ops a.tmps) = false ∧ v = undef)

theorem YieldsH.hOp {i : Nat} {o : Oper} {v : Value} {a : Act} (hi : ops[i]? = some o) (hy : YieldsH P ops C o v a) {K : Act → Prop} (h : K (a.put o.dst v)) : hOp P ops C i K a := by
  unfold Go.Sl.hOp
  simp only [hi]
  rcases hy with ⟨hw, hv⟩ | ⟨hw, rfl⟩
  · simp only [hw, if_true]; exact ⟨v, hv, h⟩
  · simp only [hw, Bool.false_eq_true, if_false]; exact h

theorem YieldsH.of_same {o : Oper} {v : Value} {a a' : Act} (hy : YieldsH P ops C o v a) (he : execOp a'.eval o = execOp a.eval o)
    (hw : Region.wanted o (yielded ops a'.tmps) = Region.wanted o (yielded ops a.tmps)) : YieldsH P ops C o v a' := by
  unfold YieldsH headAt Oper.quietAt at *
  rw [he, hw]
  exact hy

theorem YieldsH.pure {o : Oper} {v : Value} {a : Act} (hy : YieldsH P ops C o v a) (hr : readsMem o = false) : Yields P ops o v a := by
  rcases hy with ⟨h1, h2⟩ | h
  · exact .inl ⟨h1, h2.2 hr⟩
  · exact .inr h

theorem yieldsH_of_hOp {i : Nat} {o : Oper} {a : Act} {K : Act → Prop} (hi : ops[i]? = some o) (h : hOp P ops C i K a) : ∃ v, YieldsH P ops C o v a ∧ K (a.put o.dst v) := by
  unfold hOp at h
  simp only [hi] at h
  by_cases hw : Region.wanted o (yielded ops a.tmps) = true
  · simp only [hw, if_true] at h
    obtain ⟨v, h1, h2⟩ := h
    exact ⟨v, .inl ⟨hw, h1⟩, h2⟩
  · simp only [hw] at h
    exact ⟨undef, .inr ⟨by simpa using hw, rfl⟩, h⟩

theorem hOp_put {j : Nat} {oi oj : Oper} {v : Value} (hj : ops[j]? = some oj) (hap : oi.apart ops oj = true)
    (hsi : ∀ cs b, oi.op ≠ .select cs b) (hsj : ∀ cs b, oj.op ≠ .select cs b) {K : Act → Prop} {a : Act}
    (hy : YieldsH P ops C oi v a) (h : hOp P ops C j K (a.put oi.dst v)) :
    hOp P ops C j (fun a' => YieldsH P ops C oi v a' ∧ K (a'.put oi.dst v)) a := by
  obtain ⟨h1, h2, h3⟩ := Oper.apart_spec hap
  have keep : ∀ (a : Act), YieldsH P ops C oi v a → ∀ u, YieldsH P ops C oi v (a.put oj.dst u) := fun a hy u =>
    hy.of_same (execOp_put oi hsi a oj.dst u h3) (wanted_put oi a oj.dst u h3)
  unfold hOp at *
  simp only [hj] at *
  rw [wanted_put oj a oi.dst v h1] at h
  split
  · rename_i hw
    simp only [hw, if_true] at h
    obtain ⟨u, hu, hn⟩ := h
    refine ⟨u, ?_, keep a hy u, by rw [← Act.put_comm a v u h2]; exact hn⟩
    unfold headAt Oper.quietAt at *
    rwa [execOp_put oj hsj a oi.dst v h1] at hu
  · rename_i hw
    simp only [hw] at h
    exact ⟨keep a hy _, by rw [← Act.put_comm a v undef h2]; exact h⟩

/-- it is no call of a function of the program -/
def noCall (o : Oper) : Bool := match o.op with
  | .load .. | .convert .. => true
  | _ => !readsMem o

theorem value_of {s : Sem Value} {w w' : World} {n : Next} (h : (do pure (Next.value (← s)) : Sem Next).run P w = .ok n w') : ∃ u, n = .value u := by
  rw [Sem.run_bind] at h
  cases hs : s.run P w with
  | ok v w1 => rw [hs] at h; simp at h; exact ⟨v, h.1.symm⟩
  | halt x w1 => rw [hs] at h; simp at h

theorem noCall_value {ρ : Operand → Value} {o : Oper} (ho : noCall o = true) (hr : readsMem o = true) {w w' : World} {n : Next} (h : (execOp ρ o).run P w = .ok n w') : ∃ u, n = .value u := by
  obtain ⟨d, op, ty, pos, af, g⟩ := o
  cases op <;> (try (simp [noCall, hr] at ho; done)) <;> (try (simp [readsMem] at hr; done))
  all_goals exact value_of h

theorem headAt.more {o : Oper} {a : Act} {v : Value} {G : List Hp} {c : Hp} (hn : noCall o = true) (h : headAt P o a (St B w0 G) v) : headAt P o a (St B w0 (c :: G)) v := by
  refine ⟨fun w hw => ?_, h.2⟩
  cases hr : readsMem o with
  | false =>
    have := h.2 hr w
    unfold Oper.quietAt
    rw [this]
    exact ⟨rfl, rfl⟩
  | true =>
    have h1 := h.1 w (hw.weak (List.sublist_cons_self _ _))
    unfold Oper.quietAt at h1 ⊢
    cases hq : (execOp a.eval o).run P w with
    | halt x w' => rw [hq] at h1; exact h1
    | ok n w' =>
      obtain ⟨u, rfl⟩ := noCall_value hn hr hq
      rw [hq] at h1
      exact h1
theorem YieldsH.more {o : Oper} {a : Act} {v : Value} {G : List Hp} {c : Hp} (hn : noCall o = true) (h : YieldsH P ops (St B w0 G) o v a) : YieldsH P ops (St B w0 (c :: G)) o v a := by
  rcases h with ⟨h1, h2⟩ | h
  · exact .inl ⟨h1, h2.more hn⟩
  · exact .inr h

/-- what is listed, all that it waits for is -/
def Closed (md : Region.Mode) (ops : Array Oper) (listed : Array Bool) : Prop := ∀ (k : Nat) (o : Oper), ops[k]? = some o → listed.getD k false = true → ∀ e ∈ o.after, Region.binds md e = true → listed.getD e.on false = true
theorem getD_mono {listed : Array Bool} {j x : Nat} (h : listed.getD x false = true) : (listed.setIfInBounds j true).getD x false = true := by
  rw [Array.getD_eq_getD_getElem?] at *
  by_cases hjx : j = x
  · subst hjx
    by_cases hs : j < listed.size
    · simp [hs]
    · simp [Array.getElem?_eq_none (Nat.le_of_not_lt hs)] at h
  · rw [Array.getElem?_setIfInBounds_ne hjx]; exact h
theorem getD_back {listed : Array Bool} {j x : Nat} (hjx : j ≠ x) (h : (listed.setIfInBounds j true).getD x false = true) : listed.getD x false = true := by
  rw [Array.getD_eq_getD_getElem?] at *
  rwa [Array.getElem?_setIfInBounds_ne hjx] at h
theorem Closed.add {listed : Array Bool} (h : Closed md ops listed) {j : Nat} (hj : j ∈ Region.ready md ops listed) : Closed md ops (listed.setIfInBounds j true) := fun k o hk hl e he hb => by
  obtain ⟨_, oj, hoj, hall⟩ := mem_ready.1 hj
  by_cases hjk : j = k
  · subst hjk
    rw [hoj] at hk
    cases hk
    exact getD_mono (hall e he hb)
  · exact getD_mono (h k o hk (getD_back hjk hl) e he hb)
theorem Closed.start (n : Nat) : Closed md ops (Array.replicate n false) := fun k o hk hl => by
  exfalso
  rw [Array.getD_eq_getD_getElem?, Array.getElem?_replicate] at hl
  split at hl <;> simp at hl
/-- t waits for i, by way of others -/
def reaches (md : Region.Mode) (ops : Array Oper) (i : Nat) : Nat → Nat → Bool
  | 0, _ => false
  | n + 1, t => match ops[t]? with
    | some o => o.after.any fun e => Region.binds md e && (e.on == i || reaches md ops i n e.on)
    | none => false
theorem reaches_listed {listed : Array Bool} {i : Nat} (hc : Closed md ops listed) : ∀ (n t : Nat) (o : Oper), ops[t]? = some o → (∀ e ∈ o.after, Region.binds md e = true → listed.getD e.on false = true) → reaches md ops i n t = true → listed.getD i false = true
  | 0, t, o, _, _, h => by simp [reaches] at h
  | n + 1, t, o, ho, hall, h => by
    simp only [reaches, ho] at h
    obtain ⟨e, he, h2⟩ := Array.any_eq_true'.1 h
    simp only [Bool.and_eq_true, Bool.or_eq_true, beq_iff_eq] at h2
    rcases h2.2 with h3 | h3
    · subst h3
      exact hall e he h2.1
    · cases hk : ops[e.on]? with
      | none => cases n <;> simp [reaches, hk] at h3
      | some o' => exact reaches_listed hc n e.on o' hk (hc e.on o' hk (hall e he h2.1)) h3
theorem not_listed {listed : Array Bool} {i : Nat} (h : listed.getD i true = false) : listed.getD i false = false := by
  rw [Array.getD_eq_getD_getElem?] at *
  cases hq : listed[i]? with
  | none => rw [hq] at h; simp at h
  | some b => rw [hq] at h; simpa using h

/-- operation i of the head may be taken first -/
theorem wpM_first {sf tl : List Nat} {Q : Exit → Act → World → Prop} {i : Nat} {oi : Oper} {v : Value} (hi : ops[i]? = some oi) (hsel : ∀ (j : Nat) (o : Oper) cs b, ops[j]? = some o → o.op ≠ .select cs b)
    (hQ : ∀ c a w, ¬ Q (.panic c) a w) (hit : tl.contains i = false) (his : sf.contains i = false)
    (hwait : readsMem oi = true → ∀ t ∈ tl, reaches md ops i 99 t = true)
    (hwaitS : noCall oi = false → ∀ t ∈ sf, reaches md ops i 99 t = true) :
    ∀ (fuel : Nat) (listed : Array Bool) (G : List Hp) (a : Act), Closed md ops listed →
      (∀ j oj, ops[j]? = some oj → j ≠ i → listed.getD j true = false → (∀ e ∈ oj.after, Region.binds md e = true → e.on ≠ i) → oi.apart ops oj = true) →
      i ∈ Region.ready md ops listed → YieldsH P ops (St B w0 G) oi v a →
      wpM P md ops B w0 sf tl Q fuel (listed.setIfInBounds i true) G (a.put oi.dst v) → wpM P md ops B w0 sf tl Q (fuel + 1) listed G a := by
  intro fuel
  induction fuel with
  | zero =>
    intro listed G a _ _ hr hy H
    refine ⟨fun h => (by rw [h] at hr; cases hr), fun j hj => ?_⟩
    by_cases hji : j = i
    · subst hji; rw [if_neg (by simp at hit ⊢; exact hit), if_neg (by simp at his ⊢; exact his)]; exact hy.hOp hi H
    · have := ready_mono hj hji
      rw [H.1] at this
      cases this
  | succ fuel ih =>
    intro listed G a hcl hfree hr hy H
    refine ⟨fun h => (by rw [h] at hr; cases hr), fun j hj => ?_⟩
    by_cases hji : j = i
    · subst hji; rw [if_neg (by simp at hit ⊢; exact hit), if_neg (by simp at his ⊢; exact his)]; exact hy.hOp hi H
    · have h1 := H.2 j (ready_mono hj hji)
      obtain ⟨hjun, oj, hoj, hall⟩ := mem_ready.1 hj
      have hnot : ∀ e ∈ oj.after, Region.binds md e = true → e.on ≠ i := fun e he hb heq => by
        have h1 := hall e he hb
        have h0 := (mem_ready.1 hr).1
        rw [heq] at h1
        rcases Nat.lt_or_ge i listed.size with h' | h'
        · simp [h'] at h0 h1; rw [h0] at h1; cases h1
        · simp [Array.getElem?_eq_none h'] at h1
      have hap := hfree j oj hoj hji hjun hnot
      have hfree' : ∀ k ok, ops[k]? = some ok → k ≠ i → (listed.setIfInBounds j true).getD k true = false →
          (∀ e ∈ ok.after, Region.binds md e = true → e.on ≠ i) → oi.apart ops ok = true := fun k ok hk hki hun hno => by
        refine hfree k ok hk hki ?_ hno
        by_cases hjk : j = k
        · subst hjk; exact hjun
        · rw [getD_set_ne true hjk] at hun; exact hun
      split at h1
      · rename_i htl
        rw [if_pos htl]
        -- a tail operation: then i is pure
        have hpure : readsMem oi = false := by
          cases hrm : readsMem oi with
          | false => rfl
          | true =>
            have h5 := reaches_listed hcl 99 j oj hoj hall (hwait hrm j (by simpa using htl))
            rw [not_listed (mem_ready.1 hr).1] at h5
            cases h5
        intro w hw
        have hyp := hy.pure hpure
        have h2 := wpOp_put hoj hap (fun cs b => hsel i oi cs b hi) (fun cs b => hsel j oj cs b hoj) (Q := Q) (fun c a w hq => absurd hq (hQ c _ w)) hyp (h1 w hw)
        refine wpOp_mono (fun a' w' h3 => ?_) h2
        refine wpAny_first hi hsel (fun c a w hq => absurd hq (hQ c _ w)) fuel (listed.setIfInBounds j true) a' w' hfree' (ready_mono hr (Ne.symm hji)) h3.1 ?_
        rw [Array.setIfInBounds_comm _ _ hji]
        exact h3.2
      · rename_i htl
        rw [if_neg htl]
        split at h1
        · rename_i hsfj
          rw [if_pos hsfj]
          have hnc : noCall oi = true := by
            cases hrm : noCall oi with
            | true => rfl
            | false =>
              have h5 := reaches_listed hcl 99 j oj hoj hall (hwaitS hrm j (by simpa using hsfj))
              rw [not_listed (mem_ready.1 hr).1] at h5
              cases h5
          obtain ⟨p1, p2, p3⟩ := Oper.apart_spec hap
          have keep : ∀ u, YieldsH P ops (St B w0 G) oi v (a.put oj.dst u) := fun u =>
            hy.of_same (execOp_put oi (fun cs b => hsel i oi cs b hi) a oj.dst u p3) (wanted_put oi a oj.dst u p3)
          unfold sOp at h1 ⊢
          simp only [hoj] at h1 ⊢
          rw [wanted_put oj a oi.dst v p1] at h1
          split
          · rename_i hw
            simp only [hw, if_true] at h1
            obtain ⟨obj, mk, g1, g2⟩ := h1
            refine ⟨obj, mk, fun w hw => ?_, fun b => ?_⟩
            · have := g1 w hw
              rwa [execOp_put oj (fun cs b => hsel j oj cs b hoj) a oi.dst v p1] at this
            · refine ih (listed.setIfInBounds j true) _ _ (hcl.add hj) hfree' (ready_mono hr (Ne.symm hji)) ((keep _).more hnc) ?_
              rw [Array.setIfInBounds_comm _ _ hji, ← Act.put_comm a v _ p2]
              exact g2 b
          · rename_i hw
            simp only [hw] at h1
            refine ih (listed.setIfInBounds j true) _ _ (hcl.add hj) hfree' (ready_mono hr (Ne.symm hji)) (keep _) ?_
            rw [Array.setIfInBounds_comm _ _ hji, ← Act.put_comm a v _ p2]
            exact h1
        · rename_i hsfj
          rw [if_neg hsfj]
          have h2 := hOp_put hoj hap (fun cs b => hsel i oi cs b hi) (fun cs b => hsel j oj cs b hoj) hy h1
          refine hOp_mono (fun a' h3 => ih (listed.setIfInBounds j true) _ a' (hcl.add hj) hfree' (ready_mono hr (Ne.symm hji)) h3.1 ?_) h2
          rw [Array.setIfInBounds_comm _ _ hji]
          exact h3.2

/-- the tail comes in one order alone -/
def seqI (md : Region.Mode) (ops : Array Oper) : List Nat → Array Bool → Bool
  | [], listed => (Region.ready md ops listed).isEmpty
  | t :: r, listed => decide (Region.ready md ops listed = [t]) && seqI md ops r (listed.setIfInBounds t true)

theorem wpAny_of_seqI {Q : Exit → Act → World → Prop} : ∀ (l : List Nat) (os : List Oper) (listed : Array Bool) (a : Act) (w : World), l.mapM (fun i => ops[i]?) = some os → seqI md ops l listed = true →
    wpList P ops Q os a w → wpAny P md ops Q l.length listed a w
  | [], os, listed, a, w, hl, hB, h => by
    simp at hl
    subst hl
    exact ⟨by simpa [seqI] using hB, h⟩
  | t :: l, os, listed, a, w, hl, hB, h => by
    simp only [List.mapM_cons] at hl
    cases h0 : ops[t]? with
    | none => rw [h0] at hl; simp at hl
    | some o =>
      rw [h0] at hl
      cases h1 : l.mapM (fun i => ops[i]?) with
      | none => rw [h1] at hl; simp at hl
      | some os' =>
        rw [h1] at hl
        simp at hl
        subst hl
        simp only [seqI, Bool.and_eq_true, decide_eq_true_eq] at hB
        refine ⟨fun h2 => (by rw [hB.1] at h2; cases h2), fun i hi => ?_⟩
        rw [hB.1] at hi
        have hik : i = t := by simpa using hi
        subst hik
        have hw : wpOp P ops Q i (wpList P ops Q os') a w := by unfold wpOp; simp only [h0]; exact h
        exact wpOp_mono (fun a' w' h' => wpAny_of_seqI l os' _ a' w' h1 hB.2 h') hw

def waitsFor (md : Region.Mode) (ops : Array Oper) (t i : Nat) : Bool := reaches md ops i 99 t

/-- the soft ones come in one order alone, then the tail -/
def seqS (md : Region.Mode) (ops : Array Oper) (tl : List Nat) : List Nat → Array Bool → Bool
  | [], listed => seqI md ops tl listed
  | t :: r, listed => decide (Region.ready md ops listed = [t]) && !tl.contains t && seqS md ops tl r (listed.setIfInBounds t true)

/-- the check: the head in its order, then the soft ones, then the tail -/
def mixI (md : Region.Mode) (ops : Array Oper) (sf tl : List Nat) : List Nat → Array Bool → Bool
  | [], listed => seqS md ops tl sf listed
  | i :: r, listed => (Region.ready md ops listed).contains i && Region.free md ops listed i && !tl.contains i && !sf.contains i &&
      (match ops[i]? with | some o => (!readsMem o || tl.all (waitsFor md ops · i)) && (noCall o || sf.all (waitsFor md ops · i)) | none => false) && mixI md ops sf tl r (listed.setIfInBounds i true)

/-- the soft operations that are left, then the tail -/
def wpSoft (P : Program) (ops : Array Oper) (B : Nat) (w0 : World) (Q : Exit → Act → World → Prop) (ts : List Oper) : List Oper → List Hp → Act → Prop
  | [], G, a => ∀ w, St B w0 G w → wpList P ops Q ts a w
  | o :: r, G, a => if Region.wanted o (yielded ops a.tmps) then ∃ obj mk, softAt P B w0 G o a obj mk ∧ ∀ b, wpSoft P ops B w0 Q ts r ([(b, obj)] :: G) (a.put o.dst (mk b)) else wpSoft P ops B w0 Q ts r G (a.put o.dst undef)

theorem wpM_of_tail {sf0 tl : List Nat} {ts : List Oper} {Q : Exit → Act → World → Prop} (hts : tl.mapM (fun i => ops[i]?) = some ts) {listed : Array Bool} {G : List Hp} {a : Act} (hB : seqI md ops tl listed = true) (h : ∀ w, St B w0 G w → wpList P ops Q ts a w) :
    wpM P md ops B w0 sf0 tl Q tl.length listed G a := by
  have base : ∀ w, St B w0 G w → wpAny P md ops Q tl.length listed a w := fun w hw => wpAny_of_seqI tl ts _ _ w hts hB (h w hw)
  cases tl with
  | nil => exact ⟨by simpa [seqI] using hB, fun w hw => (base w hw).2⟩
  | cons t tl' =>
    simp only [seqI, Bool.and_eq_true, decide_eq_true_eq] at hB
    refine ⟨fun h2 => (by rw [hB.1] at h2; cases h2), fun k hk => ?_⟩
    rw [hB.1] at hk
    have hkt : k = t := by simpa using hk
    subst hkt
    rw [if_pos (by simp)]
    intro w hw
    exact (base w hw).2 k (by rw [hB.1]; simp)

theorem wpM_of_soft {sf0 tl : List Nat} {ts : List Oper} {Q : Exit → Act → World → Prop} (hts : tl.mapM (fun i => ops[i]?) = some ts) :
    ∀ (sf : List Nat) (os : List Oper) (listed : Array Bool) (G : List Hp) (a : Act), (∀ x ∈ sf, x ∈ sf0) → sf.mapM (fun i => ops[i]?) = some os → seqS md ops tl sf listed = true →
      wpSoft P ops B w0 Q ts os G a → wpM P md ops B w0 sf0 tl Q (sf.length + tl.length) listed G a
  | [], os, listed, G, a, _, hos, hB, h => by
    simp at hos
    subst hos
    simp only [List.length_nil, Nat.zero_add]
    exact wpM_of_tail hts hB h
  | t :: r, os, listed, G, a, hsub, hos, hB, h => by
    simp only [List.mapM_cons] at hos
    cases h0 : ops[t]? with
    | none => rw [h0] at hos; simp at hos
    | some o =>
      rw [h0] at hos
      cases h1 : r.mapM (fun i => ops[i]?) with
      | none => rw [h1] at hos; simp at hos
      | some os' =>
        rw [h1] at hos
        simp at hos
        subst hos
        simp only [seqS, Bool.and_eq_true, decide_eq_true_eq] at hB
        obtain ⟨⟨hr, htl⟩, hB'⟩ := hB
        have hlen : (t :: r).length + tl.length = (r.length + tl.length) + 1 := by simp; omega
        rw [hlen]
        refine ⟨fun h2 => (by rw [hr] at h2; cases h2), fun i hi => ?_⟩
        rw [hr] at hi
        have hik : i = t := by simpa using hi
        subst hik
        rw [if_neg (by simp at htl ⊢; exact htl), if_pos (by simpa using hsub i (by simp))]
        unfold sOp
        simp only [h0]
        simp only [wpSoft] at h
        split
        · rename_i hw
          rw [if_pos hw] at h
          obtain ⟨obj, mk, g1, g2⟩ := h
          exact ⟨obj, mk, g1, fun b => wpM_of_soft hts r os' _ _ _ (fun x hx => hsub x (by simp [hx])) h1 hB' (g2 b)⟩
        · rename_i hw
          rw [if_neg hw] at h
          exact wpM_of_soft hts r os' _ _ _ (fun x hx => hsub x (by simp [hx])) h1 hB' h

theorem waits_spec {l : List Nat} {i : Nat} (h : l.all (waitsFor md ops · i) = true) : ∀ t ∈ l, reaches md ops i 99 t = true := fun t ht => (List.all_eq_true.1 h) t ht

theorem wpM_of_mix {sf tl : List Nat} {ss ts : List Oper} {Q : Exit → Act → World → Prop} {G : List Hp} (hs : Region.noSelect ops = true) (hQ : ∀ c a w, ¬ Q (.panic c) a w) (hss : sf.mapM (fun i => ops[i]?) = some ss) (hts : tl.mapM (fun i => ops[i]?) = some ts) :
    ∀ (hd : List Nat) (os : List Oper) (listed : Array Bool) (a : Act), Closed md ops listed → hd.mapM (fun i => ops[i]?) = some os → mixI md ops sf tl hd listed = true →
      wpHead P ops (St B w0 G) (fun a' => wpSoft P ops B w0 Q ts ss G a') os a → wpM P md ops B w0 sf tl Q (hd.length + (sf.length + tl.length)) listed G a := by
  intro hd
  induction hd with
  | nil =>
    intro os listed a hcl hos hB h
    simp at hos
    subst hos
    simp only [List.length_nil, Nat.zero_add]
    exact wpM_of_soft hts sf ss listed G a (fun x hx => hx) hss hB h
  | cons i r ih =>
    intro os listed a hcl hos hB h
    simp only [List.mapM_cons] at hos
    cases h0 : ops[i]? with
    | none => rw [h0] at hos; simp at hos
    | some o =>
      rw [h0] at hos
      cases h1 : r.mapM (fun i => ops[i]?) with
      | none => rw [h1] at hos; simp at hos
      | some os' =>
        rw [h1] at hos
        simp at hos
        subst hos
        simp only [mixI, Bool.and_eq_true, h0] at hB
        obtain ⟨⟨⟨⟨⟨hr, hf⟩, ht⟩, hsf⟩, hm⟩, hB'⟩ := hB
        have hst : hOp P ops (St B w0 G) i (wpHead P ops (St B w0 G) (fun a' => wpSoft P ops B w0 Q ts ss G a') os') a := by unfold hOp; simp only [h0]; exact h
        obtain ⟨v, hy, hK⟩ := yieldsH_of_hOp h0 hst
        have hlen : (i :: r).length + (sf.length + tl.length) = (r.length + (sf.length + tl.length)) + 1 := by simp; omega
        rw [hlen]
        refine wpM_first h0 (Region.noSelect_spec hs) hQ (by simpa using ht) (by simpa using hsf) (fun hrm => ?_) (fun hrm => ?_) (r.length + (sf.length + tl.length)) listed G a hcl (Region.free_spec h0 hf) (by simpa using hr) hy ?_
        · have h3 := hm.1
          rw [hrm] at h3
          exact waits_spec (by simpa using h3)
        · have h3 := hm.2
          rw [hrm] at h3
          exact waits_spec (by simpa using h3)
        · exact ih os' (listed.setIfInBounds i true) (a.put o.dst v) (hcl.add (by simpa using hr)) h1 hB' hK

/-! ### As a rule -/
def NP (Q : Exit → Act → World → Prop) : Exit → Act → World → Prop
  | .panic _, _, _ => False
  | e, a, w => Q e a w

variable {Q : Exit → Act → World → Prop} {N : Nat} {G : List Hp} {E : Env} {S : World → Prop} {ty T : TypeId}

/-- the operations of the head that are left -/
def HW (P : Program) (ops : Array Oper) (Q : Exit → Act → World → Prop) (B : Nat) (w0 : World) (N : Nat) (G : List Hp) (E : Env) (rest : List Oper) (tail : List Oper × List Oper) : Prop :=
  ∀ a, EnvOK N E a → wpHead P ops (St B w0 G) (fun a' => wpSoft P ops B w0 (NP Q) tail.2 tail.1 G a') rest a
/-- the soft ones that are left -/
def SW (P : Program) (ops : Array Oper) (Q : Exit → Act → World → Prop) (B : Nat) (w0 : World) (N : Nat) (G : List Hp) (E : Env) (rest : List Oper) (tail : List Oper) : Prop :=
  ∀ a, EnvOK N E a → wpSoft P ops B w0 (NP Q) tail rest G a

theorem xw_np (h : XW Q B w0 N G E .normal) : XW (NP Q) B w0 N G E .normal := h

def picks (l : List Oper) : List Nat → Option (List Oper)
  | [] => some []
  | i :: r => match l[i]?, picks l r with
    | some o, some os => some (o :: os)
    | _, _ => none
theorem picks_eq (l : List Oper) : ∀ is : List Nat, picks l is = is.mapM (fun i => l[i]?)
  | [] => by simp [picks]
  | i :: r => by
    simp only [picks, List.mapM_cons, picks_eq l r]
    cases l[i]? <;> simp
    cases r.mapM (fun i => l[i]?) <;> simp

theorem cw_mix {id : Nat} {l : List Oper} (sf tl hd : List Nat) {ss ts hs : List Oper} (hm : P.follows .mixedOrders = true) (hss : picks l sf = some ss) (hts : picks l tl = some ts) (hhs : picks l hd = some hs) (hlen : hd.length + (sf.length + tl.length) = l.length)
    (hB : (Region.noSelect l.toArray && mixI .any l.toArray sf tl hd (Array.replicate l.length false)) = true) (h : HW P l.toArray Q B w0 N G E hs (ss, ts)) : CW P Q B w0 N G E (.region id l.toArray true) := fun a w ha hw => by
  simp only [Bool.and_eq_true] at hB
  refine wp_mono (Q := NP Q) ?_ (fun e a w hq => by cases e <;> first | exact hq | exact hq.elim)
  refine wp_region_any hm ?_
  have h1 := wpM_of_mix (md := .any) (Q := NP Q) hB.1 (fun c a w hq => hq) (by rw [picks_eq] at hss; simpa using hss) (by rw [picks_eq] at hts; simpa using hts) hd hs (Array.replicate l.length false) a (Closed.start _) (by rw [picks_eq] at hhs; simpa using hhs) hB.2 (h a ha)
  have h2 := wpAny_of_M (w := { w with drawn := w.drawn + 1 }) _ _ _ _ hw.drewEq h1
  rw [hlen] at h2
  simpa using h2

theorem value_of' {r : Result Value} {w' : World} {n : Next} (h : (r.andThen fun a w' => Result.ok (Next.value a) w') = .ok n w') : ∃ u, n = .value u := by
  cases r with
  | ok v w1 => simp at h; exact ⟨v, h.1.symm⟩
  | halt x w1 => simp at h

theorem pure_value {ρ : Operand → Value} {o : Oper} (ho : readsMem o = false) {w w' : World} {n : Next} (h : (execOp ρ o).run P w = .ok n w') : ∃ u, n = .value u := by
  obtain ⟨d, op, ty, pos, af, g⟩ := o
  cases op <;> (try (simp [readsMem] at ho; done))
  case move x => simp [execOp] at h; exact ⟨_, h.1.symm⟩
  case assign x => simp [execOp] at h; exact ⟨_, h.1.symm⟩
  case pick c x y =>
    simp only [execOp] at h
    rw [Sem.run_bind] at h
    cases hs : (asBool (ρ c)).run P w with
    | ok v w1 => rw [hs] at h; simp at h; exact ⟨_, h.1.symm⟩
    | halt x w1 => rw [hs] at h; simp at h
  case nilCheck x =>
    simp only [execOp] at h
    split at h
    · cases hs : (runtimePanic .nilDeref : Sem Next).run P w with
      | ok v w1 => simp [runtimePanic, goPanic, program, Sem.run_bind, Sem.run] at hs
      | halt x w1 => rw [hs] at h; cases h
    · cases hs : (runtimePanic .nilDeref : Sem Next).run P w with
      | ok v w1 => simp [runtimePanic, goPanic, program, Sem.run_bind, Sem.run] at hs
      | halt x w1 => rw [hs] at h; cases h
    · cases hs : (runtimePanic .nilDeref : Sem Next).run P w with
      | ok v w1 => simp [runtimePanic, goPanic, program, Sem.run_bind, Sem.run] at hs
      | halt x w1 => rw [hs] at h; cases h
    · split at h
      · cases hs : (runtimePanic .nilDeref : Sem Next).run P w with
        | ok v w1 => simp [runtimePanic, goPanic, program, Sem.run_bind, Sem.run] at hs
        | halt x w1 => rw [hs] at h; cases h
      · rw [Sem.run_bind] at h
        simp only [program, Sem.run, Result.andThen_ok, Sem.run_bind] at h
        revert h
        generalize Sem.run P (nilAhead _ _ _ _) w = r
        intro h
        cases r with
        | halt x w1 => simp at h
        | ok q w1 =>
          simp only [Result.andThen_ok] at h
          split at h
          · simp [unsupported, Sem.run] at h
          · simp at h
            exact ⟨_, h.1.symm⟩
      · simp at h; exact ⟨_, h.1.symm⟩
    · simp at h; exact ⟨_, h.1.symm⟩
  case call c =>
    obtain ⟨callee, args, tys⟩ := c
    cases callee with
    | value f => simp [readsMem] at ho
    | invoke r m => simp [readsMem] at ho
    | builtin b =>
      cases b <;> (try (simp [readsMem] at ho; done)) <;>
        (simp only [execOp, resolve, Sem.run_bind, Sem.run_pure, Result.andThen_ok, invoke, builtin] at h; exact value_of' h)
  all_goals exact value_of h

/-- pure -/
theorem hw_pure {d : Nat} {op : Op} {pos : String} {af : Array Edge} {g : Option (Nat × Bool)} {rest : List Oper} {tail : List Oper × List Oper} {v : Value} (hg : Env.guard E ops g = some true) (hd : Nat.blt d N = true)
    (hv : OpV P (fun _ => True) N E op ty v) (hc : readsMem ⟨none, op, ty, "", #[], none⟩ = false) (h : HW P ops Q B w0 N G ((d, v) :: E) rest tail) :
    HW P ops Q B w0 N G E (⟨some d, op, ty, pos, af, g⟩ :: rest) tail := fun a ha => by
  unfold wpHead
  rw [if_pos (ha.guard (o := ⟨some d, op, ty, pos, af, g⟩) hg)]
  have key : ∀ w, (execOp a.eval ⟨none, op, ty, "", #[], none⟩).run P w = .ok (.value v) w := fun w => by
    have h1 := hv a w ha trivial
    cases hr : (execOp a.eval ⟨none, op, ty, "", #[], none⟩).run P w with
    | halt x w' => rw [hr] at h1; simp [Oper.quietUpon] at h1
    | ok n w' =>
      obtain ⟨u, hu⟩ := pure_value hc hr
      subst hu
      rw [hr] at h1
      simp only [Oper.quietUpon] at h1
      rw [h1.1, h1.2]
  refine ⟨v, ⟨fun w' _ => ?_, fun _ w => key w⟩, h _ (ha.put (by simpa using hd) v)⟩
  have he : execOp a.eval ⟨some d, op, ty, pos, af, g⟩ = execOp a.eval ⟨none, op, ty, "", #[], none⟩ := rfl
  unfold Oper.quietAt
  rw [he, key w']
  exact ⟨rfl, rfl⟩

theorem hw_read {d : Nat} {op : Op} {pos : String} {af : Array Edge} {g : Option (Nat × Bool)} {rest : List Oper} {tail : List Oper × List Oper} {v : Value} (hg : Env.guard E ops g = some true) (hd : Nat.blt d N = true)
    (hr : readsMem ⟨some d, op, ty, pos, af, g⟩ = true) (hv : OpV P (St B w0 G) N E op ty v) (h : HW P ops Q B w0 N G ((d, v) :: E) rest tail) :
    HW P ops Q B w0 N G E (⟨some d, op, ty, pos, af, g⟩ :: rest) tail := fun a ha => by
  unfold wpHead
  rw [if_pos (ha.guard (o := ⟨some d, op, ty, pos, af, g⟩) hg)]
  exact ⟨v, ⟨fun w' hw' => hv.quietAt ha w' hw', fun h0 => by rw [hr] at h0; cases h0⟩, h _ (ha.put (by simpa using hd) v)⟩

theorem hw_skip {d : Nat} {op : Op} {pos : String} {af : Array Edge} {g : Option (Nat × Bool)} {rest : List Oper} {tail : List Oper × List Oper} (hg : Env.guard E ops g = some false) (hd : Nat.blt d N = true)
    (h : HW P ops Q B w0 N G ((d, undef) :: E) rest tail) : HW P ops Q B w0 N G E (⟨some d, op, ty, pos, af, g⟩ :: rest) tail := fun a ha => by
  unfold wpHead
  rw [if_neg (by rw [ha.guard (o := ⟨some d, op, ty, pos, af, g⟩) hg]; simp)]
  exact h _ (ha.put (by simpa using hd) undef)

theorem hw_nil {s t : List Oper} (h : SW P ops Q B w0 N G E s t) : HW P ops Q B w0 N G E [] (s, t) := fun a ha => h a ha
theorem sw_nil {tail : List Oper} (h : OW P ops (NP Q) B w0 N G E tail) : SW P ops Q B w0 N G E [] tail := fun a ha => fun w' hw' => h a w' ha hw'
theorem sw_skip {d : Nat} {op : Op} {pos : String} {af : Array Edge} {g : Option (Nat × Bool)} {rest tail : List Oper} (hg : Env.guard E ops g = some false) (hd : Nat.blt d N = true)
    (h : SW P ops Q B w0 N G ((d, undef) :: E) rest tail) : SW P ops Q B w0 N G E (⟨some d, op, ty, pos, af, g⟩ :: rest) tail := fun a ha => by
  unfold wpSoft
  rw [if_neg (by rw [ha.guard (o := ⟨some d, op, ty, pos, af, g⟩) hg]; simp)]
  exact h _ (ha.put (by simpa using hd) undef)
theorem sw_new {d : Nat} {op : Op} {pos : String} {af : Array Edge} {g : Option (Nat × Bool)} {rest tail : List Oper} {vs : List Value} {e : TypeId} (mk : Nat → Value) (hg : Env.guard E ops g = some true) (hd : Nat.blt d N = true)
    (hrun : ∀ a w, EnvOK N E a → St B w0 G w → (execOp a.eval ⟨some d, op, ty, pos, af, g⟩).run P w = .ok (.value (mk w.heap.size)) (w.alloc (.cells vs.toArray e)))
    (h : ∀ b, SW P ops Q B w0 N ([(b, .cells vs.toArray e (0, 0))] :: G) ((d, mk b) :: E) rest tail) : SW P ops Q B w0 N G E (⟨some d, op, ty, pos, af, g⟩ :: rest) tail := fun a ha => by
  unfold wpSoft
  rw [if_pos (ha.guard (o := ⟨some d, op, ty, pos, af, g⟩) hg)]
  exact ⟨_, mk, fun w hw => hrun a w ha hw, fun b => h b _ (ha.put (by simpa using hd) _)⟩
theorem sw_alloc {d : Nat} {pos : String} {af : Array Edge} {g : Option (Nat × Bool)} {rest tail : List Oper} {zs : List Value} (hg : Env.guard E ops g = some true) (hd : Nat.blt d N = true) (hz : Zero P T zs)
    (h : ∀ b, SW P ops Q B w0 N ([(b, .cells zs.toArray T (0, 0))] :: G) ((d, .pointer (some ⟨b, 0, none⟩)) :: E) rest tail) : SW P ops Q B w0 N G E (⟨some d, .alloc T, ty, pos, af, g⟩ :: rest) tail :=
  sw_new (fun b => .pointer (some ⟨b, 0, none⟩)) hg hd (fun a w _ _ => by
    obtain ⟨z, h1, h2⟩ := hz.run w
    simp [execOp, Instr.alloc, h1, newVar, newRow, h2]) h
theorem sw_box {d : Nat} {x : Operand} {v : Value} {vs : List Value} {pos : String} {af : Array Edge} {g : Option (Nat × Bool)} {rest tail : List Oper} (hg : Env.guard E ops g = some true) (hd : Nat.blt d N = true) (hx : Env.ev E x = some v) (hv : v.cells = vs.toArray)
    (h : ∀ b, SW P ops Q B w0 N ([(b, .cells vs.toArray T (0, 0))] :: G) ((d, .pointer (some ⟨b, 0, none⟩)) :: E) rest tail) : SW P ops Q B w0 N G E (⟨some d, .box T x, ty, pos, af, g⟩ :: rest) tail :=
  sw_new (fun b => .pointer (some ⟨b, 0, none⟩)) hg hd (fun a w ha _ => by simp [execOp, Instr.box, ha.ev hx, newVar, newRow, hv]) h

theorem hw_dec (t : Nat) {rest : List Oper} {tail : List Oper × List Oper} {p : Prop} [Decidable p] (ht : Env.look E t = some (.bool (decide p))) (hx : p → HW P ops Q B w0 N G ((t, .bool true) :: E) rest tail) (hy : ¬ p → HW P ops Q B w0 N G ((t, .bool false) :: E) rest tail) : HW P ops Q B w0 N G E rest tail := by
  intro a ha
  by_cases hp : p
  · exact hx hp a (ha.dup (by rw [ht, decide_eq_true hp]))
  · exact hy hp a (ha.dup (by rw [ht, decide_eq_false hp]))
theorem hw_bool (t : Nat) {rest : List Oper} {tail : List Oper × List Oper} {b : Bool} (ht : Env.look E t = some (.bool b)) (hx : b = true → HW P ops Q B w0 N G ((t, .bool true) :: E) rest tail) (hy : b = false → HW P ops Q B w0 N G ((t, .bool false) :: E) rest tail) : HW P ops Q B w0 N G E rest tail := by
  intro a ha
  cases b
  · exact hy rfl a (ha.dup ht)
  · exact hx rfl a (ha.dup ht)

/-! ### All orders, one by one -/
def Nx (K : Act → World → Prop) (Q : Exit → Act → World → Prop) : Exit → Act → World → Prop
  | .normal, a, w => K a w
  | e, a, w => Q e a w
theorem wpOp_of_list {i : Nat} {o : Oper} {K : Act → World → Prop} {a : Act} {w : World} (hi : ops[i]? = some o) (h : wpList P ops (Nx K Q) [o] a w) : wpOp P ops Q i K a w := by
  unfold wpOp
  simp only [hi]
  unfold wpList at h
  split
  · rename_i hw
    rw [if_pos hw] at h
    rcases h with h | ⟨h1, h2⟩
    · refine .inl ?_
      unfold Oper.wp at h ⊢
      generalize (execOp a.eval o).run P w = r at *
      cases r with
      | ok n w' =>
        cases n <;> first | exact h | (simp only [Oper.upon] at h ⊢; exact h)
      | halt x w' => cases x <;> first | exact h | (simp only [Oper.upon] at h ⊢; exact h)
    · exact .inr ⟨h1, h2⟩
  · rename_i hw
    rw [if_neg hw] at h
    exact h
/-- what is left of a region, in any order -/
def AW (P : Program) (md : Region.Mode) (ops : Array Oper) (Q : Exit → Act → World → Prop) (B : Nat) (w0 : World) (N : Nat) (G : List Hp) (E : Env) (fuel : Nat) (listed : Array Bool) : Prop :=
  ∀ a w, EnvOK N E a → St B w0 G w → wpAny P md ops Q fuel listed a w
theorem cw_any {id : Nat} {l : List Oper} (hm : P.follows .mixedOrders = true) (h : AW P .any l.toArray (NP Q) B w0 N G E l.length (Array.replicate l.length false)) : CW P Q B w0 N G E (.region id l.toArray true) := fun a w ha hw => by
  refine wp_mono (Q := NP Q) ?_ (fun e a w hq => by cases e <;> first | exact hq | exact hq.elim)
  refine wp_region_any hm ?_
  have h2 := h a { w with drawn := w.drawn + 1 } ha hw.drewEq
  simpa using h2
theorem aw_end {fuel : Nat} {listed : Array Bool} (hr : (Region.ready md ops listed).isEmpty = true) (h : XW Q B w0 N G E .normal) : AW P md ops Q B w0 N G E fuel listed := fun a w ha hw => by
  have hr' : Region.ready md ops listed = [] := by simpa using hr
  cases fuel with
  | zero => exact ⟨hr', h a w ha hw⟩
  | succ fuel => exact ⟨fun _ => h a w ha hw, fun i hi => by rw [hr'] at hi; cases hi⟩
theorem aw_step1 (i : Nat) {d : Option Tmp} {op : Op} {t : TypeId} {pos : String} {af : Array Edge} {g : Option (Nat × Bool)} {fuel : Nat} {listed : Array Bool} (hr : decide (Region.ready md ops listed = [i]) = true) (hi : ops[i]? = some ⟨d, op, t, pos, af, g⟩) (h : OW P ops (Nx (wpAny P md ops Q fuel (listed.setIfInBounds i true)) Q) B w0 N G E [⟨d, op, t, pos, af, g⟩]) : AW P md ops Q B w0 N G E (fuel + 1) listed := fun a w ha hw => by
  have hr' : Region.ready md ops listed = [i] := by simpa using hr
  refine ⟨fun h0 => (by rw [hr'] at h0; cases h0), fun j hj => ?_⟩
  rw [hr'] at hj
  have : j = i := by simpa using hj
  subst this
  exact wpOp_of_list hi (h a w ha hw)
theorem aw_step2 (i k : Nat) {d : Option Tmp} {op : Op} {t : TypeId} {pos : String} {af : Array Edge} {g : Option (Nat × Bool)} {d' : Option Tmp} {op' : Op} {t' : TypeId} {pos' : String} {af' : Array Edge} {g' : Option (Nat × Bool)} {fuel : Nat} {listed : Array Bool} (hr : decide (Region.ready md ops listed = [i, k]) = true) (hi : ops[i]? = some ⟨d, op, t, pos, af, g⟩) (hk : ops[k]? = some ⟨d', op', t', pos', af', g'⟩) (h : OW P ops (Nx (wpAny P md ops Q fuel (listed.setIfInBounds i true)) Q) B w0 N G E [⟨d, op, t, pos, af, g⟩]) (h' : OW P ops (Nx (wpAny P md ops Q fuel (listed.setIfInBounds k true)) Q) B w0 N G E [⟨d', op', t', pos', af', g'⟩]) : AW P md ops Q B w0 N G E (fuel + 1) listed := fun a w ha hw => by
  have hr' : Region.ready md ops listed = [i, k] := by simpa using hr
  refine ⟨fun h0 => (by rw [hr'] at h0; cases h0), fun j hj => ?_⟩
  rw [hr'] at hj
  have : j = i ∨ j = k := by simpa using hj
  rcases this with rfl | rfl
  · exact wpOp_of_list hi (h a w ha hw)
  · exact wpOp_of_list hk (h' a w ha hw)
theorem xw_nx {fuel : Nat} {listed : Array Bool} (h : AW P md ops Q B w0 N G E fuel listed) : XW (Nx (wpAny P md ops Q fuel listed) Q) B w0 N G E .normal := h
theorem aw_pure (i : Nat) {d : Nat} {op : Op} {pos : String} {af : Array Edge} {g : Option (Nat × Bool)} {v : Value} {fuel : Nat} {listed : Array Bool} {Q₀ : Exit → Act → World → Prop} (hi : ops[i]? = some ⟨some d, op, ty, pos, af, g⟩) (hB : (Region.noSelect ops && (Region.ready md ops listed).contains i && Region.free md ops listed i) = true)
    (hg : Env.guard E ops g = some true) (hd : Nat.blt d N = true) (hv : OpV P (fun _ => True) N E op ty v) (hc : readsMem ⟨none, op, ty, "", #[], none⟩ = false) (h : AW P md ops (NP Q₀) B w0 N G ((d, v) :: E) fuel (listed.setIfInBounds i true)) :
    AW P md ops (NP Q₀) B w0 N G E (fuel + 1) listed := fun a w ha hw => by
  simp only [Bool.and_eq_true] at hB
  have key : ∀ w, (execOp a.eval ⟨none, op, ty, "", #[], none⟩).run P w = .ok (.value v) w := fun w => by
    have h1 := hv a w ha trivial
    cases hr : (execOp a.eval ⟨none, op, ty, "", #[], none⟩).run P w with
    | halt x w' => rw [hr] at h1; simp [Oper.quietUpon] at h1
    | ok n w' =>
      obtain ⟨u, hu⟩ := pure_value hc hr
      subst hu
      rw [hr] at h1
      simp only [Oper.quietUpon] at h1
      rw [h1.1, h1.2]
  have he : execOp a.eval ⟨some d, op, ty, pos, af, g⟩ = execOp a.eval ⟨none, op, ty, "", #[], none⟩ := rfl
  refine wpAny_first hi (Region.noSelect_spec hB.1.1) (fun c a w hq => hq) fuel listed a w (Region.free_spec hi hB.2) (by simpa using hB.1.2) (.inl ⟨ha.guard (o := ⟨some d, op, ty, pos, af, g⟩) hg, fun w => by rw [he]; exact key w⟩) ?_
  exact h _ w (ha.put (by simpa using hd) v) hw

end Go.Sl
