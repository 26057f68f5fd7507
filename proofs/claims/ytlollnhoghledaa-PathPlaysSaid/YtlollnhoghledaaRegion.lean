/- Regions that draw their order, whose operations read, but for some at the end (the tail), each of which waits for all that reads memory: one walk in the text's order serves every order. Conditions: none; nothing here speaks of a given program. -/
import Derived.Test.YtlollnhoghledaaMem
namespace Go.Sl
set_option linter.unusedVariables false
set_option linter.unusedSimpArgs false
open Go.RowKit Go

variable {P : Program} {ops : Array Oper} {md : Region.Mode} {C : World → Prop}

/-- it looks at memory -/
def readsMem (o : Oper) : Bool := match o.op with
  | .move _ | .assign _ | .pick .. | .nilCheck _ | .binOp .. | .unOp .. | .fieldAddr .. | .indexAddr .. | .slice .. | .extract .. | .convert .. | .build .. | .field .. | .index .. | .makeFunc .. => false
  | .call { callee := .builtin .len, .. } | .call { callee := .builtin .cap, .. } | .call { callee := .builtin .min, .. } | .call { callee := .builtin .max, .. } => false
  | _ => true

/-- what is asked of an operation of the head -/
def headAt (P : Program) (o : Oper) (a : Act) (C : World → Prop) (v : Value) : Prop :=
  (∀ w, C w → o.quietAt P a C w v) ∧ (readsMem o = false → ∀ w, (execOp a.eval o).run P w = .ok (.value v) w)

def wpHead (P : Program) (ops : Array Oper) (C : World → Prop) (Q : Act → Prop) : List Oper → Act → Prop
  | [], a => Q a
  | o :: rest, a => if Region.wanted o (yielded ops a.tmps) then ∃ v, headAt P o a C v ∧ wpHead P ops C Q rest (a.put o.dst v) else wpHead P ops C Q rest (a.put o.dst undef)

def hOp (P : Program) (ops : Array Oper) (C : World → Prop) (i : Nat) (K : Act → Prop) (a : Act) : Prop :=
  match ops[i]? with
  | none => K a
  | some o => if Region.wanted o (yielded ops a.tmps) then ∃ v, headAt P o a C v ∧ K (a.put o.dst v) else K (a.put o.dst undef)

theorem hOp_mono {i : Nat} {a : Act} {K K' : Act → Prop} (h : ∀ a, K a → K' a) (hh : hOp P ops C i K a) : hOp P ops C i K' a := by
  unfold hOp at *
  split
  · rename_i ho; simp only [ho] at hh; exact h _ hh
  · rename_i o ho
    simp only [ho] at hh
    split
    · rename_i hw; simp only [hw, if_true] at hh; obtain ⟨v, h1, h2⟩ := hh; exact ⟨v, h1, h _ h2⟩
    · rename_i hw; simp only [hw] at hh; exact h _ hh

/-- every order of the head, the tail as it comes -/
def wpM (P : Program) (md : Region.Mode) (ops : Array Oper) (C : World → Prop) (tl : List Nat) (Q : Exit → Act → World → Prop) : Nat → Array Bool → Act → Prop
  | 0, listed, a => Region.ready md ops listed = [] ∧ ∀ w, C w → Q .normal a w
  | fuel + 1, listed, a =>
    (Region.ready md ops listed = [] → ∀ w, C w → Q .normal a w) ∧
    ∀ i ∈ Region.ready md ops listed, if tl.contains i then ∀ w, C w → wpOp P ops Q i (wpAny P md ops Q fuel (listed.setIfInBounds i true)) a w
      else hOp P ops C i (wpM P md ops C tl Q fuel (listed.setIfInBounds i true)) a

theorem wpOp_of_hOp {i : Nat} {a : Act} {K : Act → Prop} {K' : Act → World → Prop} {Q : Exit → Act → World → Prop} {w : World} (hC : C w) (h : ∀ a w', C w' → K a → K' a w') (hh : hOp P ops C i K a) : wpOp P ops Q i K' a w := by
  unfold hOp at hh
  unfold wpOp
  split
  · rename_i ho; simp only [ho] at hh; exact h _ _ hC hh
  · rename_i o ho
    simp only [ho] at hh
    split
    · rename_i hw
      simp only [hw, if_true] at hh
      obtain ⟨v, h1, h2⟩ := hh
      exact .inl (Oper.wp_of_quiet (K := fun a' => a' = a.put o.dst v) hC (fun a' w' hw' e => by subst e; exact h _ _ hw' h2) ⟨v, h1.1, rfl⟩)
    · rename_i hw; simp only [hw] at hh; exact h _ _ hC hh

theorem wpAny_of_M {tl : List Nat} {Q : Exit → Act → World → Prop} : ∀ (fuel : Nat) (listed : Array Bool) (a : Act) (w : World), C w → wpM P md ops C tl Q fuel listed a → wpAny P md ops Q fuel listed a w
  | 0, _, _, w, hw, h => ⟨h.1, h.2 w hw⟩
  | fuel + 1, _, _, w, hw, h => ⟨fun h0 => h.1 h0 w hw, fun i hi => by
      have h1 := h.2 i hi
      split at h1
      · exact h1 w hw
      · exact wpOp_of_hOp hw (fun a' w' hw' => wpAny_of_M fuel _ a' w' hw') h1⟩

/-- In state 'a' operation 'o' of the head leaves 'v'. -/
def YieldsH (P : Program) (ops : Array Oper) (C : World → Prop) (o : Oper) (v : Value) (a : Act) : Prop :=
  (Region.wanted o (yielded ops a.tmps) = true ∧ headAt P o a C v) ∨ (Region.wanted o (yielded ops a.tmps) = false ∧ v = undef)

theorem YieldsH.hOp {i : Nat} {o : Oper} {v : Value} {a : Act} (hi : ops[i]? = some o) (hy : YieldsH P ops C o v a) {K : Act → Prop} (h : K (a.put o.dst v)) : hOp P ops C i K a := by
  unfold Go.Sl.hOp
  simp only [hi]
  rcases hy with ⟨hw, hv⟩ | ⟨hw, rfl⟩
  · simp only [hw, if_true]; exact ⟨v, hv, h⟩
  · simp only [hw, Bool.false_eq_true, if_false]; exact h

theorem YieldsH.of_same {o : Oper} {v : Value} {a a' : Act} (hy : YieldsH P ops C o v a) (he : execOp a'.eval o = execOp a.eval o)
    (hw : Region.wanted o (yielded ops a'.tmps) = Region.wanted o (yielded ops a.tmps)) : YieldsH P ops C o v a' := by
  unfold YieldsH headAt Oper.quietAt at *
  rw [he, hw]
  exact hy

theorem YieldsH.pure {o : Oper} {v : Value} {a : Act} (hy : YieldsH P ops C o v a) (hr : readsMem o = false) : Yields P ops o v a := by
  rcases hy with ⟨h1, h2⟩ | h
  · exact .inl ⟨h1, h2.2 hr⟩
  · exact .inr h

theorem yieldsH_of_hOp {i : Nat} {o : Oper} {a : Act} {K : Act → Prop} (hi : ops[i]? = some o) (h : hOp P ops C i K a) : ∃ v, YieldsH P ops C o v a ∧ K (a.put o.dst v) := by
  unfold hOp at h
  simp only [hi] at h
  by_cases hw : Region.wanted o (yielded ops a.tmps) = true
  · simp only [hw, if_true] at h
    obtain ⟨v, h1, h2⟩ := h
    exact ⟨v, .inl ⟨hw, h1⟩, h2⟩
  · simp only [hw] at h
    exact ⟨undef, .inr ⟨by simpa using hw, rfl⟩, h⟩

theorem hOp_put {j : Nat} {oi oj : Oper} {v : Value} (hj : ops[j]? = some oj) (hap : oi.apart ops oj = true)
    (hsi : ∀ cs b, oi.op ≠ .select cs b) (hsj : ∀ cs b, oj.op ≠ .select cs b) {K : Act → Prop} {a : Act}
    (hy : YieldsH P ops C oi v a) (h : hOp P ops C j K (a.put oi.dst v)) :
    hOp P ops C j (fun a' => YieldsH P ops C oi v a' ∧ K (a'.put oi.dst v)) a := by
  obtain ⟨h1, h2, h3⟩ := Oper.apart_spec hap
  have keep : ∀ (a : Act), YieldsH P ops C oi v a → ∀ u, YieldsH P ops C oi v (a.put oj.dst u) := fun a hy u =>
    hy.of_same (execOp_put oi hsi a oj.dst u h3) (wanted_put oi a oj.dst u h3)
  unfold hOp at *
  simp only [hj] at *
  rw [wanted_put oj a oi.dst v h1] at h
  split
  · rename_i hw
    simp only [hw, if_true] at h
    obtain ⟨u, hu, hn⟩ := h
    refine ⟨u, ?_, keep a hy u, by rw [← Act.put_comm a v u h2]; exact hn⟩
    unfold headAt Oper.quietAt at *
    rwa [execOp_put oj hsj a oi.dst v h1] at hu
  · rename_i hw
    simp only [hw] at h
    exact ⟨keep a hy _, by rw [← Act.put_comm a v undef h2]; exact h⟩

/-- operation i of the head may be taken first -/
theorem wpM_first {tl : List Nat} {Q : Exit → Act → World → Prop} {i : Nat} {oi : Oper} {v : Value} (hi : ops[i]? = some oi) (hsel : ∀ (j : Nat) (o : Oper) cs b, ops[j]? = some o → o.op ≠ .select cs b)
    (hQ : ∀ c a w, ¬ Q (.panic c) a w) (hit : tl.contains i = false)
    (hwait : readsMem oi = true → ∀ t ∈ tl, ∀ ot, ops[t]? = some ot → ∃ e ∈ ot.after, Region.binds md e = true ∧ e.on = i) :
    ∀ (fuel : Nat) (listed : Array Bool) (a : Act),
      (∀ j oj, ops[j]? = some oj → j ≠ i → listed.getD j true = false → (∀ e ∈ oj.after, Region.binds md e = true → e.on ≠ i) → oi.apart ops oj = true) →
      i ∈ Region.ready md ops listed → YieldsH P ops C oi v a →
      wpM P md ops C tl Q fuel (listed.setIfInBounds i true) (a.put oi.dst v) → wpM P md ops C tl Q (fuel + 1) listed a := by
  intro fuel
  induction fuel with
  | zero =>
    intro listed a _ hr hy H
    refine ⟨fun h => (by rw [h] at hr; cases hr), fun j hj => ?_⟩
    by_cases hji : j = i
    · subst hji; rw [if_neg (by simp at hit ⊢; exact hit)]; exact hy.hOp hi H
    · have := ready_mono hj hji
      rw [H.1] at this
      cases this
  | succ fuel ih =>
    intro listed a hfree hr hy H
    refine ⟨fun h => (by rw [h] at hr; cases hr), fun j hj => ?_⟩
    by_cases hji : j = i
    · subst hji; rw [if_neg (by simp at hit ⊢; exact hit)]; exact hy.hOp hi H
    · have h1 := H.2 j (ready_mono hj hji)
      obtain ⟨hjun, oj, hoj, hall⟩ := mem_ready.1 hj
      have hnot : ∀ e ∈ oj.after, Region.binds md e = true → e.on ≠ i := fun e he hb heq => by
        have h1 := hall e he hb
        have h0 := (mem_ready.1 hr).1
        rw [heq] at h1
        rcases Nat.lt_or_ge i listed.size with h' | h'
        · simp [h'] at h0 h1; rw [h0] at h1; cases h1
        · simp [Array.getElem?_eq_none h'] at h1
      have hap := hfree j oj hoj hji hjun hnot
      have hfree' : ∀ k ok, ops[k]? = some ok → k ≠ i → (listed.setIfInBounds j true).getD k true = false →
          (∀ e ∈ ok.after, Region.binds md e = true → e.on ≠ i) → oi.apart ops ok = true := fun k ok hk hki hun hno => by
        refine hfree k ok hk hki ?_ hno
        by_cases hjk : j = k
        · subst hjk; exact hjun
        · rw [getD_set_ne true hjk] at hun; exact hun
      split at h1
      · rename_i htl
        rw [if_pos htl]
        -- a tail operation: then i is pure
        have hpure : readsMem oi = false := by
          cases hrm : readsMem oi with
          | false => rfl
          | true =>
            obtain ⟨e, he, hb, hon⟩ := hwait hrm j (by simpa using htl) oj hoj
            exact absurd hon (hnot e he hb)
        intro w hw
        have hyp := hy.pure hpure
        have h2 := wpOp_put hoj hap (fun cs b => hsel i oi cs b hi) (fun cs b => hsel j oj cs b hoj) (Q := Q) (fun c a w hq => absurd hq (hQ c _ w)) hyp (h1 w hw)
        refine wpOp_mono (fun a' w' h3 => ?_) h2
        refine wpAny_first hi hsel (fun c a w hq => absurd hq (hQ c _ w)) fuel (listed.setIfInBounds j true) a' w' hfree' (ready_mono hr (Ne.symm hji)) h3.1 ?_
        rw [Array.setIfInBounds_comm _ _ hji]
        exact h3.2
      · rename_i htl
        rw [if_neg htl]
        have h2 := hOp_put hoj hap (fun cs b => hsel i oi cs b hi) (fun cs b => hsel j oj cs b hoj) hy h1
        refine hOp_mono (fun a' h3 => ih (listed.setIfInBounds j true) a' hfree' (ready_mono hr (Ne.symm hji)) h3.1 ?_) h2
        rw [Array.setIfInBounds_comm _ _ hji]
        exact h3.2

/-- the tail comes in one order alone -/
def seqI (md : Region.Mode) (ops : Array Oper) : List Nat → Array Bool → Bool
  | [], listed => (Region.ready md ops listed).isEmpty
  | t :: r, listed => decide (Region.ready md ops listed = [t]) && seqI md ops r (listed.setIfInBounds t true)

theorem wpAny_of_seqI {Q : Exit → Act → World → Prop} : ∀ (l : List Nat) (os : List Oper) (listed : Array Bool) (a : Act) (w : World), l.mapM (fun i => ops[i]?) = some os → seqI md ops l listed = true →
    wpList P ops Q os a w → wpAny P md ops Q l.length listed a w
  | [], os, listed, a, w, hl, hB, h => by
    simp at hl
    subst hl
    exact ⟨by simpa [seqI] using hB, h⟩
  | t :: l, os, listed, a, w, hl, hB, h => by
    simp only [List.mapM_cons] at hl
    cases h0 : ops[t]? with
    | none => rw [h0] at hl; simp at hl
    | some o =>
      rw [h0] at hl
      cases h1 : l.mapM (fun i => ops[i]?) with
      | none => rw [h1] at hl; simp at hl
      | some os' =>
        rw [h1] at hl
        simp at hl
        subst hl
        simp only [seqI, Bool.and_eq_true, decide_eq_true_eq] at hB
        refine ⟨fun h2 => (by rw [hB.1] at h2; cases h2), fun i hi => ?_⟩
        rw [hB.1] at hi
        have hik : i = t := by simpa using hi
        subst hik
        have hw : wpOp P ops Q i (wpList P ops Q os') a w := by unfold wpOp; simp only [h0]; exact h
        exact wpOp_mono (fun a' w' h' => wpAny_of_seqI l os' _ a' w' h1 hB.2 h') hw

def waitsFor (md : Region.Mode) (ops : Array Oper) (t i : Nat) : Bool :=
  match ops[t]? with
  | some o => o.after.any fun e => Region.binds md e && e.on == i
  | none => true

/-- the check: the head in its order, then the tail -/
def mixI (md : Region.Mode) (ops : Array Oper) (tl : List Nat) : List Nat → Array Bool → Bool
  | [], listed => seqI md ops tl listed
  | i :: r, listed => (Region.ready md ops listed).contains i && Region.free md ops listed i && !tl.contains i &&
      (match ops[i]? with | some o => !readsMem o || tl.all (waitsFor md ops · i) | none => false) && mixI md ops tl r (listed.setIfInBounds i true)

theorem wpM_of_mix {tl : List Nat} {ts : List Oper} {Q : Exit → Act → World → Prop} (hs : Region.noSelect ops = true) (hQ : ∀ c a w, ¬ Q (.panic c) a w) (hts : tl.mapM (fun i => ops[i]?) = some ts) :
    ∀ (hd : List Nat) (os : List Oper) (listed : Array Bool) (a : Act), hd.mapM (fun i => ops[i]?) = some os → mixI md ops tl hd listed = true →
      wpHead P ops C (fun a' => ∀ w, C w → wpList P ops Q ts a' w) os a → ∀ w, C w → (hd = [] → wpAny P md ops Q tl.length listed a w) ∧ (hd ≠ [] → wpM P md ops C tl Q (hd.length + tl.length) listed a) := by
  intro hd
  induction hd with
  | nil =>
    intro os listed a hos hB h w hw
    simp at hos
    subst hos
    exact ⟨fun _ => wpAny_of_seqI tl ts listed a w hts hB (h w hw), fun h0 => absurd rfl h0⟩
  | cons i r ih =>
    intro os listed a hos hB h w hw
    refine ⟨fun h0 => (by cases h0), fun _ => ?_⟩
    simp only [List.mapM_cons] at hos
    cases h0 : ops[i]? with
    | none => rw [h0] at hos; simp at hos
    | some o =>
      rw [h0] at hos
      cases h1 : r.mapM (fun i => ops[i]?) with
      | none => rw [h1] at hos; simp at hos
      | some os' =>
        rw [h1] at hos
        simp at hos
        subst hos
        simp only [mixI, Bool.and_eq_true, h0] at hB
        obtain ⟨⟨⟨⟨hr, hf⟩, ht⟩, hm⟩, hB'⟩ := hB
        have hst : hOp P ops C i (wpHead P ops C (fun a' => ∀ w, C w → wpList P ops Q ts a' w) os') a := by unfold hOp; simp only [h0]; exact h
        obtain ⟨v, hy, hK⟩ := yieldsH_of_hOp h0 hst
        have hwait : readsMem o = true → ∀ t ∈ tl, ∀ ot, ops[t]? = some ot → ∃ e ∈ ot.after, Region.binds md e = true ∧ e.on = i := by
          intro hrm t ht' ot hot
          rw [hrm] at hm
          simp only [Bool.not_true, Bool.false_or, List.all_eq_true] at hm
          have h2 := hm t ht'
          simp only [waitsFor, hot] at h2
          obtain ⟨e, he, hb⟩ := Array.any_eq_true'.1 h2
          simp only [Bool.and_eq_true, beq_iff_eq] at hb
          exact ⟨e, he, hb.1, hb.2⟩
        have hlen : (i :: r).length + tl.length = (r.length + tl.length) + 1 := by simp; omega
        rw [hlen]
        refine wpM_first h0 (Region.noSelect_spec hs) hQ (by simpa using ht) hwait (r.length + tl.length) listed a (Region.free_spec h0 hf) (by simpa using hr) hy ?_
        have hnext := ih os' (listed.setIfInBounds i true) (a.put o.dst v) h1 hB' hK w hw
        cases r with
        | cons j r' => exact hnext.2 (by simp)
        | nil =>
          simp only [List.length_nil, Nat.zero_add]
          simp at h1
          subst h1
          simp only [mixI] at hB'
          simp only [wpHead] at hK
          -- no head is left
          have base : ∀ w, C w → wpAny P md ops Q tl.length (listed.setIfInBounds i true) (a.put o.dst v) w := fun w hw => wpAny_of_seqI tl ts _ _ w hts hB' (hK w hw)
          cases tl with
          | nil => exact ⟨by simpa [seqI] using hB', fun w hw => (base w hw).2⟩
          | cons t tl' =>
            simp only [seqI, Bool.and_eq_true, decide_eq_true_eq] at hB'
            refine ⟨fun h2 => (by rw [hB'.1] at h2; cases h2), fun k hk => ?_⟩
            rw [hB'.1] at hk
            have hkt : k = t := by simpa using hk
            subst hkt
            rw [if_pos (by simp)]
            intro w hw
            exact (base w hw).2 k (by rw [hB'.1]; simp)

/-! ### As a rule -/
def NP (Q : Exit → Act → World → Prop) : Exit → Act → World → Prop
  | .panic _, _, _ => False
  | e, a, w => Q e a w

variable {Q : Exit → Act → World → Prop} {B : Nat} {w0 : World} {N : Nat} {G : List Hp} {E : Env} {S : World → Prop} {ty : TypeId}

/-- the operations of the head that are left -/
def HW (P : Program) (ops : Array Oper) (Q : Exit → Act → World → Prop) (B : Nat) (w0 : World) (N : Nat) (G : List Hp) (E : Env) (rest : List Oper) (tail : List Oper) : Prop :=
  ∀ a, EnvOK N E a → wpHead P ops (St B w0 G) (fun a' => ∀ w', St B w0 G w' → wpList P ops (NP Q) tail a' w') rest a

theorem xw_np (h : XW Q B w0 N G E .normal) : XW (NP Q) B w0 N G E .normal := h

def picks (l : List Oper) : List Nat → Option (List Oper)
  | [] => some []
  | i :: r => match l[i]?, picks l r with
    | some o, some os => some (o :: os)
    | _, _ => none
theorem picks_eq (l : List Oper) : ∀ is : List Nat, picks l is = is.mapM (fun i => l[i]?)
  | [] => by simp [picks]
  | i :: r => by
    simp only [picks, List.mapM_cons, picks_eq l r]
    cases l[i]? <;> simp
    cases r.mapM (fun i => l[i]?) <;> simp

theorem cw_mix {id : Nat} {l : List Oper} (tl hd : List Nat) {ts hs : List Oper} (hm : P.follows .mixedOrders = true) (hts : picks l tl = some ts) (hhs : picks l hd = some hs) (hne : hd ≠ []) (hlen : hd.length + tl.length = l.length)
    (hB : (Region.noSelect l.toArray && mixI .any l.toArray tl hd (Array.replicate l.length false)) = true) (h : HW P l.toArray Q B w0 N G E hs ts) : CW P Q B w0 N G E (.region id l.toArray true) := fun a w ha hw => by
  simp only [Bool.and_eq_true] at hB
  refine wp_mono (Q := NP Q) ?_ (fun e a w hq => by cases e <;> first | exact hq | exact hq.elim)
  refine wp_region_any hm ?_
  have h1 := wpM_of_mix (md := .any) (C := St B w0 G) (Q := NP Q) hB.1 (fun c a w hq => hq) (by rw [picks_eq] at hts; simpa using hts) hd hs (Array.replicate l.length false) a (by rw [picks_eq] at hhs; simpa using hhs) hB.2 (h a ha) { w with drawn := w.drawn + 1 } hw.drewEq
  have h2 := wpAny_of_M _ _ _ _ hw.drewEq (h1.2 hne)
  rw [hlen] at h2
  simpa using h2

theorem value_of {s : Sem Value} {w w' : World} {n : Next} (h : (do pure (Next.value (← s)) : Sem Next).run P w = .ok n w') : ∃ u, n = .value u := by
  rw [Sem.run_bind] at h
  cases hs : s.run P w with
  | ok v w1 => rw [hs] at h; simp at h; exact ⟨v, h.1.symm⟩
  | halt x w1 => rw [hs] at h; simp at h

theorem value_of' {r : Result Value} {w' : World} {n : Next} (h : (r.andThen fun a w' => Result.ok (Next.value a) w') = .ok n w') : ∃ u, n = .value u := by
  cases r with
  | ok v w1 => simp at h; exact ⟨v, h.1.symm⟩
  | halt x w1 => simp at h

theorem pure_value {ρ : Operand → Value} {o : Oper} (ho : readsMem o = false) {w w' : World} {n : Next} (h : (execOp ρ o).run P w = .ok n w') : ∃ u, n = .value u := by
  obtain ⟨d, op, ty, pos, af, g⟩ := o
  cases op <;> (try (simp [readsMem] at ho; done))
  case move x => simp [execOp] at h; exact ⟨_, h.1.symm⟩
  case assign x => simp [execOp] at h; exact ⟨_, h.1.symm⟩
  case pick c x y =>
    simp only [execOp] at h
    rw [Sem.run_bind] at h
    cases hs : (asBool (ρ c)).run P w with
    | ok v w1 => rw [hs] at h; simp at h; exact ⟨_, h.1.symm⟩
    | halt x w1 => rw [hs] at h; simp at h
  case nilCheck x =>
    simp only [execOp] at h
    split at h
    · cases hs : (runtimePanic .nilDeref : Sem Next).run P w with
      | ok v w1 => simp [runtimePanic, goPanic, program, Sem.run_bind, Sem.run] at hs
      | halt x w1 => rw [hs] at h; cases h
    · cases hs : (runtimePanic .nilDeref : Sem Next).run P w with
      | ok v w1 => simp [runtimePanic, goPanic, program, Sem.run_bind, Sem.run] at hs
      | halt x w1 => rw [hs] at h; cases h
    · cases hs : (runtimePanic .nilDeref : Sem Next).run P w with
      | ok v w1 => simp [runtimePanic, goPanic, program, Sem.run_bind, Sem.run] at hs
      | halt x w1 => rw [hs] at h; cases h
    · split at h
      · cases hs : (runtimePanic .nilDeref : Sem Next).run P w with
        | ok v w1 => simp [runtimePanic, goPanic, program, Sem.run_bind, Sem.run] at hs
        | halt x w1 => rw [hs] at h; cases h
      · rw [Sem.run_bind] at h
        simp only [program, Sem.run, Result.andThen_ok, Sem.run_bind] at h
        revert h
        generalize Sem.run P (nilAhead _ _ _ _) w = r
        intro h
        cases r with
        | halt x w1 => simp at h
        | ok q w1 =>
          simp only [Result.andThen_ok] at h
          split at h
          · simp [unsupported, Sem.run] at h
          · simp at h
            exact ⟨_, h.1.symm⟩
      · simp at h; exact ⟨_, h.1.symm⟩
    · simp at h; exact ⟨_, h.1.symm⟩
  case call c =>
    obtain ⟨callee, args, tys⟩ := c
    cases callee with
    | value f => simp [readsMem] at ho
    | invoke r m => simp [readsMem] at ho
    | builtin b =>
      cases b <;> (try (simp [readsMem] at ho; done)) <;>
        (simp only [execOp, resolve, Sem.run_bind, Sem.run_pure, Result.andThen_ok, invoke, builtin] at h; exact value_of' h)
  all_goals exact value_of h

/-- pure -/
theorem hw_pure {d : Nat} {op : Op} {pos : String} {af : Array Edge} {g : Option (Nat × Bool)} {rest tail : List Oper} {v : Value} (hg : Env.guard E ops g = some true) (hd : Nat.blt d N = true)
    (hv : OpV P (fun _ => True) N E op ty v) (hc : readsMem ⟨none, op, ty, "", #[], none⟩ = false) (h : HW P ops Q B w0 N G ((d, v) :: E) rest tail) :
    HW P ops Q B w0 N G E (⟨some d, op, ty, pos, af, g⟩ :: rest) tail := fun a ha => by
  unfold wpHead
  rw [if_pos (ha.guard (o := ⟨some d, op, ty, pos, af, g⟩) hg)]
  have key : ∀ w, (execOp a.eval ⟨none, op, ty, "", #[], none⟩).run P w = .ok (.value v) w := fun w => by
    have h1 := hv a w ha trivial
    cases hr : (execOp a.eval ⟨none, op, ty, "", #[], none⟩).run P w with
    | halt x w' => rw [hr] at h1; simp [Oper.quietUpon] at h1
    | ok n w' =>
      obtain ⟨u, hu⟩ := pure_value hc hr
      subst hu
      rw [hr] at h1
      simp only [Oper.quietUpon] at h1
      rw [h1.1, h1.2]
  refine ⟨v, ⟨fun w' _ => ?_, fun _ w => key w⟩, h _ (ha.put (by simpa using hd) v)⟩
  have he : execOp a.eval ⟨some d, op, ty, pos, af, g⟩ = execOp a.eval ⟨none, op, ty, "", #[], none⟩ := rfl
  unfold Oper.quietAt
  rw [he, key w']
  exact ⟨rfl, rfl⟩

theorem hw_read {d : Nat} {op : Op} {pos : String} {af : Array Edge} {g : Option (Nat × Bool)} {rest tail : List Oper} {v : Value} (hg : Env.guard E ops g = some true) (hd : Nat.blt d N = true)
    (hr : readsMem ⟨some d, op, ty, pos, af, g⟩ = true) (hv : OpV P (St B w0 G) N E op ty v) (h : HW P ops Q B w0 N G ((d, v) :: E) rest tail) :
    HW P ops Q B w0 N G E (⟨some d, op, ty, pos, af, g⟩ :: rest) tail := fun a ha => by
  unfold wpHead
  rw [if_pos (ha.guard (o := ⟨some d, op, ty, pos, af, g⟩) hg)]
  exact ⟨v, ⟨fun w' hw' => hv.quietAt ha w' hw', fun h0 => by rw [hr] at h0; cases h0⟩, h _ (ha.put (by simpa using hd) v)⟩

theorem hw_skip {d : Nat} {op : Op} {pos : String} {af : Array Edge} {g : Option (Nat × Bool)} {rest tail : List Oper} (hg : Env.guard E ops g = some false) (hd : Nat.blt d N = true)
    (h : HW P ops Q B w0 N G ((d, undef) :: E) rest tail) : HW P ops Q B w0 N G E (⟨some d, op, ty, pos, af, g⟩ :: rest) tail := fun a ha => by
  unfold wpHead
  rw [if_neg (by rw [ha.guard (o := ⟨some d, op, ty, pos, af, g⟩) hg]; simp)]
  exact h _ (ha.put (by simpa using hd) undef)

theorem hw_nil {tail : List Oper} (h : OW P ops (NP Q) B w0 N G E tail) : HW P ops Q B w0 N G E [] tail := fun a ha => fun w' hw' => h a w' ha hw'

theorem hw_dec (t : Nat) {rest tail : List Oper} {p : Prop} [Decidable p] (ht : Env.look E t = some (.bool (decide p))) (hx : p → HW P ops Q B w0 N G ((t, .bool true) :: E) rest tail) (hy : ¬ p → HW P ops Q B w0 N G ((t, .bool false) :: E) rest tail) : HW P ops Q B w0 N G E rest tail := by
  intro a ha
  by_cases hp : p
  · exact hx hp a (ha.dup (by rw [ht, decide_eq_true hp]))
  · exact hy hp a (ha.dup (by rw [ht, decide_eq_false hp]))
theorem hw_bool (t : Nat) {rest tail : List Oper} {b : Bool} (ht : Env.look E t = some (.bool b)) (hx : b = true → HW P ops Q B w0 N G ((t, .bool true) :: E) rest tail) (hy : b = false → HW P ops Q B w0 N G ((t, .bool false) :: E) rest tail) : HW P ops Q B w0 N G E rest tail := by
  intro a ha
  cases b
  · exact hy rfl a (ha.dup ht)
  · exact hx rfl a (ha.dup ht)

end Go.Sl
