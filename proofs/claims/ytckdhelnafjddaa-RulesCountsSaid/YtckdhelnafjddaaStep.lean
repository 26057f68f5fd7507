/- A region that draws, three or four operations ready: each of them may be the next. Conditions: none. -/
import Derived.Test.YtckdhelnafjddaaLt
namespace Go.Sl
set_option linter.unusedVariables false
open Go.RowKit Go
variable {P : Program} {ops : Array Oper} {md : Region.Mode} {B : Nat} {w0 : World} {Q : Exit → Act → World → Prop} {N : Nat} {G : List Hp} {E : Env}
theorem aw_stepN (is : List Nat) {fuel : Nat} {listed : Array Bool} (hr : decide (Region.ready md ops listed = is) = true) (hne : is ≠ []) (h : ∀ j ∈ is, ∃ o, ops[j]? = some o ∧ OW P ops (Nx (wpAny P md ops Q fuel (listed.setIfInBounds j true)) Q) B w0 N G E [o]) : AW P md ops Q B w0 N G E (fuel + 1) listed := fun a w ha hw => by
  have hr' : Region.ready md ops listed = is := by simpa using hr
  refine ⟨fun h0 => absurd (hr'.symm.trans h0) hne, fun j hj => ?_⟩
  rw [hr'] at hj
  obtain ⟨o, ho, h1⟩ := h j hj
  exact wpOp_of_list ho (h1 a w ha hw)
theorem aw_step3 (i k m : Nat) {d0 : Option Tmp} {op0 : Op} {t0 : TypeId} {pos0 : String} {af0 : Array Edge} {g0 : Option (Nat × Bool)} {d1 : Option Tmp} {op1 : Op} {t1 : TypeId} {pos1 : String} {af1 : Array Edge} {g1 : Option (Nat × Bool)} {d2 : Option Tmp} {op2 : Op} {t2 : TypeId} {pos2 : String} {af2 : Array Edge} {g2 : Option (Nat × Bool)} {fuel : Nat} {listed : Array Bool} (hr : decide (Region.ready md ops listed = [i, k, m]) = true) (hi0 : ops[i]? = some ⟨d0, op0, t0, pos0, af0, g0⟩) (hi1 : ops[k]? = some ⟨d1, op1, t1, pos1, af1, g1⟩) (hi2 : ops[m]? = some ⟨d2, op2, t2, pos2, af2, g2⟩) (h0 : OW P ops (Nx (wpAny P md ops Q fuel (listed.setIfInBounds i true)) Q) B w0 N G E [⟨d0, op0, t0, pos0, af0, g0⟩]) (h1 : OW P ops (Nx (wpAny P md ops Q fuel (listed.setIfInBounds k true)) Q) B w0 N G E [⟨d1, op1, t1, pos1, af1, g1⟩]) (h2 : OW P ops (Nx (wpAny P md ops Q fuel (listed.setIfInBounds m true)) Q) B w0 N G E [⟨d2, op2, t2, pos2, af2, g2⟩]) : AW P md ops Q B w0 N G E (fuel + 1) listed :=
  aw_stepN [i, k, m] hr (by simp) fun j hj => by
    simp only [List.mem_cons, List.not_mem_nil, or_false] at hj
    rcases hj with rfl | rfl | rfl
    · exact ⟨_, hi0, h0⟩
    · exact ⟨_, hi1, h1⟩
    · exact ⟨_, hi2, h2⟩
theorem aw_step4 (i k m n : Nat) {d0 : Option Tmp} {op0 : Op} {t0 : TypeId} {pos0 : String} {af0 : Array Edge} {g0 : Option (Nat × Bool)} {d1 : Option Tmp} {op1 : Op} {t1 : TypeId} {pos1 : String} {af1 : Array Edge} {g1 : Option (Nat × Bool)} {d2 : Option Tmp} {op2 : Op} {t2 : TypeId} {pos2 : String} {af2 : Array Edge} {g2 : Option (Nat × Bool)} {d3 : Option Tmp} {op3 : Op} {t3 : TypeId} {pos3 : String} {af3 : Array Edge} {g3 : Option (Nat × Bool)} {fuel : Nat} {listed : Array Bool} (hr : decide (Region.ready md ops listed = [i, k, m, n]) = true) (hi0 : ops[i]? = some ⟨d0, op0, t0, pos0, af0, g0⟩) (hi1 : ops[k]? = some ⟨d1, op1, t1, pos1, af1, g1⟩) (hi2 : ops[m]? = some ⟨d2, op2, t2, pos2, af2, g2⟩) (hi3 : ops[n]? = some ⟨d3, op3, t3, pos3, af3, g3⟩) (h0 : OW P ops (Nx (wpAny P md ops Q fuel (listed.setIfInBounds i true)) Q) B w0 N G E [⟨d0, op0, t0, pos0, af0, g0⟩]) (h1 : OW P ops (Nx (wpAny P md ops Q fuel (listed.setIfInBounds k true)) Q) B w0 N G E [⟨d1, op1, t1, pos1, af1, g1⟩]) (h2 : OW P ops (Nx (wpAny P md ops Q fuel (listed.setIfInBounds m true)) Q) B w0 N G E [⟨d2, op2, t2, pos2, af2, g2⟩]) (h3 : OW P ops (Nx (wpAny P md ops Q fuel (listed.setIfInBounds n true)) Q) B w0 N G E [⟨d3, op3, t3, pos3, af3, g3⟩]) : AW P md ops Q B w0 N G E (fuel + 1) listed :=
  aw_stepN [i, k, m, n] hr (by simp) fun j hj => by
    simp only [List.mem_cons, List.not_mem_nil, or_false] at hj
    rcases hj with rfl | rfl | rfl | rfl
    · exact ⟨_, hi0, h0⟩
    · exact ⟨_, hi1, h1⟩
    · exact ⟨_, hi2, h2⟩
    · exact ⟨_, hi3, h3⟩

/-! ### A region that draws: calls in the head that may come before or behind a new block -/
def wpHeadR (P : Program) (ops : Array Oper) (B : Nat) (w0 : World) (G : List Hp) (Q : Act → Prop) : List Oper → Act → Prop
  | [], a => Q a
  | o :: rest, a => if Region.wanted o (yielded ops a.tmps) then ∃ v, (∀ X : List Hp, headAt P o a (St B w0 (X ++ G)) v) ∧ wpHeadR P ops B w0 G Q rest (a.put o.dst v) else wpHeadR P ops B w0 G Q rest (a.put o.dst undef)
def YieldsR (P : Program) (ops : Array Oper) (B : Nat) (w0 : World) (G : List Hp) (o : Oper) (v : Value) (a : Act) : Prop := ∀ X : List Hp, YieldsH P ops (St B w0 (X ++ G)) o v a
theorem YieldsR.more {o : Oper} {a : Act} {v : Value} {c : Hp} (h : YieldsR P ops B w0 G o v a) : YieldsR P ops B w0 (c :: G) o v a := fun X => by
  have := h (X ++ [c])
  rwa [List.append_assoc] at this
theorem headAt.moreN {o : Oper} {a : Act} {v : Value} (hn : noCall o = true) (h : headAt P o a (St B w0 G) v) : ∀ X : List Hp, headAt P o a (St B w0 (X ++ G)) v
  | [] => h
  | _ :: X => (headAt.moreN hn h X).more hn
theorem hOp_putR {j : Nat} {oi oj : Oper} {v : Value} (hj : ops[j]? = some oj) (hap : oi.apart ops oj = true)
    (hsi : ∀ cs b, oi.op ≠ .select cs b) (hsj : ∀ cs b, oj.op ≠ .select cs b) {K : Act → Prop} {a : Act}
    (hy : YieldsR P ops B w0 G oi v a) (h : hOp P ops (St B w0 G) j K (a.put oi.dst v)) :
    hOp P ops (St B w0 G) j (fun a' => YieldsR P ops B w0 G oi v a' ∧ K (a'.put oi.dst v)) a := by
  obtain ⟨h1, h2, h3⟩ := Oper.apart_spec hap
  have keep : ∀ (a : Act), YieldsR P ops B w0 G oi v a → ∀ u, YieldsR P ops B w0 G oi v (a.put oj.dst u) := fun a hy u X =>
    (hy X).of_same (execOp_put oi hsi a oj.dst u h3) (wanted_put oi a oj.dst u h3)
  unfold hOp at *
  simp only [hj] at *
  rw [wanted_put oj a oi.dst v h1] at h
  split
  · rename_i hw
    simp only [hw, if_true] at h
    obtain ⟨u, hu, hn⟩ := h
    refine ⟨u, ?_, keep a hy u, by rw [← Act.put_comm a v u h2]; exact hn⟩
    unfold headAt Oper.quietAt at *
    rwa [execOp_put oj hsj a oi.dst v h1] at hu
  · rename_i hw
    simp only [hw] at h
    exact ⟨keep a hy _, by rw [← Act.put_comm a v undef h2]; exact h⟩

theorem wpM_firstR {sf tl : List Nat} {Q : Exit → Act → World → Prop} {i : Nat} {oi : Oper} {v : Value} (hi : ops[i]? = some oi) (hsel : ∀ (j : Nat) (o : Oper) cs b, ops[j]? = some o → o.op ≠ .select cs b)
    (hQ : ∀ c a w, ¬ Q (.panic c) a w) (hit : tl.contains i = false) (his : sf.contains i = false)
    (hwait : readsMem oi = true → ∀ t ∈ tl, reaches md ops i 99 t = true) :
    ∀ (fuel : Nat) (listed : Array Bool) (G : List Hp) (a : Act), Closed md ops listed →
      (∀ j oj, ops[j]? = some oj → j ≠ i → listed.getD j true = false → (∀ e ∈ oj.after, Region.binds md e = true → e.on ≠ i) → oi.apart ops oj = true) →
      i ∈ Region.ready md ops listed → YieldsR P ops B w0 G oi v a →
      wpM P md ops B w0 sf tl Q fuel (listed.setIfInBounds i true) G (a.put oi.dst v) → wpM P md ops B w0 sf tl Q (fuel + 1) listed G a := by
  intro fuel
  induction fuel with
  | zero =>
    intro listed G a _ _ hr hy H
    refine ⟨fun h => (by rw [h] at hr; cases hr), fun j hj => ?_⟩
    by_cases hji : j = i
    · subst hji; rw [if_neg (by simp at hit ⊢; exact hit), if_neg (by simp at his ⊢; exact his)]; exact (hy []).hOp hi H
    · have := ready_mono hj hji
      rw [H.1] at this
      cases this
  | succ fuel ih =>
    intro listed G a hcl hfree hr hy H
    refine ⟨fun h => (by rw [h] at hr; cases hr), fun j hj => ?_⟩
    by_cases hji : j = i
    · subst hji; rw [if_neg (by simp at hit ⊢; exact hit), if_neg (by simp at his ⊢; exact his)]; exact (hy []).hOp hi H
    · have h1 := H.2 j (ready_mono hj hji)
      obtain ⟨hjun, oj, hoj, hall⟩ := mem_ready.1 hj
      have hnot : ∀ e ∈ oj.after, Region.binds md e = true → e.on ≠ i := fun e he hb heq => by
        have h1 := hall e he hb
        have h0 := (mem_ready.1 hr).1
        rw [heq] at h1
        rcases Nat.lt_or_ge i listed.size with h' | h'
        · simp [h'] at h0 h1; rw [h0] at h1; cases h1
        · simp [Array.getElem?_eq_none h'] at h1
      have hap := hfree j oj hoj hji hjun hnot
      have hfree' : ∀ k ok, ops[k]? = some ok → k ≠ i → (listed.setIfInBounds j true).getD k true = false →
          (∀ e ∈ ok.after, Region.binds md e = true → e.on ≠ i) → oi.apart ops ok = true := fun k ok hk hki hun hno => by
        refine hfree k ok hk hki ?_ hno
        by_cases hjk : j = k
        · subst hjk; exact hjun
        · rw [getD_set_ne true hjk] at hun; exact hun
      split at h1
      · rename_i htl
        rw [if_pos htl]
        -- a tail operation: then i is pure
        have hpure : readsMem oi = false := by
          cases hrm : readsMem oi with
          | false => rfl
          | true =>
            have h5 := reaches_listed hcl 99 j oj hoj hall (hwait hrm j (by simpa using htl))
            rw [not_listed (mem_ready.1 hr).1] at h5
            cases h5
        intro w hw
        have hyp := (hy []).pure hpure
        have h2 := wpOp_put hoj hap (fun cs b => hsel i oi cs b hi) (fun cs b => hsel j oj cs b hoj) (Q := Q) (fun c a w hq => absurd hq (hQ c _ w)) hyp (h1 w hw)
        refine wpOp_mono (fun a' w' h3 => ?_) h2
        refine wpAny_first hi hsel (fun c a w hq => absurd hq (hQ c _ w)) fuel (listed.setIfInBounds j true) a' w' hfree' (ready_mono hr (Ne.symm hji)) h3.1 ?_
        rw [Array.setIfInBounds_comm _ _ hji]
        exact h3.2
      · rename_i htl
        rw [if_neg htl]
        split at h1
        · rename_i hsfj
          rw [if_pos hsfj]
          obtain ⟨p1, p2, p3⟩ := Oper.apart_spec hap
          have keep : ∀ u, YieldsR P ops B w0 G oi v (a.put oj.dst u) := fun u X =>
            (hy X).of_same (execOp_put oi (fun cs b => hsel i oi cs b hi) a oj.dst u p3) (wanted_put oi a oj.dst u p3)
          unfold sOp at h1 ⊢
          simp only [hoj] at h1 ⊢
          rw [wanted_put oj a oi.dst v p1] at h1
          split
          · rename_i hw
            simp only [hw, if_true] at h1
            obtain ⟨obj, mk, g1, g2⟩ := h1
            refine ⟨obj, mk, fun w hw => ?_, fun b => ?_⟩
            · have := g1 w hw
              rwa [execOp_put oj (fun cs b => hsel j oj cs b hoj) a oi.dst v p1] at this
            · refine ih (listed.setIfInBounds j true) _ _ (hcl.add hj) hfree' (ready_mono hr (Ne.symm hji)) (keep _).more ?_
              rw [Array.setIfInBounds_comm _ _ hji, ← Act.put_comm a v _ p2]
              exact g2 b
          · rename_i hw
            simp only [hw] at h1
            refine ih (listed.setIfInBounds j true) _ _ (hcl.add hj) hfree' (ready_mono hr (Ne.symm hji)) (keep _) ?_
            rw [Array.setIfInBounds_comm _ _ hji, ← Act.put_comm a v _ p2]
            exact h1
        · rename_i hsfj
          rw [if_neg hsfj]
          have h2 := hOp_putR hoj hap (fun cs b => hsel i oi cs b hi) (fun cs b => hsel j oj cs b hoj) hy h1
          refine hOp_mono (fun a' h3 => ih (listed.setIfInBounds j true) _ a' (hcl.add hj) hfree' (ready_mono hr (Ne.symm hji)) h3.1 ?_) h2
          rw [Array.setIfInBounds_comm _ _ hji]
          exact h3.2

def mixR (md : Region.Mode) (ops : Array Oper) (sf tl : List Nat) : List Nat → Array Bool → Bool
  | [], listed => seqS md ops tl sf listed
  | i :: r, listed => (Region.ready md ops listed).contains i && Region.free md ops listed i && !tl.contains i && !sf.contains i &&
      (match ops[i]? with | some o => (!readsMem o || tl.all (waitsFor md ops · i)) | none => false) && mixR md ops sf tl r (listed.setIfInBounds i true)

theorem wpM_of_mixR {sf tl : List Nat} {ss ts : List Oper} {Q : Exit → Act → World → Prop} {G : List Hp} (hs : Region.noSelect ops = true) (hQ : ∀ c a w, ¬ Q (.panic c) a w) (hss : sf.mapM (fun i => ops[i]?) = some ss) (hts : tl.mapM (fun i => ops[i]?) = some ts) :
    ∀ (hd : List Nat) (os : List Oper) (listed : Array Bool) (a : Act), Closed md ops listed → hd.mapM (fun i => ops[i]?) = some os → mixR md ops sf tl hd listed = true →
      wpHeadR P ops B w0 G (fun a' => wpSoft P ops B w0 Q ts ss G a') os a → wpM P md ops B w0 sf tl Q (hd.length + (sf.length + tl.length)) listed G a := by
  intro hd
  induction hd with
  | nil =>
    intro os listed a hcl hos hB h
    simp at hos
    subst hos
    simp only [List.length_nil, Nat.zero_add]
    exact wpM_of_soft hts sf ss listed G a (fun x hx => hx) hss hB h
  | cons i r ih =>
    intro os listed a hcl hos hB h
    simp only [List.mapM_cons] at hos
    cases h0 : ops[i]? with
    | none => rw [h0] at hos; simp at hos
    | some o =>
      rw [h0] at hos
      cases h1 : r.mapM (fun i => ops[i]?) with
      | none => rw [h1] at hos; simp at hos
      | some os' =>
        rw [h1] at hos
        simp at hos
        subst hos
        simp only [mixR, Bool.and_eq_true, h0] at hB
        obtain ⟨⟨⟨⟨⟨hr, hf⟩, ht⟩, hsf⟩, hm⟩, hB'⟩ := hB
        have hst : ∃ v, YieldsR P ops B w0 G o v a ∧ wpHeadR P ops B w0 G (fun a' => wpSoft P ops B w0 Q ts ss G a') os' (a.put o.dst v) := by
          unfold wpHeadR at h
          by_cases hw : Region.wanted o (yielded ops a.tmps) = true
          · rw [if_pos hw] at h
            obtain ⟨v, h1, h2⟩ := h
            exact ⟨v, fun X => .inl ⟨hw, h1 X⟩, h2⟩
          · rw [if_neg hw] at h
            exact ⟨undef, fun X => .inr ⟨by simpa using hw, rfl⟩, h⟩
        obtain ⟨v, hy, hK⟩ := hst
        have hlen : (i :: r).length + (sf.length + tl.length) = (r.length + (sf.length + tl.length)) + 1 := by simp; omega
        rw [hlen]
        refine wpM_firstR h0 (Region.noSelect_spec hs) hQ (by simpa using ht) (by simpa using hsf) (fun hrm => ?_) (r.length + (sf.length + tl.length)) listed G a hcl (Region.free_spec h0 hf) (by simpa using hr) hy ?_
        · have h3 := hm
          rw [hrm] at h3
          exact waits_spec (by simpa using h3)
        · exact ih os' (listed.setIfInBounds i true) (a.put o.dst v) (hcl.add (by simpa using hr)) h1 hB' hK


variable {S : World → Prop} {ty T : TypeId}
def HWR (P : Program) (ops : Array Oper) (Q : Exit → Act → World → Prop) (B : Nat) (w0 : World) (N : Nat) (G : List Hp) (E : Env) (rest : List Oper) (tail : List Oper × List Oper) : Prop :=
  ∀ a, EnvOK N E a → wpHeadR P ops B w0 G (fun a' => wpSoft P ops B w0 (NP Q) tail.2 tail.1 G a') rest a
theorem cw_mixR {id : Nat} {l : List Oper} (sf tl hd : List Nat) {ss ts hs : List Oper} (hm : P.follows .mixedOrders = true) (hss : picks l sf = some ss) (hts : picks l tl = some ts) (hhs : picks l hd = some hs) (hlen : hd.length + (sf.length + tl.length) = l.length)
    (hB : (Region.noSelect l.toArray && mixR .any l.toArray sf tl hd (Array.replicate l.length false)) = true) (h : HWR P l.toArray Q B w0 N G E hs (ss, ts)) : CW P Q B w0 N G E (.region id l.toArray true) := fun a w ha hw => by
  simp only [Bool.and_eq_true] at hB
  refine wp_mono (Q := NP Q) ?_ (fun e a w hq => by cases e <;> first | exact hq | exact hq.elim)
  refine wp_region_any hm ?_
  have h1 := wpM_of_mixR (md := .any) (Q := NP Q) hB.1 (fun c a w hq => hq) (by rw [picks_eq] at hss; simpa using hss) (by rw [picks_eq] at hts; simpa using hts) hd hs (Array.replicate l.length false) a (Closed.start _) (by rw [picks_eq] at hhs; simpa using hhs) hB.2 (h a ha)
  have h2 := wpAny_of_M (w := { w with drawn := w.drawn + 1 }) _ _ _ _ hw.drewEq h1
  rw [hlen] at h2
  simpa using h2

theorem hwr_pure {d : Nat} {op : Op} {pos : String} {af : Array Edge} {g : Option (Nat × Bool)} {rest : List Oper} {tail : List Oper × List Oper} {v : Value} (hg : Env.guard E ops g = some true) (hd : Nat.blt d N = true)
    (hv : OpV P (fun _ => True) N E op ty v) (hc : readsMem ⟨none, op, ty, "", #[], none⟩ = false) (h : HWR P ops Q B w0 N G ((d, v) :: E) rest tail) :
    HWR P ops Q B w0 N G E (⟨some d, op, ty, pos, af, g⟩ :: rest) tail := fun a ha => by
  unfold wpHeadR
  rw [if_pos (ha.guard (o := ⟨some d, op, ty, pos, af, g⟩) hg)]
  have key : ∀ w, (execOp a.eval ⟨none, op, ty, "", #[], none⟩).run P w = .ok (.value v) w := fun w => by
    have h1 := hv a w ha trivial
    cases hr : (execOp a.eval ⟨none, op, ty, "", #[], none⟩).run P w with
    | halt x w' => rw [hr] at h1; simp [Oper.quietUpon] at h1
    | ok n w' =>
      obtain ⟨u, hu⟩ := pure_value hc hr
      subst hu
      rw [hr] at h1
      simp only [Oper.quietUpon] at h1
      rw [h1.1, h1.2]
  refine ⟨v, fun X => ⟨fun w' _ => ?_, fun _ w => key w⟩, h _ (ha.put (by simpa using hd) v)⟩
  have he : execOp a.eval ⟨some d, op, ty, pos, af, g⟩ = execOp a.eval ⟨none, op, ty, "", #[], none⟩ := rfl
  unfold Oper.quietAt
  rw [he, key w']
  exact ⟨rfl, rfl⟩

theorem hwr_load {d : Nat} {op : Op} {pos : String} {af : Array Edge} {g : Option (Nat × Bool)} {rest : List Oper} {tail : List Oper × List Oper} {v : Value} (hg : Env.guard E ops g = some true) (hd : Nat.blt d N = true)
    (hr : readsMem ⟨some d, op, ty, pos, af, g⟩ = true) (hn : noCall ⟨some d, op, ty, pos, af, g⟩ = true) (hv : OpV P (St B w0 G) N E op ty v) (h : HWR P ops Q B w0 N G ((d, v) :: E) rest tail) :
    HWR P ops Q B w0 N G E (⟨some d, op, ty, pos, af, g⟩ :: rest) tail := fun a ha => by
  unfold wpHeadR
  rw [if_pos (ha.guard (o := ⟨some d, op, ty, pos, af, g⟩) hg)]
  exact ⟨v, headAt.moreN hn ⟨fun w' hw' => hv.quietAt ha w' hw', fun h0 => by rw [hr] at h0; cases h0⟩, h _ (ha.put (by simpa using hd) v)⟩
theorem hwr_call {d : Nat} {op : Op} {pos : String} {af : Array Edge} {g : Option (Nat × Bool)} {rest : List Oper} {tail : List Oper × List Oper} {v : Value} (hg : Env.guard E ops g = some true) (hd : Nat.blt d N = true)
    (hr : readsMem ⟨some d, op, ty, pos, af, g⟩ = true) (hv : ∀ X : List Hp, OpV P (St B w0 (X ++ G)) N E op ty v) (h : HWR P ops Q B w0 N G ((d, v) :: E) rest tail) :
    HWR P ops Q B w0 N G E (⟨some d, op, ty, pos, af, g⟩ :: rest) tail := fun a ha => by
  unfold wpHeadR
  rw [if_pos (ha.guard (o := ⟨some d, op, ty, pos, af, g⟩) hg)]
  exact ⟨v, fun X => ⟨fun w' hw' => (hv X).quietAt ha w' hw', fun h0 => by rw [hr] at h0; cases h0⟩, h _ (ha.put (by simpa using hd) v)⟩

theorem hwr_skip {d : Nat} {op : Op} {pos : String} {af : Array Edge} {g : Option (Nat × Bool)} {rest : List Oper} {tail : List Oper × List Oper} (hg : Env.guard E ops g = some false) (hd : Nat.blt d N = true)
    (h : HWR P ops Q B w0 N G ((d, undef) :: E) rest tail) : HWR P ops Q B w0 N G E (⟨some d, op, ty, pos, af, g⟩ :: rest) tail := fun a ha => by
  unfold wpHeadR
  rw [if_neg (by rw [ha.guard (o := ⟨some d, op, ty, pos, af, g⟩) hg]; simp)]
  exact h _ (ha.put (by simpa using hd) undef)

theorem hwr_nil {s t : List Oper} (h : SW P ops Q B w0 N G E s t) : HWR P ops Q B w0 N G E [] (s, t) := fun a ha => h a ha
theorem hwr_dec (t : Nat) {rest : List Oper} {tail : List Oper × List Oper} {p : Prop} [Decidable p] (ht : Env.look E t = some (.bool (decide p))) (hx : p → HWR P ops Q B w0 N G ((t, .bool true) :: E) rest tail) (hy : ¬ p → HWR P ops Q B w0 N G ((t, .bool false) :: E) rest tail) : HWR P ops Q B w0 N G E rest tail := by
  intro a ha
  by_cases hp : p
  · exact hx hp a (ha.dup (by rw [ht, decide_eq_true hp]))
  · exact hy hp a (ha.dup (by rw [ht, decide_eq_false hp]))
theorem hwr_bool (t : Nat) {rest : List Oper} {tail : List Oper × List Oper} {b : Bool} (ht : Env.look E t = some (.bool b)) (hx : b = true → HWR P ops Q B w0 N G ((t, .bool true) :: E) rest tail) (hy : b = false → HWR P ops Q B w0 N G ((t, .bool false) :: E) rest tail) : HWR P ops Q B w0 N G E rest tail := by
  intro a ha
  cases b
  · exact hy rfl a (ha.dup ht)
  · exact hx rfl a (ha.dup ht)


/-! ### copy into a part -/
theorem ow_copyD {d dl : Nat} {x y : Operand} {e size n cap k m sLen sCap q : Nat} {ao so : Option Addr} {c : Hp} {xs vs : List Value} {R : Hp → List Hp} {tys : Array TypeId} {pos : String} {af : Array Edge} {g : Option (Nat × Bool)} {rest : List Oper} (hg : Env.guard E ops g = some true) (hd : Nat.blt d N = true)
    (ht : tys[0]? = some T) (hT : P.underlying T = some (.slice e)) (he : (P.info? e).map (·.size) = some size)
    (hx : Env.ev E x = some (.slice (cutA ao cap k size) dl q)) (hy : Env.ev E y = some (.slice so sLen sCap)) (hm : Nat.min sLen dl = m) (hk : k + m ≤ n) (hsl : IsSl e size (.slice ao n cap) c n xs)
    (hr : Reads P (St B w0 G) size (.slice so sLen sCap) m vs) (h1 : ∀ u ∈ vs, u.oneCell' = true) (hs : Sel G c R)
    (h : ∀ c', IsSl e size (.slice ao n cap) c' n (xs.take (k * size) ++ (vs ++ xs.drop (k * size + m * size))) → OW P ops Q B w0 N (R c') ((d, .int .i64 m) :: E) rest) : OW P ops Q B w0 N G E (⟨some d, .call { callee := .builtin .copy, args := #[x, y], argTypes := tys }, ty, pos, af, g⟩ :: rest) := by
  by_cases h0 : m = 0
  · subst h0
    have hvs : vs = [] := by have := hr.len; simp at this; exact this
    subst hvs
    have h2 := h c (by simpa using hsl)
    intro a w ha hw
    unfold wpList
    rw [if_pos (ha.guard (o := ⟨some d, .call { callee := .builtin .copy, args := #[x, y], argTypes := tys }, ty, pos, af, g⟩) hg)]
    refine .inl ?_
    unfold Oper.wp
    have h3 : (execOp a.eval ⟨some d, .call { callee := .builtin .copy, args := #[x, y], argTypes := tys }, ty, pos, af, g⟩).run P w = .ok (.value (.int .i64 0)) w := by
      have h4 := hr.run w hw
      cases hc : cutA ao cap k size <;> simp [execOp, resolve, ha.ev hx, hc, ha.ev hy, invoke, builtin, Builtin.copy_, ht, run_underlying hT, Builtin.lenOf, run_sizeOf he w, h4, goInt, hm, storeCells]
    rw [h3]
    exact h2 _ _ (ha.put (by simpa using hd) _) (by rw [hs.eq]; exact hw)
  · have hmn : m ≤ n - k := by omega
    have hkm : (k + m) * size ≤ n * size := Nat.mul_le_mul_right _ (by omega)
    rw [Nat.add_mul] at hkm
    by_cases hz : size = 0
    · subst hz
      have hvs : vs = [] := by have := hr.len; simp at this; exact this
      subst hvs
      have hxs := hsl.length
      have h2 := h c (by simpa using hsl)
      intro a w ha hw
      unfold wpList
      rw [if_pos (ha.guard (o := ⟨some d, .call { callee := .builtin .copy, args := #[x, y], argTypes := tys }, ty, pos, af, g⟩) hg)]
      refine .inl ?_
      unfold Oper.wp
      have h3 : (execOp a.eval ⟨some d, .call { callee := .builtin .copy, args := #[x, y], argTypes := tys }, ty, pos, af, g⟩).run P w = .ok (.value (.int .i64 m)) w := by
        have h4 := hr.run w hw
        cases hc : cutA ao cap k 0 <;> simp [execOp, resolve, ha.ev hx, hc, ha.ev hy, invoke, builtin, Builtin.copy_, ht, run_underlying hT, Builtin.lenOf, run_sizeOf he w, h4, goInt, hm, storeCells]
      rw [h3]
      exact h2 _ _ (ha.put (by simpa using hd) _) (by rw [hs.eq]; exact hw)
    · have hpos : 0 < m * size := Nat.mul_pos (by omega) (by omega)
      obtain ⟨obj, obj', rfl, e2, e3⟩ := hsl.set' (i := k * size) (by omega) (m * size) (by omega) hr.len
      obtain ⟨e4, _⟩ := hsl.reads (by omega)
      obtain ⟨_, _, hv, hcap⟩ := hsl.view
      injection hv with _ _ hcc
      subst hcc
      have hcut : cutA ao cap k size = some ⟨bOf ao, oOf ao + k * size, none⟩ := by
        rw [e4, cutA_some (by omega)]; simp
      rw [hcut] at hx
      exact ow_copy hg hd ht hT he hx hy hm hr h1 hs e2 (h _ e3)

theorem rep_eq4 {β : Type} {A M C V : List β} {a v c mm : Nat} (hA : A.length = a) (hV : V.length = v) (hC : C.length = c) (hM : M.length = mm) (hv : v ≤ mm) :
    ((A ++ (M ++ C)).take a ++ (V ++ (A ++ (M ++ C)).drop (a + v))).drop (a + mm) = C ∧
    (((A ++ (M ++ C)).take a ++ (V ++ (A ++ (M ++ C)).drop (a + v))).take (a + v) ++ (C ++ ((A ++ (M ++ C)).take a ++ (V ++ (A ++ (M ++ C)).drop (a + v))).drop (a + v + c))).take (a + v + c) = A ++ (V ++ C) := by
  subst hA hV hC hM
  have h1 : (A ++ (M ++ C)).take A.length = A := List.take_left
  have h2 : (A ++ (M ++ C)).drop (A.length + V.length) = M.drop V.length ++ C := by
    rw [List.drop_append, List.drop_eq_nil_of_le (by omega), Nat.add_sub_cancel_left, List.nil_append, List.drop_append_of_le_length hv]
  rw [h1, h2]
  constructor
  · rw [List.drop_append, List.drop_eq_nil_of_le (by omega), Nat.add_sub_cancel_left, List.nil_append, List.drop_append, List.drop_eq_nil_of_le (by omega), List.nil_append]
    have : M.length - V.length = (M.drop V.length).length := by rw [List.length_drop]
    rw [this, List.drop_left]
  · have h3 : (A ++ (V ++ (M.drop V.length ++ C))).take (A.length + V.length) = A ++ V := by
      rw [← List.append_assoc, List.take_append_of_le_length (by simp), List.take_of_length_le (by simp)]
    rw [h3, List.append_assoc, ← List.append_assoc V, ← List.append_assoc A, List.take_append_of_le_length (by simp; omega), List.take_of_length_le (by simp; omega)]
theorem rep_eq5 {β : Type} {A M C V ys : List β} {a v c : Nat} (hA : A.length = a) (hV : V.length = v) (hC : C.length = c) (hM : M.length ≤ v) (hy : ys.length + M.length = v) :
    ((((A ++ (M ++ C)) ++ ys).take (a + v) ++ (C ++ ((A ++ (M ++ C)) ++ ys).drop (a + v + c))).take a ++ (V ++ (((A ++ (M ++ C)) ++ ys).take (a + v) ++ (C ++ ((A ++ (M ++ C)) ++ ys).drop (a + v + c))).drop (a + v))) = A ++ (V ++ C) := by
  subst hA hV hC
  have h1 : ((A ++ (M ++ C)) ++ ys).drop (A.length + V.length + C.length) = [] := List.drop_eq_nil_of_le (by simp only [List.length_append]; omega)
  have h2 : (((A ++ (M ++ C)) ++ ys).take (A.length + V.length)).length = A.length + V.length := by simp only [List.length_append, List.length_take]; omega
  rw [h1, List.append_nil, List.drop_append, List.drop_eq_nil_of_le (by omega), h2, Nat.sub_self, List.drop_zero, List.nil_append, List.take_append_of_le_length (by omega), List.take_take, Nat.min_eq_left (by omega), List.append_assoc, List.take_left]

end Go.Sl
