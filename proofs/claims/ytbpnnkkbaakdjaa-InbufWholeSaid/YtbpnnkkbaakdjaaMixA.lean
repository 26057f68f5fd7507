/- A region that draws: reads first (all else waits for them), then all orders of what is left. Conditions: none. -/
import Derived.Test.YtbpnnkkbaakdjaaStep
namespace Go.Sl
set_option linter.unusedVariables false
set_option linter.unusedSimpArgs false
open Go.RowKit Go
variable {P : Program} {ops : Array Oper} {md : Region.Mode} {B : Nat} {w0 : World} {Q : Exit → Act → World → Prop} {N : Nat} {G : List Hp} {E : Env} {ty T : TypeId}

/-- the check: the head in its order; what is left waits for what it reads -/
def mixA (md : Region.Mode) (ops : Array Oper) (tl : List Nat) : List Nat → Array Bool → Bool
  | [], listed => (Region.ready md ops listed).all (tl.contains ·)
  | i :: r, listed => (Region.ready md ops listed).contains i && Region.free md ops listed i && !tl.contains i &&
      (match ops[i]? with | some o => (!readsMem o || tl.all (waitsFor md ops · i)) | none => false) && mixA md ops tl r (listed.setIfInBounds i true)
/-- what is listed behind the head -/
def listedA : List Nat → Array Bool → Array Bool
  | [], listed => listed
  | i :: r, listed => listedA r (listed.setIfInBounds i true)

theorem wpM_of_any {tl : List Nat} : ∀ {fuel : Nat} {listed : Array Bool} {a : Act}, (Region.ready md ops listed).all (tl.contains ·) = true → (fuel = 0 → tl = []) → (∀ w, St B w0 G w → wpAny P md ops Q fuel listed a w) → wpM P md ops B w0 [] tl Q fuel listed G a
  | 0, listed, a, hr, h0, h => by
    have ht := h0 rfl
    subst ht
    have hr' : Region.ready md ops listed = [] := by
      cases hq : Region.ready md ops listed with
      | nil => rfl
      | cons x r => rw [hq] at hr; simp at hr
    exact ⟨hr', fun w hw => (h w hw).2⟩
  | fuel + 1, listed, a, hr, h0, h => by
    refine ⟨fun h1 w hw => (h w hw).1 h1, fun i hi => ?_⟩
    have hc : tl.contains i = true := (List.all_eq_true.1 hr) i hi
    rw [if_pos hc]
    exact fun w hw => (h w hw).2 i hi

theorem wpM_of_mixA {tl : List Nat} {Q : Exit → Act → World → Prop} (hs : Region.noSelect ops = true) (hQ : ∀ c a w, ¬ Q (.panic c) a w) :
    ∀ (hd : List Nat) (os : List Oper) (listed : Array Bool) (a : Act), Closed md ops listed → hd.mapM (fun i => ops[i]?) = some os → mixA md ops tl hd listed = true →
      wpHead P ops (St B w0 G) (fun a' => ∀ w, St B w0 G w → wpAny P md ops Q tl.length (listedA hd listed) a' w) os a → wpM P md ops B w0 [] tl Q (hd.length + tl.length) listed G a := by
  intro hd
  induction hd with
  | nil =>
    intro os listed a hcl hos hB h
    simp at hos
    subst hos
    simp only [List.length_nil, Nat.zero_add]
    exact wpM_of_any hB (fun h0 => List.length_eq_zero_iff.1 h0) h
  | cons i r ih =>
    intro os listed a hcl hos hB h
    simp only [List.mapM_cons] at hos
    cases h0 : ops[i]? with
    | none => rw [h0] at hos; simp at hos
    | some o =>
      rw [h0] at hos
      cases h1 : r.mapM (fun i => ops[i]?) with
      | none => rw [h1] at hos; simp at hos
      | some os' =>
        rw [h1] at hos
        simp at hos
        subst hos
        simp only [mixA, Bool.and_eq_true, h0] at hB
        obtain ⟨⟨⟨⟨hr, hf⟩, ht⟩, hm⟩, hB'⟩ := hB
        have hst : hOp P ops (St B w0 G) i (wpHead P ops (St B w0 G) (fun a' => ∀ w, St B w0 G w → wpAny P md ops Q tl.length (listedA (i :: r) listed) a' w) os') a := by unfold hOp; simp only [h0]; exact h
        obtain ⟨v, hy, hK⟩ := yieldsH_of_hOp h0 hst
        have hlen : (i :: r).length + tl.length = (r.length + tl.length) + 1 := by simp; omega
        rw [hlen]
        refine wpM_first h0 (Region.noSelect_spec hs) hQ (by simpa using ht) (by simp) (fun hrm => ?_) (fun _ => by simp) (r.length + tl.length) listed G a hcl (Region.free_spec h0 hf) (by simpa using hr) hy ?_
        · rw [hrm] at hm
          exact waits_spec (by simpa using hm)
        · exact ih os' (listed.setIfInBounds i true) (a.put o.dst v) (hcl.add (by simpa using hr)) h1 hB' hK

/-- the operations of the head that are left -/
def HWA (P : Program) (ops : Array Oper) (Q : Exit → Act → World → Prop) (B : Nat) (w0 : World) (N : Nat) (G : List Hp) (E : Env) (rest : List Oper) (tail : Nat × Array Bool) : Prop :=
  ∀ a, EnvOK N E a → wpHead P ops (St B w0 G) (fun a' => ∀ w, St B w0 G w → wpAny P .any ops (NP Q) tail.1 tail.2 a' w) rest a
theorem cw_mixA {id : Nat} {l : List Oper} (tl hd : List Nat) (LL : Array Bool) {hs : List Oper} (hm : P.follows .mixedOrders = true) (hhs : picks l hd = some hs) (hlen : hd.length + tl.length = l.length)
    (hB : (Region.noSelect l.toArray && mixA .any l.toArray tl hd (Array.replicate l.length false)) = true) (hL : listedA hd (Array.replicate l.length false) = LL) (h : HWA P l.toArray Q B w0 N G E hs (tl.length, LL)) : CW P Q B w0 N G E (.region id l.toArray true) := fun a w ha hw => by
  subst hL
  simp only [Bool.and_eq_true] at hB
  refine wp_mono (Q := NP Q) ?_ (fun e a w hq => by cases e <;> first | exact hq | exact hq.elim)
  refine wp_region_any hm ?_
  have h1 := wpM_of_mixA (md := .any) (Q := NP Q) (tl := tl) hB.1 (fun c a w hq => hq) hd hs (Array.replicate l.length false) a (Closed.start _) (by rw [picks_eq] at hhs; simpa using hhs) hB.2 (h a ha)
  have h2 := wpAny_of_M (w := { w with drawn := w.drawn + 1 }) _ _ _ _ hw.drewEq h1
  rw [hlen] at h2
  simpa using h2
theorem hwa_pure {d : Nat} {op : Op} {pos : String} {af : Array Edge} {g : Option (Nat × Bool)} {rest : List Oper} {tail : Nat × Array Bool} {v : Value} (hg : Env.guard E ops g = some true) (hd : Nat.blt d N = true)
    (hv : OpV P (fun _ => True) N E op ty v) (hc : readsMem ⟨none, op, ty, "", #[], none⟩ = false) (h : HWA P ops Q B w0 N G ((d, v) :: E) rest tail) :
    HWA P ops Q B w0 N G E (⟨some d, op, ty, pos, af, g⟩ :: rest) tail := fun a ha => by
  unfold wpHead
  rw [if_pos (ha.guard (o := ⟨some d, op, ty, pos, af, g⟩) hg)]
  have key : ∀ w, (execOp a.eval ⟨none, op, ty, "", #[], none⟩).run P w = .ok (.value v) w := fun w => by
    have h1 := hv a w ha trivial
    cases hr : (execOp a.eval ⟨none, op, ty, "", #[], none⟩).run P w with
    | halt x w' => rw [hr] at h1; simp [Oper.quietUpon] at h1
    | ok n w' =>
      obtain ⟨u, hu⟩ := pure_value hc hr
      subst hu
      rw [hr] at h1
      simp only [Oper.quietUpon] at h1
      rw [h1.1, h1.2]
  refine ⟨v, ⟨fun w' _ => ?_, fun _ w => key w⟩, h _ (ha.put (by simpa using hd) v)⟩
  have he : execOp a.eval ⟨some d, op, ty, pos, af, g⟩ = execOp a.eval ⟨none, op, ty, "", #[], none⟩ := rfl
  unfold Oper.quietAt
  rw [he, key w']
  exact ⟨rfl, rfl⟩
theorem hwa_read {d : Nat} {op : Op} {pos : String} {af : Array Edge} {g : Option (Nat × Bool)} {rest : List Oper} {tail : Nat × Array Bool} {v : Value} (hg : Env.guard E ops g = some true) (hd : Nat.blt d N = true)
    (hr : readsMem ⟨some d, op, ty, pos, af, g⟩ = true) (hv : OpV P (St B w0 G) N E op ty v) (h : HWA P ops Q B w0 N G ((d, v) :: E) rest tail) :
    HWA P ops Q B w0 N G E (⟨some d, op, ty, pos, af, g⟩ :: rest) tail := fun a ha => by
  unfold wpHead
  rw [if_pos (ha.guard (o := ⟨some d, op, ty, pos, af, g⟩) hg)]
  exact ⟨v, ⟨fun w' hw' => hv.quietAt ha w' hw', fun h0 => by rw [hr] at h0; cases h0⟩, h _ (ha.put (by simpa using hd) v)⟩
theorem hwa_skip {d : Nat} {op : Op} {pos : String} {af : Array Edge} {g : Option (Nat × Bool)} {rest : List Oper} {tail : Nat × Array Bool} (hg : Env.guard E ops g = some false) (hd : Nat.blt d N = true)
    (h : HWA P ops Q B w0 N G ((d, undef) :: E) rest tail) : HWA P ops Q B w0 N G E (⟨some d, op, ty, pos, af, g⟩ :: rest) tail := fun a ha => by
  unfold wpHead
  rw [if_neg (by rw [ha.guard (o := ⟨some d, op, ty, pos, af, g⟩) hg]; simp)]
  exact h _ (ha.put (by simpa using hd) undef)
theorem hwa_nil {fuel : Nat} {listed : Array Bool} (h : AW P .any ops (NP Q) B w0 N G E fuel listed) : HWA P ops Q B w0 N G E [] (fuel, listed) := fun a ha w hw => h a w ha hw
theorem hwa_dec (t : Nat) {rest : List Oper} {tail : Nat × Array Bool} {p : Prop} [Decidable p] (ht : Env.look E t = some (.bool (decide p))) (hx : p → HWA P ops Q B w0 N G ((t, .bool true) :: E) rest tail) (hy : ¬ p → HWA P ops Q B w0 N G ((t, .bool false) :: E) rest tail) : HWA P ops Q B w0 N G E rest tail := by
  intro a ha
  by_cases hp : p
  · exact hx hp a (ha.dup (by rw [ht, decide_eq_true hp]))
  · exact hy hp a (ha.dup (by rw [ht, decide_eq_false hp]))
theorem hwa_bool (t : Nat) {rest : List Oper} {tail : Nat × Array Bool} {b : Bool} (ht : Env.look E t = some (.bool b)) (hx : b = true → HWA P ops Q B w0 N G ((t, .bool true) :: E) rest tail) (hy : b = false → HWA P ops Q B w0 N G ((t, .bool false) :: E) rest tail) : HWA P ops Q B w0 N G E rest tail := by
  intro a ha
  cases b
  · exact hy rfl a (ha.dup ht)
  · exact hx rfl a (ha.dup ht)
end Go.Sl
