/- Replay, plainly: what an event is, what is known behind events. Conditions: none; no program is spoken of. -/
import Derived.Test.YtckdhelnafjddaaSpanLaw
namespace Go.Proofs.Ytckdhelnafjddaa
open Go Go.Sl Go.Proofs
set_option maxRecDepth 20000
set_option linter.unusedVariables false
set_option linter.unusedSimpArgs false

/-- the first place of an element, or -1 -/
def idxF {α : Type} (p : α → Bool) (l : List α) : Int := match l.findIdx? p with | some i => i | none => -1
theorem idxF_at {α : Type} {p : α → Bool} {l : List α} {i : Nat} (hi : i < l.length) (hp : p l[i] = true) (hno : ∀ j (h : j < l.length), j < i → p l[j] = false) : idxF p l = i := by
  unfold idxF
  rw [List.findIdx?_eq_some_iff_getElem.2 ⟨hi, hp, fun j hj => by simp [hno j (by omega) hj]⟩]
theorem idxF_none {α : Type} {p : α → Bool} {l : List α} (hno : ∀ j (h : j < l.length), p l[j] = false) : idxF p l = -1 := by
  unfold idxF
  rw [List.findIdx?_eq_none_iff.2 fun x hx => by obtain ⟨j, h, rfl⟩ := List.mem_iff_getElem.1 hx; exact hno j h]
theorem idxF_neg {α : Type} {p : α → Bool} {l : List α} (h : idxF p l = -1) : ∀ a ∈ l, p a = false := by
  unfold idxF at h
  cases h1 : l.findIdx? p with
  | some i => rw [h1] at h; have h2 : (i : Int) = -1 := h; omega
  | none => exact List.findIdx?_eq_none_iff.1 h1
theorem idxF_pos {α : Type} {p : α → Bool} {l : List α} (h : ¬ idxF p l = -1) : ∃ i : Nat, idxF p l = i ∧ ∃ hi : i < l.length, p l[i] = true ∧ ∀ j (h : j < l.length), j < i → p l[j] = false := by
  unfold idxF at h ⊢
  cases h1 : l.findIdx? p with
  | none => rw [h1] at h; exact absurd rfl h
  | some i =>
    obtain ⟨h2, h3, h4⟩ := List.findIdx?_eq_some_iff_getElem.1 h1
    exact ⟨i, rfl, h2, h3, fun j h hj => by simpa using h4 j hj⟩
theorem idxF_bd {α : Type} {p : α → Bool} {l : List α} : -1 ≤ idxF p l ∧ idxF p l ≤ (l.length : Int) - 1 := by
  by_cases h : idxF p l = -1
  · omega
  · obtain ⟨i, h1, h2, _⟩ := idxF_pos h
    omega
theorem idxF_any {α : Type} {p : α → Bool} {l : List α} : decide (0 ≤ idxF p l) = l.any p := by
  unfold idxF
  cases h : l.findIdx? p with
  | some i =>
    obtain ⟨h1, h2, _⟩ := List.findIdx?_eq_some_iff_getElem.1 h
    rw [List.any_eq_true.2 ⟨l[i], List.getElem_mem _, h2⟩]
    exact decide_eq_true (by show (0 : Int) ≤ i; omega)
  | none =>
    have h1 := List.findIdx?_eq_none_iff.1 h
    rw [List.any_eq_false.2 fun x hx => by simp [h1 x hx]]
    rfl

def inQ (n : Int) : Prop := 0 ≤ n ∧ n ≤ 18446744073709551615
structure EvM where
  k : Int
  t : Int
  n : List Int
  d : List UInt8
structure EvM.ok (e : EvM) : Prop where
  k : 0 ≤ e.k ∧ e.k ≤ 255
  t : inQ e.t
  n : ∀ x ∈ e.n, inQ x
  ln : e.n.length ≤ 9223372036854775807
  ld : e.d.length ≤ 9223372036854775807
def manyK (k : Nat) : Int := match k with
  | 1 => 1
  | 2 => 5
  | 3 => 3
  | 4 => 2
  | 5 => 3
  | 6 => 1
  | 7 => 2
  | 8 => 8
  | 9 => 5
  | 10 => 7
  | 11 => 1
  | 12 => 1
  | 13 => 1
  | 14 => 1
  | 15 => 1
  | 16 => 2
  | 17 => 2
  | 18 => 3
  | 19 => 0
  | _ => -1
def dataK (k : Int) : Bool := decide (k = 11) || decide (k = 13)
/-- may it be an event? -/
def EvM.chk (e : EvM) : Int :=
  if ¬ (1 ≤ e.k ∧ e.k ≤ 19) then 5 else if 1125899906842624 < e.t then 21 else if (e.n.length : Int) ≠ manyK e.k.toNat then 6 else
  if 20 < e.d.length ∨ (0 < e.d.length ∧ dataK e.k = false) then 4 else if ∀ x ∈ e.n, x ≤ 4611686018427387903 then 0 else 2
def EvM.at (e : EvM) (i : Nat) : Int := e.n.getD i 0

structure PkM where
  num : Int
  size : Int
  el : Bool
  fl : Bool
deriving DecidableEq
structure SpM where
  nx : Int
  sent : List PkM
  came : List Rg
  bl : Int
  dr : Bool
def SpM.zero : SpM := ⟨0, [], [], 0, false⟩
structure StM where
  ph : Int
  s0 : SpM
  s1 : SpM
  s2 : SpM
  mt : List Int
  cr : Int → Option (List Int)
  st : Int → Option (List Int)
  own : Int → Option ByteArray
  oth : Int → Option ByteArray
  us : Int
  pa : Int → Option Int
  tu : Int
  c0 : Int
  c1 : Int
  c2 : Int
  cl : Bool
  cut : Bool
  ev : Int
def StM.zero : StM := ⟨0, SpM.zero, SpM.zero, SpM.zero, [0, 0, 0, 0, 0, 0, 0, 0], fun _ => none, fun _ => none, fun _ => none, fun _ => none, 0, fun _ => none, 0, 0, 0, 0, false, false, 0⟩
def put {α : Type} (f : Int → Option α) (k : Int) (v : Option α) : Int → Option α := fun j => if j = k then v else f j

def SpM.send (x : SpM) (p : PkM) (wrong : Bool) : SpM × Int :=
  if p.num < x.nx ∨ x.dr = true ∨ wrong = true then (x, 10) else ({ x with nx := p.num + 1, sent := if p.fl = true then x.sent ++ [p] else x.sent }, 0)
def addM (l : List Rg) (n : Int) : List Rg := (addL l ⟨n, n + 1⟩).drop ((addL l ⟨n, n + 1⟩).length - 32)
def SpM.recv (x : SpM) (n : Int) : SpM × Int :=
  if n < x.bl ∨ hasR x.came n = true then (x, 18) else
    ({ x with came := addM x.came n, bl := if 32 < (addL x.came ⟨n, n + 1⟩).length then ((addM x.came n).headD ⟨0, 0⟩).a else x.bl }, 0)
def SpM.step (x : SpM) (e : EvM) : SpM × Int := match e.k.toNat with
  | 2 => x.send ⟨e.at 1, e.at 2, decide (e.at 3 = 1), decide (e.at 4 = 1)⟩ (decide (1 < e.at 3) || decide (1 < e.at 4))
  | 3 => x.recv (e.at 1)
  | 6 => ({ x with sent := [], dr := true }, 0)
  | 7 => ({ x with came := cutE x.came ⟨0, e.at 1⟩, bl := max x.bl (e.at 1) }, 0)
  | _ => match x.sent.findIdx? fun p => decide (p.num = e.at 1) with
    | none => (x, 17)
    | some i => ({ x with sent := x.sent.take i ++ x.sent.drop (i + 1) }, 0)
def StM.sp (s : StM) (i : Nat) : SpM := match i with
  | 0 => s.s0
  | 1 => s.s1
  | _ => s.s2
def StM.setSp (s : StM) (i : Nat) (x : SpM) : StM := match i with
  | 0 => { s with s0 := x }
  | 1 => { s with s1 := x }
  | _ => { s with s2 := x }
def ba (l : List UInt8) : ByteArray := ⟨l.toArray⟩
def StM.store (s : StM) (e : EvM) : StM := match e.k.toNat with
  | 1 => { s with ph := e.at 0 }
  | 8 => { s with mt := e.n }
  | 9 => { s with cr := put s.cr (e.at 0) (some [e.at 1, e.at 2, e.at 3, e.at 4]) }
  | 10 => { s with st := put s.st (e.at 0) (some [e.at 1, e.at 2, e.at 3, e.at 4, e.at 5, e.at 6]) }
  | 11 => { s with own := put s.own (e.at 0) (some (ba e.d)) }
  | 12 => { s with own := put s.own (e.at 0) none }
  | 13 => { s with oth := put s.oth (e.at 0) (some (ba e.d)) }
  | 14 => { s with oth := put s.oth (e.at 0) none }
  | 15 => { s with us := e.at 0 }
  | 16 => { s with pa := put s.pa (e.at 0) (some (e.at 1)) }
  | 17 => { s with tu := e.at 1 }
  | 18 => { s with c0 := e.at 0, c1 := e.at 1, c2 := e.at 2, cl := true }
  | 19 => { s with cut := true }
  | _ => s
def StM.step (s : StM) (e : EvM) : StM × Int :=
  if e.chk ≠ 0 then (s, e.chk) else if s.cut = true then (s, 11) else
  if 2 ≤ e.k ∧ e.k ≤ 7 then
    if 3 ≤ e.at 0 then (s, 2) else
    if ((s.sp (e.at 0).toNat).step e).2 ≠ 0 then (s, ((s.sp (e.at 0).toNat).step e).2) else
    ({ s.setSp (e.at 0).toNat ((s.sp (e.at 0).toNat).step e).1 with ev := s.ev + 1 }, 0)
  else ({ s.store e with ev := s.ev + 1 }, 0)

/-! ### What the states keep -/
structure SpM.WF (x : SpM) : Prop where
  nx : inQ x.nx
  bl : inQ x.bl
  sent : ∀ p ∈ x.sent, inQ p.num ∧ inQ p.size
  good : Good x.came
  len : x.came.length ≤ 32
structure StM.WF (s : StM) : Prop where
  ph : inQ s.ph
  s0 : s.s0.WF
  s1 : s.s1.WF
  s2 : s.s2.WF
  mt : s.mt.length = 8 ∧ ∀ x ∈ s.mt, inQ x
  cr : ∀ k v, s.cr k = some v → v.length = 4
  st : ∀ k v, s.st k = some v → v.length = 6
  us : inQ s.us
  tu : inQ s.tu
  c : inQ s.c0 ∧ inQ s.c1 ∧ inQ s.c2
theorem SpM.zero_wf : SpM.zero.WF := ⟨by simp [inQ, SpM.zero], by simp [inQ, SpM.zero], by simp [SpM.zero], Good.nil, by simp [SpM.zero]⟩
theorem StM.zero_wf : StM.zero.WF := by
  have q : inQ 0 := by unfold inQ; omega
  refine ⟨q, SpM.zero_wf, SpM.zero_wf, SpM.zero_wf, ⟨rfl, ?_⟩, (fun k v h => by cases h), (fun k v h => by cases h), q, q, ⟨q, q, q⟩⟩
  intro x hx
  simp [StM.zero] at hx
  subst hx
  exact q
theorem EvM.at_in {e : EvM} (h : e.ok) (i : Nat) : inQ (e.at i) := by
  unfold EvM.at
  by_cases hi : i < e.n.length
  · rw [List.getD_eq_getElem?_getD, List.getElem?_eq_getElem hi]
    exact h.n _ (List.getElem_mem hi)
  · rw [List.getD_eq_getElem?_getD, List.getElem?_eq_none (by omega)]
    unfold inQ
    simp
theorem EvM.chk_ok {e : EvM} (h : e.chk = 0) : (1 ≤ e.k ∧ e.k ≤ 19) ∧ e.t ≤ 1125899906842624 ∧ (e.n.length : Int) = manyK e.k.toNat ∧ e.d.length ≤ 20 ∧ (0 < e.d.length → dataK e.k = true) ∧ ∀ x ∈ e.n, x ≤ 4611686018427387903 := by
  unfold EvM.chk at h
  split at h
  · omega
  rename_i h1
  split at h
  · omega
  rename_i h2
  split at h
  · omega
  rename_i h3
  split at h
  · omega
  rename_i h4
  split at h
  · rename_i h5
    refine ⟨Decidable.not_not.1 h1, by omega, Decidable.not_not.1 h3, by omega, fun hd => ?_, h5⟩
    cases hk : dataK e.k with
    | true => rfl
    | false => exact absurd (.inr ⟨hd, hk⟩) h4
  · omega
theorem EvM.at_le {e : EvM} (h : e.chk = 0) (i : Nat) : e.at i ≤ 4611686018427387903 := by
  obtain ⟨_, _, _, _, _, h6⟩ := EvM.chk_ok h
  unfold EvM.at
  by_cases hi : i < e.n.length
  · rw [List.getD_eq_getElem?_getD, List.getElem?_eq_getElem hi]
    exact h6 _ (List.getElem_mem hi)
  · rw [List.getD_eq_getElem?_getD, List.getElem?_eq_none (by omega)]
    simp
theorem cut0_len {l : List Rg} {n : Int} (hg : Good l) (hn : 0 ≤ n ∧ n ≤ 18446744073709551615) : (cutE l ⟨0, n⟩).length ≤ l.length := by
  unfold cutE
  by_cases h0 : (0 : Int) < n
  · rw [if_pos h0]
    unfold cutL
    have hc := @cutAt_le (fun x => decide ((0 : Int) < x.b)) l
    have hB := hg.drop (cutAt (fun x => decide ((0 : Int) < x.b)) l)
    obtain ⟨h1, h2, _⟩ := cutT (r := ⟨0, n⟩) ⟨by dsimp only; omega, h0, hn.2⟩ hB fun x hx => (hB.1 x hx).1
    have h3 := h1.le
    rw [List.length_drop] at h3
    simp only [List.length_append, List.length_take, List.length_drop]
    omega
  · rw [if_neg h0]
    exact Nat.le_refl _
theorem addM_wf {l : List Rg} {n : Int} (hl : Good l) (hn : 0 ≤ n ∧ n ≤ 4611686018427387903) : Good (addM l n) ∧ (addM l n).length ≤ 32 := by
  have h := add_spec hl (r := ⟨n, n + 1⟩) ⟨hn.1, by dsimp only; omega, by dsimp only; omega⟩
  refine ⟨h.1.drop _, ?_⟩
  unfold addM
  rw [List.length_drop]
  omega
theorem SpM.step_wf {x : SpM} {e : EvM} (h : x.WF) (he : e.ok) (hc : e.chk = 0) : (x.step e).1.WF := by
  have q := fun i => EvM.at_in he i
  have m := fun i => EvM.at_le hc i
  have q1 := q 1
  have m1 := m 1
  unfold inQ at q1
  unfold SpM.step
  split
  · unfold SpM.send
    dsimp only
    split
    · exact h
    · refine ⟨by unfold inQ; dsimp only; omega, h.bl, ?_, h.good, h.len⟩
      dsimp only
      split
      · intro p hp
        rcases List.mem_append.1 hp with hp | hp
        · exact h.sent p hp
        · simp at hp
          subst hp
          exact ⟨q 1, q 2⟩
      · exact h.sent
  · unfold SpM.recv
    split
    · exact h
    · have hw := addM_wf h.good ⟨q1.1, m1⟩
      refine ⟨h.nx, ?_, h.sent, hw.1, hw.2⟩
      dsimp only
      split
      · unfold inQ
        cases hq : addM x.came (e.at 1) with
        | nil => simp
        | cons r l =>
          have := hw.1.1 r (by rw [hq]; simp)
          unfold RgOk at this
          simp only [List.headD_cons]
          omega
      · exact h.bl
  · exact ⟨h.nx, h.bl, by simp, h.good, h.len⟩
  · have hb := h.bl
    unfold inQ at hb
    refine ⟨h.nx, by unfold inQ; dsimp only; omega, h.sent, ?_, ?_⟩
    · dsimp only
      unfold cutE
      split
      · rename_i hr
        exact (cut_spec h.good ⟨Int.le_refl _, hr, by dsimp only; omega⟩).1
      · exact h.good
    · dsimp only
      exact Nat.le_trans (cut0_len h.good ⟨q1.1, q1.2⟩) h.len
  · split
    · exact h
    · refine ⟨h.nx, h.bl, ?_, h.good, h.len⟩
      intro p hp
      rcases List.mem_append.1 hp with hp | hp
      · exact h.sent p (List.mem_of_mem_take hp)
      · exact h.sent p (List.mem_of_mem_drop hp)
theorem SpM.step_none {x : SpM} {e : EvM} (h : (x.step e).2 ≠ 0) : (x.step e).1 = x := by
  unfold SpM.step at h ⊢
  split at h
  · unfold SpM.send at h ⊢
    split
    · rfl
    · rename_i h1
      rw [if_neg h1] at h
      exact absurd rfl h
  · unfold SpM.recv at h ⊢
    split
    · rfl
    · rename_i h1
      rw [if_neg h1] at h
      exact absurd rfl h
  · exact absurd rfl h
  · exact absurd rfl h
  · split at h
    · rfl
    · exact absurd rfl h
theorem put_some {α : Type} {f : Int → Option α} {k j : Int} {v w : α} (h : put f k (some v) j = some w) : w = v ∨ f j = some w := by
  unfold put at h
  split at h
  · exact .inl (Option.some.inj h).symm
  · exact .inr h
theorem StM.sp_wf {s : StM} (h : s.WF) (i : Nat) : (s.sp i).WF := by
  unfold StM.sp
  split
  · exact h.s0
  · exact h.s1
  · exact h.s2
theorem StM.setSp_wf {s : StM} {x : SpM} (h : s.WF) (hx : x.WF) (i : Nat) : (s.setSp i x).WF := by
  unfold StM.setSp
  split
  · exact ⟨h.ph, hx, h.s1, h.s2, h.mt, h.cr, h.st, h.us, h.tu, h.c⟩
  · exact ⟨h.ph, h.s0, hx, h.s2, h.mt, h.cr, h.st, h.us, h.tu, h.c⟩
  · exact ⟨h.ph, h.s0, h.s1, hx, h.mt, h.cr, h.st, h.us, h.tu, h.c⟩
theorem StM.store_wf {s : StM} {e : EvM} (h : s.WF) (he : e.ok) (hc : e.chk = 0) : (s.store e).WF := by
  have q := fun i => EvM.at_in he i
  obtain ⟨hk, _, hn, _, _, _⟩ := EvM.chk_ok hc
  unfold StM.store
  split
  · exact ⟨q 0, h.s0, h.s1, h.s2, h.mt, h.cr, h.st, h.us, h.tu, h.c⟩
  · rename_i h8
    rw [h8] at hn
    exact ⟨h.ph, h.s0, h.s1, h.s2, ⟨by have : (e.n.length : Int) = 8 := hn; dsimp only; omega, he.n⟩, h.cr, h.st, h.us, h.tu, h.c⟩
  · refine ⟨h.ph, h.s0, h.s1, h.s2, h.mt, fun k v hv => ?_, h.st, h.us, h.tu, h.c⟩
    rcases put_some hv with rfl | hv
    · rfl
    · exact h.cr _ _ hv
  · refine ⟨h.ph, h.s0, h.s1, h.s2, h.mt, h.cr, fun k v hv => ?_, h.us, h.tu, h.c⟩
    rcases put_some hv with rfl | hv
    · rfl
    · exact h.st _ _ hv
  · exact ⟨h.ph, h.s0, h.s1, h.s2, h.mt, h.cr, h.st, h.us, h.tu, h.c⟩
  · exact ⟨h.ph, h.s0, h.s1, h.s2, h.mt, h.cr, h.st, h.us, h.tu, h.c⟩
  · exact ⟨h.ph, h.s0, h.s1, h.s2, h.mt, h.cr, h.st, h.us, h.tu, h.c⟩
  · exact ⟨h.ph, h.s0, h.s1, h.s2, h.mt, h.cr, h.st, h.us, h.tu, h.c⟩
  · exact ⟨h.ph, h.s0, h.s1, h.s2, h.mt, h.cr, h.st, q 0, h.tu, h.c⟩
  · exact ⟨h.ph, h.s0, h.s1, h.s2, h.mt, h.cr, h.st, h.us, h.tu, h.c⟩
  · exact ⟨h.ph, h.s0, h.s1, h.s2, h.mt, h.cr, h.st, h.us, q 1, h.c⟩
  · exact ⟨h.ph, h.s0, h.s1, h.s2, h.mt, h.cr, h.st, h.us, h.tu, q 0, q 1, q 2⟩
  · exact ⟨h.ph, h.s0, h.s1, h.s2, h.mt, h.cr, h.st, h.us, h.tu, h.c⟩
  · exact h
theorem StM.ev_wf {s : StM} (h : s.WF) (n : Int) : ({ s with ev := n } : StM).WF := ⟨h.ph, h.s0, h.s1, h.s2, h.mt, h.cr, h.st, h.us, h.tu, h.c⟩
theorem StM.step_wf {s : StM} {e : EvM} (h : s.WF) (he : e.ok) : (s.step e).1.WF := by
  unfold StM.step
  split
  · exact h
  rename_i hc
  have hc := Decidable.not_not.1 hc
  split
  · exact h
  split
  · split
    · exact h
    · split
      · exact h
      · exact StM.ev_wf (StM.setSp_wf h (SpM.step_wf (StM.sp_wf h _) he hc) _) _
  · exact StM.ev_wf (StM.store_wf h he hc) _
theorem StM.step_none {s : StM} {e : EvM} (h : (s.step e).2 ≠ 0) : (s.step e).1 = s := by
  unfold StM.step at h ⊢
  split
  · rfl
  rename_i h1
  rw [if_neg h1] at h
  split
  · rfl
  rename_i h2
  rw [if_neg h2] at h
  split
  · rename_i h3
    rw [if_pos h3] at h
    split
    · rfl
    rename_i h4
    rw [if_neg h4] at h
    split
    · rfl
    · rename_i h5
      rw [if_neg h5] at h
      exact absurd rfl h
  · rename_i h3
    rw [if_neg h3] at h
    exact absurd rfl h
end Go.Proofs.Ytckdhelnafjddaa
