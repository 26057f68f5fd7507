/- A buffer for bytes that are sent, against a list of places: plain facts. Conditions: none. -/
import Derived.Test.YtbpnnkkbaakdjaaOutLaw
namespace Go.Proofs.Ytbpnnkkbaakdjaa
open Go Go.Sl Go.Proofs
set_option maxRecDepth 20000
set_option linter.unusedVariables false
set_option linter.unusedSimpArgs false

/-! ### Places -/
structure Pl where
  c : UInt8
  s : Int
instance : Inhabited Pl := ⟨⟨0, 0⟩⟩
/-- some places are another way -/
def mark (M : List Pl) (a n : Nat) (g : Pl → Pl) : List Pl := M.mapIdx fun k p => if a ≤ k ∧ k < a + n then g p else p
theorem mark_len {M : List Pl} {a n : Nat} {g : Pl → Pl} : (mark M a n g).length = M.length := by simp [mark]
theorem mark_get {M : List Pl} {a n : Nat} {g : Pl → Pl} {k : Nat} (h : k < M.length) : (mark M a n g)[k]'(by rw [mark_len]; exact h) = if a ≤ k ∧ k < a + n then g M[k] else M[k] := by simp [mark]
theorem mark_zero {M : List Pl} {a : Nat} {g : Pl → Pl} : mark M a 0 g = M := by
  refine List.ext_getElem (by rw [mark_len]) fun k h1 h2 => ?_
  rw [mark_get h2, if_neg (by omega)]
theorem mark_step {M : List Pl} {a j : Nat} {g : Pl → Pl} (h : a + j < M.length) : (mark M a j g).set (a + j) (g M[a + j]) = mark M a (j + 1) g := by
  refine List.ext_getElem (by rw [List.length_set, mark_len, mark_len]) fun k h1 h2 => ?_
  have hk : k < M.length := by rw [mark_len] at h2; exact h2
  rw [mark_get hk, List.getElem_set]
  by_cases h3 : a + j = k
  · subst h3
    rw [if_pos rfl, if_pos (by omega)]
  · rw [if_neg h3, mark_get hk]
    by_cases h4 : a ≤ k ∧ k < a + j
    · rw [if_pos h4, if_pos (by omega)]
    · rw [if_neg h4, if_neg (by omega)]
theorem mark_at {M : List Pl} {a j : Nat} {g : Pl → Pl} (h : a + j < M.length) : (mark M a j g)[a + j]'(by rw [mark_len]; exact h) = M[a + j] := by
  rw [mark_get h, if_neg (by omega)]
theorem mark_c {M : List Pl} {a n : Nat} {g : Pl → Pl} (hg : ∀ p, (g p).c = p.c) : (mark M a n g).map Pl.c = M.map Pl.c := by
  refine List.ext_getElem (by simp [mark_len]) fun k h1 h2 => ?_
  have hk : k < M.length := by simpa using h2
  rw [List.getElem_map, List.getElem_map, mark_get hk]
  split
  · exact hg _
  · rfl
def sentPl (p : Pl) : Pl := { p with s := 1 }
def camePl (p : Pl) : Pl := { p with s := 2 }
def lostPl (p : Pl) : Pl := if p.s = 2 then p else { p with s := 0 }

structure Rel (m : BufM) (M : List Pl) (fin said came : Bool) : Prop where
  wf : m.WF
  len : m.base + m.data.length = M.length
  data : m.data = (M.map Pl.c).drop m.base.toNat
  pend : ∀ (n : Nat) (h : n < M.length), InR m.pend n ↔ (M[n]).s = 0
  came_ : ∀ (n : Nat) (h : n < M.length), InR m.came n ↔ (M[n]).s = 2
  ok : ∀ p ∈ M, 0 ≤ p.s ∧ p.s ≤ 2
  fin_ : m.fin = fin
  waits : m.waits = (fin && (!came && !said))
  endCame : m.endCame = came
  early : fin = false → said = false ∧ came = false
variable {m : BufM} {M : List Pl} {fin said came : Bool}
theorem rel0 : Rel buf0 [] false false false := ⟨buf0_wf, rfl, rfl, fun n h => by simp at h, fun n h => by simp at h, fun p h => by simp at h, rfl, rfl, rfl, fun _ => ⟨rfl, rfl⟩⟩
theorem Rel.pend' (h : Rel m M fin said came) (n : Int) : InR m.pend n ↔ ∃ h : 0 ≤ n ∧ n.toNat < M.length, (M[n.toNat]'h.2).s = 0 := by
  have hl := h.len
  constructor
  · intro hi
    have hb := h.wf.ip n hi
    have hn : n.toNat < M.length := by omega
    refine ⟨⟨hb.1, hn⟩, (h.pend n.toNat hn).1 ?_⟩
    rw [Int.toNat_of_nonneg hb.1]
    exact hi
  · rintro ⟨⟨h1, h2⟩, h3⟩
    have := (h.pend n.toNat h2).2 h3
    rw [Int.toNat_of_nonneg h1] at this
    exact this
theorem Rel.finish (h : Rel m M fin said came) : Rel m.finish M true said came := by
  have hw := BufM.finish_wf h.wf
  unfold BufM.finish at hw ⊢
  split
  · rename_i hf
    have hf2 : fin = true := by rw [← h.fin_]; exact hf
    subst hf2
    exact h
  · rename_i hf
    rw [if_neg hf] at hw
    have hf2 : fin = false := by rw [← h.fin_]; simpa using hf
    obtain ⟨e1, e2⟩ := h.early hf2
    subst e1 e2
    exact ⟨hw, h.len, h.data, h.pend, h.came_, h.ok, rfl, rfl, h.endCame, fun h => by cases h⟩
theorem Rel.write (h : Rel m M fin said came) {l : List UInt8} (hl : M.length + l.length ≤ 65536) : Rel (m.write l) (M ++ l.map fun c => ⟨c, 0⟩) fin said came := by
  have hlen := h.len
  have hlow := h.wf.low
  have htop : m.base + m.data.length + l.length ≤ 65536 := by omega
  have hmem := BufM.write_mem h.wf htop
  have hdb : (m.write l).data = m.data ++ l := rfl
  have hbb : (m.write l).base = m.base := rfl
  refine ⟨BufM.write_wf h.wf htop, ?_, ?_, fun n hn => ?_, fun n hn => ?_, fun p hp => ?_, h.fin_, h.waits, h.endCame, h.early⟩
  · rw [hdb, hbb, List.length_append, List.length_append, List.length_map]; omega
  · rw [hdb, hbb, h.data, List.map_append, List.map_map, List.drop_append_of_le_length (by rw [List.length_map]; omega)]
    congr 1
    exact (List.map_id'' (fun _ => rfl) l).symm
  · rw [hmem]
    by_cases h1 : n < M.length
    · rw [List.getElem_append_left h1, h.pend n h1]
      constructor
      · rintro (h2 | h2)
        · exact h2
        · omega
      · exact .inl
    · rw [List.getElem_append_right (by omega), List.getElem_map]
      constructor
      · intro _; rfl
      · intro _
        right
        simp at hn
        omega
  · show InR m.came n ↔ _
    by_cases h1 : n < M.length
    · rw [List.getElem_append_left h1, h.came_ n h1]
    · rw [List.getElem_append_right (by omega), List.getElem_map]
      constructor
      · intro h2
        have := h.wf.ic n h2
        omega
      · intro h2
        simp at h2
  · rcases List.mem_append.1 hp with h1 | h1
    · exact h.ok p h1
    · obtain ⟨c, _, rfl⟩ := List.mem_map.1 h1
      exact ⟨by dsimp only; omega, by dsimp only; omega⟩
/-- a piece of what is pending was sent -/
theorem Rel.sent (h : Rel m M fin said came) {a n : Nat} {f : Bool} (hp : ∀ k : Nat, a ≤ k → k < a + n → InR m.pend k) (hf : f = true → fin = true) : Rel (m.sent a n f) (mark M a n sentPl) fin (said || f) came := by
  have hmem := BufM.sent_mem (at_ := a) (len := n) (fin := f) h.wf (by omega) (by omega)
  refine ⟨BufM.sent_wf h.wf (by omega) (by omega), by rw [mark_len]; exact h.len, by rw [mark_c (g := sentPl) (fun _ => rfl)]; exact h.data, fun k hk => ?_, fun k hk => ?_, fun p hp2 => ?_, h.fin_, ?_, h.endCame, fun h1 => ?_⟩
  · have hk2 : k < M.length := by rw [mark_len] at hk; exact hk
    rw [hmem, h.pend k hk2, mark_get hk2]
    by_cases h1 : a ≤ k ∧ k < a + n
    · rw [if_pos h1]
      constructor
      · rintro ⟨_, h2⟩; omega
      · intro h2; simp [sentPl] at h2
    · rw [if_neg h1]
      constructor
      · exact fun h2 => h2.1
      · intro h2; exact ⟨h2, by omega⟩
  · have hk2 : k < M.length := by rw [mark_len] at hk; exact hk
    show InR m.came k ↔ _
    rw [h.came_ k hk2, mark_get hk2]
    by_cases h1 : a ≤ k ∧ k < a + n
    · rw [if_pos h1]
      have h3 := (h.pend k hk2).1 (hp k h1.1 h1.2)
      constructor
      · intro h2; omega
      · intro h2; simp [sentPl] at h2
    · rw [if_neg h1]
  · obtain ⟨k, hk, rfl⟩ := List.mem_iff_getElem.1 hp2
    have hk2 : k < M.length := by rw [mark_len] at hk; exact hk
    rw [mark_get hk2]
    split
    · simp [sentPl]
    · exact h.ok _ (List.getElem_mem hk2)
  · show (if f = true then false else m.waits) = _
    rw [h.waits]
    cases f with
    | true => rw [if_pos rfl]; simp
    | false => simp
  · obtain ⟨e1, e2⟩ := h.early h1
    refine ⟨?_, e2⟩
    rw [e1]
    cases f with
    | true => have := hf rfl; rw [h1] at this; cases this
    | false => rfl
theorem Rel.gotIt (h : Rel m M fin said came) {a n : Int} {f : Bool} (ha : 0 ≤ a) :
    Rel (m.gotIt a n f) (if m.written a n = true then mark M a.toNat n.toNat camePl else M) fin said (came || (m.written a n && (f && (fin && decide (a + n = M.length))))) := by
  have hlen := h.len
  by_cases hwr : m.written a n = true
  · obtain ⟨h1, h2, h3⟩ := BufM.written_iff.1 hwr
    rw [if_pos hwr, hwr, Bool.true_and]
    have hw := BufM.take_wf h.wf ha h1 h3
    have hst := BufM.take_stop h.wf ha h1 h3
    have hmem := BufM.take_mem h.wf ha h1 h3
    obtain ⟨e1, e2, e3⟩ := BufM.take_fin (m := m) (at_ := a) (size := n)
    have hcn : (a.toNat : Int) = a := Int.toNat_of_nonneg ha
    have hnn : (n.toNat : Int) = n := Int.toNat_of_nonneg h1
    have hdata : (m.take a n).data = (M.map Pl.c).drop (m.take a n).base.toNat := by
      have hlow := h.wf.low
      unfold BufM.take
      split
      · unfold BufM.release
        split
        · exact h.data
        · rename_i hc
          dsimp only at hc ⊢
          rw [h.data, List.drop_drop]
          congr 1
          have : m.base < (firstR (addE m.came ⟨a, a + n⟩) 0).1.b := by
            rcases Int.lt_or_le m.base (firstR (addE m.came ⟨a, a + n⟩) 0).1.b with h4 | h4
            · exact h4
            · exact absurd (.inr (.inr h4)) hc
          omega
      · exact h.data
    have key : Rel (m.take a n) (mark M a.toNat n.toNat camePl) fin said came := by
      refine ⟨hw, by rw [mark_len, hst]; exact hlen, by rw [mark_c (g := camePl) (fun _ => rfl)]; exact hdata, fun k hk => ?_, fun k hk => ?_, fun p hp => ?_, by rw [e1]; exact h.fin_, by rw [e2]; exact h.waits, by rw [e3]; exact h.endCame, h.early⟩
      · have hk2 : k < M.length := by rw [mark_len] at hk; exact hk
        rw [(hmem k).1, h.pend k hk2, mark_get hk2]
        by_cases h4 : a.toNat ≤ k ∧ k < a.toNat + n.toNat
        · rw [if_pos h4]
          constructor
          · rintro ⟨_, h5⟩; omega
          · intro h5; simp [camePl] at h5
        · rw [if_neg h4]
          constructor
          · exact fun h5 => h5.1
          · intro h5; exact ⟨h5, by omega⟩
      · have hk2 : k < M.length := by rw [mark_len] at hk; exact hk
        rw [(hmem k).2, h.came_ k hk2, mark_get hk2]
        by_cases h4 : a.toNat ≤ k ∧ k < a.toNat + n.toNat
        · rw [if_pos h4]
          constructor
          · intro _; rfl
          · intro _; right; omega
        · rw [if_neg h4]
          constructor
          · rintro (h5 | h5)
            · exact h5
            · omega
          · exact .inl
      · obtain ⟨k, hk, rfl⟩ := List.mem_iff_getElem.1 hp
        have hk2 : k < M.length := by rw [mark_len] at hk; exact hk
        rw [mark_get hk2]
        split
        · simp [camePl]
        · exact h.ok _ (List.getElem_mem hk2)
    unfold BufM.gotIt
    rw [if_pos hwr]
    by_cases hc : f = true ∧ (m.take a n).fin = true ∧ a + n = (m.take a n).base + (m.take a n).data.length
    · obtain ⟨c1, c2, c3⟩ := hc
      rw [if_pos ⟨c1, c2, c3⟩]
      have hfin : fin = true := by rw [← h.fin_, ← e1]; exact c2
      have hend : (f && (fin && decide (a + n = (M.length : Int)))) = true := by rw [c1, hfin, decide_eq_true (by omega)]; rfl
      rw [hend, Bool.or_true]
      exact ⟨⟨key.wf.low, key.wf.top, key.wf.gp, key.wf.gc, key.wf.ip, key.wf.ic, key.wf.dis, key.wf.gone, key.wf.max_⟩, key.len, key.data, key.pend, key.came_, key.ok, key.fin_, by rw [hfin]; rfl, rfl, fun h5 => by rw [hfin] at h5; cases h5⟩
    · rw [if_neg hc]
      have hend : (f && (fin && decide (a + n = (M.length : Int)))) = false := by
        rw [Bool.eq_false_iff]
        intro h5
        simp only [Bool.and_eq_true, decide_eq_true_eq] at h5
        exact hc ⟨h5.1, by rw [e1, h.fin_]; exact h5.2.1, by omega⟩
      rw [hend, Bool.or_false]
      exact key
  · rw [if_neg hwr, show m.gotIt a n f = m from if_neg hwr]
    have : m.written a n = false := by simpa using hwr
    rw [this, Bool.false_and, Bool.or_false]
    exact h
theorem Rel.lostIt (h : Rel m M fin said came) {a n : Int} {f : Bool} (ha : 0 ≤ a) :
    Rel (m.lostIt a n f) (if m.written a n = true then mark M a.toNat n.toNat lostPl else M) fin (if (m.written a n && (f && (fin && !came))) = true then false else said) came := by
  have hlen := h.len
  by_cases hwr : m.written a n = true
  · obtain ⟨h1, h2, h3⟩ := BufM.written_iff.1 hwr
    rw [if_pos hwr, hwr, Bool.true_and]
    have hw := BufM.lose_wf h.wf ha h1 h3
    have hmem := BufM.lose_mem h.wf ha h1 h3
    have hlo : m.lose a n = ⟨m.data, m.base, (m.lose a n).pend, m.came, m.fin, m.waits, m.endCame⟩ := by unfold BufM.lose; split <;> rfl
    have key : Rel (m.lose a n) (mark M a.toNat n.toNat lostPl) fin said came := by
      refine ⟨hw, by rw [mark_len, hlo]; exact hlen, ?_, fun k hk => ?_, fun k hk => ?_, fun p hp => ?_, by rw [hlo]; exact h.fin_, by rw [hlo]; exact h.waits, by rw [hlo]; exact h.endCame, h.early⟩
      · rw [mark_c (fun p => by unfold lostPl; split <;> rfl), hlo]; exact h.data
      · have hk2 : k < M.length := by rw [mark_len] at hk; exact hk
        rw [(hmem k).2, h.pend k hk2, h.came_ k hk2, mark_get hk2]
        by_cases h4 : a.toNat ≤ k ∧ k < a.toNat + n.toNat
        · rw [if_pos h4]
          unfold lostPl
          by_cases h5 : (M[k]).s = 2
          · rw [if_pos h5]
            constructor
            · rintro ⟨_, h6⟩; exact absurd h5 h6
            · intro h6; omega
          · rw [if_neg h5]
            constructor
            · intro _; rfl
            · intro _; exact ⟨.inr (by omega), h5⟩
        · rw [if_neg h4]
          constructor
          · rintro ⟨h5 | h5, _⟩
            · exact h5
            · omega
          · intro h5; exact ⟨.inl h5, by omega⟩
      · have hk2 : k < M.length := by rw [mark_len] at hk; exact hk
        rw [hlo]
        show InR m.came k ↔ _
        rw [h.came_ k hk2, mark_get hk2]
        by_cases h4 : a.toNat ≤ k ∧ k < a.toNat + n.toNat
        · rw [if_pos h4]
          unfold lostPl
          by_cases h5 : (M[k]).s = 2
          · rw [if_pos h5]
          · rw [if_neg h5]
            constructor
            · intro h6; exact absurd h6 h5
            · intro h6; simp at h6
        · rw [if_neg h4]
      · obtain ⟨k, hk, rfl⟩ := List.mem_iff_getElem.1 hp
        have hk2 : k < M.length := by rw [mark_len] at hk; exact hk
        have ho := h.ok _ (List.getElem_mem hk2)
        rw [mark_get hk2]
        split
        · unfold lostPl
          split
          · exact ho
          · simp
        · exact ho
    unfold BufM.lostIt
    rw [if_pos hwr]
    by_cases hc : f = true ∧ m.fin = true ∧ m.endCame = false
    · obtain ⟨c1, c2, c3⟩ := hc
      rw [if_pos ⟨c1, c2, c3⟩]
      have hfin : fin = true := by rw [← h.fin_]; exact c2
      have hcm : came = false := by rw [← h.endCame]; exact c3
      rw [if_pos (by rw [c1, hfin, hcm]; rfl)]
      exact ⟨⟨key.wf.low, key.wf.top, key.wf.gp, key.wf.gc, key.wf.ip, key.wf.ic, key.wf.dis, key.wf.gone, key.wf.max_⟩, key.len, key.data, key.pend, key.came_, key.ok, key.fin_, by rw [hfin, hcm]; rfl, key.endCame, fun h5 => by rw [hfin] at h5; cases h5⟩
    · rw [if_neg hc, if_neg (by
        intro h5
        simp only [Bool.and_eq_true, Bool.not_eq_true'] at h5
        exact hc ⟨h5.1, by rw [h.fin_]; exact h5.2.1, by rw [h.endCame]; exact h5.2.2⟩)]
      exact key
  · rw [if_neg hwr, show m.lostIt a n f = m from if_neg hwr]
    have : m.written a n = false := by simpa using hwr
    rw [this, Bool.false_and, if_neg (by decide)]
    exact h

/-! ### Counting -/
theorem count_or {α : Type} {p q : α → Bool} {l : List α} (h : ∀ x ∈ l, ¬ (p x = true ∧ q x = true)) : l.countP (fun x => p x || q x) = l.countP p + l.countP q := by
  induction l with
  | nil => rfl
  | cons x l ih =>
    have h1 := ih fun y hy => h y (List.mem_cons_of_mem _ hy)
    have h2 := h x List.mem_cons_self
    rw [List.countP_cons, List.countP_cons, List.countP_cons, h1]
    cases hp : p x <;> cases hq : q x <;> simp [hp, hq] at h2 ⊢ <;> omega
theorem count_piece {a b : Int} (ha : 0 ≤ a) (hab : a ≤ b) : ∀ {N : Nat}, (((List.range N).countP fun n : Nat => decide (a ≤ (n : Int)) && decide ((n : Int) < b) : Nat) : Int) = min b N - min a N
  | 0 => by simp; omega
  | N + 1 => by
    rw [List.range_succ, List.countP_append, List.countP_singleton]
    have ih := count_piece ha hab (N := N)
    by_cases h : a ≤ (N : Int) ∧ (N : Int) < b
    · rw [if_pos (by simp [h])]
      push_cast
      omega
    · rw [if_neg (by simpa using h)]
      push_cast
      omega
theorem cnt_count {l : List Rg} : ∀ {N : Nat}, Good l → (∀ x ∈ l, 0 ≤ x.a ∧ x.b ≤ N) → cntR l = ((List.range N).countP fun n : Nat => hasR l (n : Int) : Nat) := by
  induction l with
  | nil =>
    intro N _ _
    have : (List.range N).countP (fun n : Nat => hasR [] (n : Int)) = 0 := List.countP_eq_zero.2 fun n _ => by simp [hasR]
    rw [this]
    rfl
  | cons x l ih =>
    intro N hg hb
    obtain ⟨hxo, hxl, hl⟩ := Good.cons.1 hg
    have h1 := ih hl fun y hy => hb y (List.mem_cons_of_mem _ hy)
    have h2 := hb x List.mem_cons_self
    have h3 : (List.range N).countP (fun n : Nat => hasR (x :: l) (n : Int)) = (List.range N).countP (fun n : Nat => decide (x.a ≤ (n : Int)) && decide ((n : Int) < x.b)) + (List.range N).countP (fun n : Nat => hasR l (n : Int)) := by
      rw [← count_or]
      · congr 1
      · rintro n _ ⟨h4, h5⟩
        simp only [Bool.and_eq_true, decide_eq_true_eq] at h4
        obtain ⟨y, hy, h6, h7⟩ := hasR_iff.1 h5
        have := hxl y hy
        omega
    rw [cntR_cons, h3, h1]
    have h4 := count_piece (a := x.a) (b := x.b) h2.1 (by have := hxo.2.1; omega) (N := N)
    push_cast
    rw [h4]
    have := hxo.2.1
    omega
/-- how many places are pending -/
def waitC (M : List Pl) : Nat := M.countP fun p => decide (p.s = 0)
theorem waitC_succ {M : List Pl} {j : Nat} (h : j < M.length) : waitC (M.take (j + 1)) = waitC (M.take j) + if (M[j]).s = 0 then 1 else 0 := by
  unfold waitC
  rw [List.take_succ_eq_append_getElem h, List.countP_append, List.countP_singleton]
  simp
theorem count_idx {α : Type} {p : α → Bool} {q : Nat → Bool} : ∀ {l : List α}, (∀ (i : Nat) (h : i < l.length), q i = p l[i]) → (List.range l.length).countP q = l.countP p := by
  intro l
  induction l generalizing q with
  | nil => intro _; rfl
  | cons x l ih =>
    intro h
    rw [List.length_cons, List.range_succ_eq_map, List.countP_cons, List.countP_cons, List.countP_map]
    have h1 := ih (q := q ∘ Nat.succ) fun i hi => h (i + 1) (by simpa using hi)
    have h0 := h 0 (by simp)
    rw [h1, h0]
    rfl
theorem Rel.count (h : Rel m M fin said came) : cntR m.pend = waitC M := by
  have hl := h.len
  rw [cnt_count (N := M.length) h.wf.gp fun x hx => by
    have := in_bounds h.wf.gp (u := 0) (v := M.length) (fun n hn => by have := h.wf.ip n hn; omega) x hx
    exact this]
  unfold waitC
  rw [count_idx (p := fun p : Pl => decide (p.s = 0)) fun i hi => by
    rw [Bool.eq_iff_iff, hasR_iff, decide_eq_true_eq]
    exact h.pend i hi]
/-- up to where all came -/
theorem Rel.all_ (h : Rel m M fin said came) : ∃ b : Nat, m.base = b ∧ b ≤ M.length ∧ (∀ (i : Nat) (h : i < M.length), i < b → (M[i]).s = 2) ∧ (∀ h : b < M.length, (M[b]).s ≠ 2) := by
  have hlow := h.wf.low
  have hl := h.len
  refine ⟨m.base.toNat, by omega, by omega, fun i hi h1 => (h.came_ i hi).1 (h.wf.gone i (by omega) (by omega)), fun h1 h2 => h.wf.max_ ?_⟩
  have := (h.came_ _ h1).2 h2
  rw [Int.toNat_of_nonneg hlow] at this
  exact this
theorem Rel.pendLen (h : Rel m M fin said came) : (0 < m.pend.length) ↔ 0 < waitC M := by
  rw [← Int.natCast_pos (n := waitC M), ← h.count]
  have hg := h.wf.gp
  cases hp : m.pend with
  | nil => simp [cntR]
  | cons x l =>
    rw [hp] at hg
    obtain ⟨hxo, _, hl⟩ := Good.cons.1 hg
    rw [cntR_cons]
    have := (cntR_max hl).1
    have := hxo.2.1
    simp
    omega

/-! ### What is sent next -/
def bytesOf (M : List Pl) (k n : Nat) : List UInt8 := ((M.map Pl.c).take (k + n)).drop k
theorem bytesOf_len {M : List Pl} {k n : Nat} (h : k + n ≤ M.length) : (bytesOf M k n).length = n := by
  unfold bytesOf
  rw [List.length_drop, List.length_take, List.length_map]
  omega
theorem bytesOf_succ {M : List Pl} {k n : Nat} (h : k + n < M.length) : bytesOf M k n ++ [(M[k + n]).c] = bytesOf M k (n + 1) := by
  unfold bytesOf
  have h1 : k + n < (M.map Pl.c).length := by rw [List.length_map]; exact h
  rw [show k + (n + 1) = (k + n) + 1 from rfl, List.take_succ_eq_append_getElem h1, List.drop_append_of_le_length (by rw [List.length_take]; omega), List.getElem_map]
theorem Rel.next_some (h : Rel m M fin said came) {k : Nat} (hk : k < M.length) (hs : (M[k]).s = 0) (hb : ∀ (i : Nat) (h : i < M.length), i < k → (M[i]).s ≠ 0) {most limit : Int} (hm : 0 < most) (hl : (k : Int) < limit) :
    ∃ n : Nat, 0 < n ∧ (n : Int) ≤ most ∧ k + n ≤ M.length ∧ m.next most limit = (⟨k, bytesOf M k n, fin && decide (k + n = M.length)⟩, true) ∧ (∀ i : Nat, k ≤ i → i < k + n → InR m.pend i) ∧
      ∀ j : Nat, j ≤ n → ((k + j < M.length ∧ (∀ h : k + j < M.length, (M[k + j]).s = 0) ∧ ((k + j : Nat) : Int) < limit ∧ (j : Int) < most) ↔ j < n) := by
  have hlen := h.len
  have hlow := h.wf.low
  have hpk := (h.pend k hk).2 hs
  have hbase : m.base ≤ k := by
    rcases Int.lt_or_le (k : Int) m.base with h1 | h1
    · exact absurd (h.wf.gone k (by omega) h1) (h.wf.dis _ hpk)
    · exact h1
  rcases first_low (n := 0) h.wf.gp with ⟨_, h4⟩ | ⟨h3, h4, h5, h6, h7, h8⟩
  · have := h4 _ hpk; omega
  · have ha : (firstR m.pend 0).1.a = k := by
      have h9 := h7 _ hpk (by omega)
      obtain ⟨⟨g1, g2⟩, g3⟩ := (h.pend' _).1 (h6 _ (Int.le_refl _) h5)
      rcases Nat.lt_or_ge (firstR m.pend 0).1.a.toNat k with h10 | h10
      · exact absurd g3 (hb _ g2 h10)
      · omega
    have hbl : (firstR m.pend 0).1.b ≤ M.length := by
      have := h.wf.ip _ (h6 ((firstR m.pend 0).1.b - 1) (by omega) (by omega)); omega
    generalize he : (firstR m.pend 0).1.b = e at *
    obtain ⟨n, hn⟩ : ∃ n : Nat, min (min e limit) (k + most) = k + n := ⟨(min (min e limit) (k + most) - k).toNat, by omega⟩
    refine ⟨n, by omega, by omega, by omega, ?_, fun i h9 h10 => h6 i (by omega) (by omega), fun j hj => ?_⟩
    · rw [BufM.next_some (by omega) (by rw [h3]; rfl) (by rw [ha, he]; omega), ha, he, hn, h.fin_]
      congr 2
      · unfold bytesOf
        rw [h.data, List.drop_take, List.drop_drop, List.drop_take]
        congr 1
        · omega
        · congr 1; omega
      · congr 1
        exact decide_eq_decide.2 (by omega)
    · constructor
      · rintro ⟨g1, g2, g3, g4⟩
        rcases Nat.lt_or_ge j n with h9 | h9
        · exact h9
        · have hje : j = n := by omega
          subst hje
          have : (k + j : Int) = e := by omega
          have h10 := (h.pend (k + j) g1).2 (g2 g1)
          rw [show ((k + j : Nat) : Int) = e from by omega] at h10
          exact absurd h10 h8
      · intro h9
        have h10 : k + j < M.length := by omega
        exact ⟨h10, fun _ => (h.pend (k + j) h10).1 (h6 _ (by omega) (by omega)), by omega, by omega⟩
theorem Rel.next_far (h : Rel m M fin said came) {k : Nat} (hk : k < M.length) (hs : (M[k]).s = 0) (hb : ∀ (i : Nat) (h : i < M.length), i < k → (M[i]).s ≠ 0) {most limit : Int} (hl : most ≤ 0 ∨ limit ≤ (k : Int)) : m.next most limit = (⟨0, [], false⟩, false) := by
  by_cases hm : most ≤ 0
  · exact if_pos hm
  have hpk := (h.pend k hk).2 hs
  rcases first_low (n := 0) h.wf.gp with ⟨_, h4⟩ | ⟨h3, h4, h5, h6, h7, h8⟩
  · have := h4 _ hpk; omega
  · have ha : (firstR m.pend 0).1.a = k := by
      have h9 := h7 _ hpk (by omega)
      obtain ⟨⟨g1, g2⟩, g3⟩ := (h.pend' _).1 (h6 _ (Int.le_refl _) h5)
      rcases Nat.lt_or_ge (firstR m.pend 0).1.a.toNat k with h10 | h10
      · exact absurd g3 (hb _ g2 h10)
      · omega
    rw [BufM.next, if_neg hm, if_neg (by rw [h3]; decide), if_pos (by rw [ha]; omega)]
theorem Rel.next_none (h : Rel m M fin said came) (hb : ∀ (i : Nat) (h : i < M.length), (M[i]).s ≠ 0) {most limit : Int} (hm : 0 < most) : m.next most limit = if (fin && (!came && !said)) = true then (⟨M.length, [], true⟩, true) else (⟨0, [], false⟩, false) := by
  have hf : (firstR m.pend 0).2 = false := by
    rcases first_low (n := 0) h.wf.gp with ⟨h3, _⟩ | ⟨h3, h4, h5, h6, h7, h8⟩
    · exact h3
    · obtain ⟨⟨g1, g2⟩, g3⟩ := (h.pend' _).1 (h6 _ (Int.le_refl _) h5)
      exact absurd g3 (hb _ g2)
  rw [BufM.next, if_neg (by omega), if_pos hf, h.waits, h.len]
end Go.Proofs.Ytbpnnkkbaakdjaa
