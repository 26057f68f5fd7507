/- IdsOther: the law's switch is OtherM.switch, its add is OtherM.add, and both keep what the law's Other keeps: plain facts. Conditions: none. -/
import Derived.Test.YtfilpenkihdjiaaIdsOtherAdd
namespace Go.Proofs.Ytfilpenkihdjiaa
open Go Go.Sl Go.Proofs
set_option linter.unusedVariables false
set_option linter.unusedSimpArgs false

theorem Sd.place {n : Nat} {o : OtherM} (h : Sd n o) : ∃ k : Nat, idxF (fun e : Entry => decide (e.seq = o.now)) o.l = k ∧ ∃ hk : k < o.l.length, o.l[k].seq = o.now := by
  obtain ⟨x, hx, hxn⟩ := h.now
  have hge := idx_yes hx hxn
  obtain ⟨k, hk, hk2, hp, _⟩ := idxF_pos (p := fun e : Entry => decide (e.seq = o.now)) (l := o.l) (by omega)
  exact ⟨k, hk, hk2, of_decide_eq_true hp⟩

/-- none is above the present one -/
theorem Sd.switchNo {n : Nat} {o : OtherM} (h : Sd n o) (hno : ∀ j (hj : j < o.l.length), ¬ o.now < o.l[j].seq) : o.switch = (o, false) := by
  obtain ⟨k, hk, hk2, hkn⟩ := h.place
  have hr := List.pairwise_iff_getElem.1 h.rise
  have hl : (k : Int) + 1 = o.l.length := by
    by_cases h3 : k + 1 < o.l.length
    · have := hr k (k + 1) hk2 h3 (by omega)
      exact absurd (by omega) (hno (k + 1) h3)
    · omega
  rw [OtherM.switch, if_pos (.inr (by rw [hk]; exact hl))]

/-- the first above the present one is at i -/
theorem Sd.switchYes {n : Nat} {o : OtherM} (h : Sd n o) {i : Nat} (hi : i < o.l.length) (hgt : o.now < o.l[i].seq) (hno : ∀ j (hj : j < o.l.length), j < i → ¬ o.now < o.l[j].seq) :
    o.switch = (⟨o.most, o.l.filter (fun e => decide (e.seq ≠ o.now)), o.l[i].seq, o.prior, o.retired ++ [o.now]⟩, true) ∧ Sd (n + 1) ⟨o.most, o.l.filter (fun e => decide (e.seq ≠ o.now)), o.l[i].seq, o.prior, o.retired ++ [o.now]⟩ := by
  obtain ⟨k, hk, hk2, hkn⟩ := h.place
  have hr := List.pairwise_iff_getElem.1 h.rise
  have hki : k < i := by
    rcases Nat.lt_trichotomy k i with h1 | h1 | h1
    · exact h1
    · subst h1; omega
    · have := hr i k hi hk2 h1; omega
  have hik : i = k + 1 := by
    by_cases h1 : k + 1 < i
    · have h2 := hr k (k + 1) hk2 (by omega) (by omega)
      exact absurd (by omega) (hno (k + 1) (by omega) h1)
    · omega
  subst hik
  have he := erase_at h.rise hk2
  rw [hkn] at he
  have hret := h.ret
  have hlen := h.len
  refine ⟨?_, h.most, ?_, h.rise.filter _, fun e he => h.low e (List.mem_filter.1 he).1, ⟨o.l[k + 1], List.mem_filter.2 ⟨List.getElem_mem hi, by simp; omega⟩, rfl⟩, h.prior, by simp; omega, fun e he => h.ok e (List.mem_filter.1 he).1⟩
  · have e1 : ((k : Int) + 1).toNat = k + 1 := by omega
    have e2 : (k : Int).toNat = k := by omega
    rw [OtherM.switch, hk, if_neg (fun hh => hh.elim (fun h1 => by omega) (fun h1 => by omega)), e1, e2, getElem!_pos o.l _ hi, he]
  · have := List.length_filter_le (fun e : Entry => decide (e.seq ≠ o.now)) o.l
    dsimp only
    omega

/-- what an add yields that is taken -/
theorem Sd.add {n : Nat} {o : OtherM} (h : Sd n o) {e : Entry} {p : Int} (he : enE.ok e) (hp : 0 ≤ p ∧ p ≤ 18446744073709551615) (hpe : p ≤ e.seq) (hs : 1 ≤ (e.id.size : Int) ∧ (e.id.size : Int) ≤ 20) (hc : o.l.any (clashP e) = false)
    (hk : ¬ (o.most < ((keep0 p (lawK e (max o.prior p) o.l)).length : Int) ∨ 8 < ((ret0 p (lawK e (max o.prior p) o.l) (lawR e (max o.prior p) o.l o.retired)).length : Int))) :
    o.add e p = (⟨o.most, keep0 p (lawK e (max o.prior p) o.l), nowF o.now (keep0 p (lawK e (max o.prior p) o.l)), max o.prior p, ret0 p (lawK e (max o.prior p) o.l) (lawR e (max o.prior p) o.l o.retired)⟩, 0) := by
  obtain ⟨h1, h2⟩ := addSame (r := o.retired) h.rise h.low hpe hc
  rw [h1, h2] at hk ⊢
  rw [OtherM.add, if_neg (by omega), if_neg (by rw [hc]; decide), if_neg hk]
theorem Sd.addFull {n : Nat} {o : OtherM} (h : Sd n o) {e : Entry} {p : Int} (hpe : p ≤ e.seq) (hs : 1 ≤ (e.id.size : Int) ∧ (e.id.size : Int) ≤ 20) (hc : o.l.any (clashP e) = false)
    (hk : o.most < ((keep0 p (lawK e (max o.prior p) o.l)).length : Int) ∨ 8 < ((ret0 p (lawK e (max o.prior p) o.l) (lawR e (max o.prior p) o.l o.retired)).length : Int)) : o.add e p = (o, 7) := by
  obtain ⟨h1, h2⟩ := addSame (r := o.retired) h.rise h.low hpe hc
  rw [h1, h2] at hk
  rw [OtherM.add, if_neg (by omega), if_neg (by rw [hc]; decide), if_pos hk]
theorem add10 {o : OtherM} {e : Entry} {p : Int} (h : e.seq < p ∨ ¬ (1 ≤ (e.id.size : Int) ∧ (e.id.size : Int) ≤ 20)) : o.add e p = (o, 10) := by rw [OtherM.add, if_pos h]
theorem add12 {o : OtherM} {e : Entry} {p : Int} (h : ¬ (e.seq < p ∨ ¬ (1 ≤ (e.id.size : Int) ∧ (e.id.size : Int) ≤ 20))) (hc : o.l.any (clashP e) = true) : o.add e p = (o, 12) := by rw [OtherM.add, if_neg h, if_pos hc]

theorem nowLaw {now g : Int} {k : List Entry} (hlow : ∀ x ∈ k, g ≤ x.seq) (hin : g ≤ now → ∃ x ∈ k, x.seq = now) : nowF now k = if now < g ∧ 0 < (k.length : Int) then k[0]!.seq else now := by
  by_cases h : now < g
  · have : idxF (fun e : Entry => decide (e.seq = now)) k = -1 := idx_no fun x hx => by have := hlow x hx; omega
    rw [nowF, this]
    by_cases h2 : 0 < (k.length : Int)
    · rw [if_pos ⟨by decide, h2⟩, if_pos ⟨h, h2⟩]
    · rw [if_neg (fun hh => h2 hh.2), if_neg (fun hh => h2 hh.2)]
  · obtain ⟨x, hx, hq⟩ := hin (by omega)
    rw [nowF_in hx hq, if_neg (fun hh => h hh.1)]

theorem Sd.addKeeps {n : Nat} {o : OtherM} (h : Sd n o) {e : Entry} {p : Int} (he : enE.ok e) (hp : 0 ≤ p ∧ p ≤ 18446744073709551615) (hpe : p ≤ e.seq) (hc : o.l.any (clashP e) = false) {r : List Int}
    (hl : ((keep0 p (lawK e (max o.prior p) o.l)).length : Int) ≤ o.most) (hr : r.length ≤ 8) :
    Sd (n + 1) ⟨o.most, keep0 p (lawK e (max o.prior p) o.l), nowF o.now (keep0 p (lawK e (max o.prior p) o.l)), max o.prior p, r⟩ ∧
    nowF o.now (keep0 p (lawK e (max o.prior p) o.l)) = if o.now < max o.prior p ∧ 0 < ((keep0 p (lawK e (max o.prior p) o.l)).length : Int) then (keep0 p (lawK e (max o.prior p) o.l))[0]!.seq else o.now := by
  obtain ⟨w, hw, hwn⟩ := h.now
  have hne : (o.l.any fun x => decide (x = e)) = false → ∀ x ∈ o.l, ¬ x.seq = e.seq := fun hh x hx hs => by
    have h1 := List.any_eq_false.1 hc x hx
    have h2 := List.any_eq_false.1 hh x hx
    have h3 : ¬ x = e := by simpa using h2
    exact h1 (by simp [clashP, h3, hs])
  have hsub : ∀ x ∈ o.l, x ∈ lawK e (max o.prior p) o.l := fun x hx => by
    unfold lawK
    split
    · exact hx
    split
    · exact hx
    exact mem_insE.2 (.inr hx)
  have hmem : ∀ x ∈ lawK e (max o.prior p) o.l, x ∈ o.l ∨ (x = e ∧ max o.prior p ≤ e.seq) := fun x hx => by
    unfold lawK at hx
    split at hx
    · exact .inl hx
    split at hx
    · exact .inl hx
    rcases mem_insE.1 hx with h1 | h1
    · exact .inr ⟨h1, by omega⟩
    · exact .inl h1
  have hrise : (lawK e (max o.prior p) o.l).Pairwise fun x y => x.seq < y.seq := by
    unfold lawK
    split
    · exact h.rise
    · rename_i hh
      split
      · exact h.rise
      · have hn2 := hne (Bool.eq_false_iff.2 hh)
        obtain ⟨a, b, hab, ha, hb⟩ := split_at h.rise e.seq
        have hri := h.rise
        rw [hab] at hri hn2 ⊢
        rw [insE_split ha hb]
        obtain ⟨r1, r2, r3⟩ := List.pairwise_append.1 hri
        refine List.pairwise_append.2 ⟨r1, List.pairwise_append.2 ⟨by simp, r2, fun x hx y hy => ?_⟩, fun x hx y hy => ?_⟩
        · simp at hx
          subst hx
          have := hb y hy
          have := hn2 y (List.mem_append_right _ hy)
          omega
        · rcases List.mem_append.1 hy with h1 | h1
          · simp at h1
            subst h1
            exact ha x hx
          · exact r3 x hx y h1
  have hlow : ∀ x ∈ keep0 p (lawK e (max o.prior p) o.l), max o.prior p ≤ x.seq := fun x hx => by
    obtain ⟨h1, h2⟩ := List.mem_filter.1 hx
    have h3 : p ≤ x.seq := by simp at h2; omega
    rcases hmem x h1 with h4 | ⟨rfl, h4⟩
    · have := h.low x h4
      omega
    · exact h4
  have hin : max o.prior p ≤ o.now → ∃ x ∈ keep0 p (lawK e (max o.prior p) o.l), x.seq = o.now := fun hg => ⟨w, List.mem_filter.2 ⟨hsub w hw, by simp; omega⟩, hwn⟩
  have hnow := nowLaw hlow hin
  have hpos : ∃ x, x ∈ keep0 p (lawK e (max o.prior p) o.l) := by
    cases hh : (o.l.any fun x => decide (x = e)) with
    | true =>
      obtain ⟨x, hx, hxe⟩ := List.any_eq_true.1 hh
      have hxe : x = e := of_decide_eq_true hxe
      exact ⟨x, List.mem_filter.2 ⟨hsub x hx, by subst hxe; simp; omega⟩⟩
    | false =>
      by_cases hg : e.seq < max o.prior p
      · have := h.low w hw
        exact ⟨w, List.mem_filter.2 ⟨hsub w hw, by simp; omega⟩⟩
      · exact ⟨e, List.mem_filter.2 ⟨by rw [lawK, if_neg (by rw [hh]; decide), if_neg hg]; exact mem_insE.2 (.inl rfl), by simp; omega⟩⟩
  refine ⟨⟨h.most, hl, hrise.filter _, hlow, ?_, ?_, by dsimp only; omega, fun x hx => ?_⟩, hnow⟩
  · dsimp only
    rw [hnow]
    obtain ⟨x, hx⟩ := hpos
    have hlen : 0 < (keep0 p (lawK e (max o.prior p) o.l)).length := List.length_pos_of_mem hx
    by_cases hg : o.now < max o.prior p
    · rw [if_pos ⟨hg, by omega⟩, getElem!_pos _ 0 hlen]
      exact ⟨_, List.getElem_mem hlen, rfl⟩
    · rw [if_neg (fun hh => hg hh.1)]
      exact hin (by omega)
  · have := h.prior
    dsimp only
    omega
  · rcases hmem x (List.mem_filter.1 hx).1 with h4 | ⟨rfl, _⟩
    · exact h.ok x h4
    · exact he
end Go.Proofs.Ytfilpenkihdjiaa
