/- What the two sides of ids keep, as the one gives, the other one adds, switches, and its numbers are retired: plain facts on models. Conditions: none. -/
import Derived.Test.YtfilpenkihdjiaaIdsLaw
namespace Go.Proofs.Ytfilpenkihdjiaa
open Go Go.Sl Go.Proofs
set_option linter.unusedVariables false
set_option linter.unusedSimpArgs false

theorem erase_at {l : List Entry} (h : l.Pairwise fun x y => x.seq < y.seq) {k : Nat} (hk : k < l.length) : l.filter (fun e => decide (e.seq ≠ l[k].seq)) = l.take k ++ l.drop (k + 1) := by
  have h1 := List.pairwise_iff_getElem.1 h
  have h2 : l = l.take k ++ (l[k] :: l.drop (k + 1)) := by rw [List.getElem_cons_drop, List.take_append_drop]
  conv => lhs; arg 2; rw [h2]
  rw [List.filter_append, List.filter_cons]
  have a1 : (l.take k).filter (fun e => decide (e.seq ≠ l[k].seq)) = l.take k := List.filter_eq_self.2 fun e he => by
    obtain ⟨j, hj, rfl⟩ := List.mem_iff_getElem.1 he
    simp at hj
    have := h1 j k (by omega) hk (by omega)
    rw [List.getElem_take]
    simp
    omega
  have a2 : (l.drop (k + 1)).filter (fun e => decide (e.seq ≠ l[k].seq)) = l.drop (k + 1) := List.filter_eq_self.2 fun e he => by
    obtain ⟨j, hj, rfl⟩ := List.mem_iff_getElem.1 he
    simp at hj
    have := h1 k (k + 1 + j) hk (by omega) (by omega)
    rw [List.getElem_drop]
    simp
    omega
  rw [a1, a2, if_neg (by simp)]

theorem idx_no {l : List Entry} {n : Int} (h : ∀ e ∈ l, e.seq ≠ n) : idxF (fun e : Entry => decide (e.seq = n)) l = -1 := idxF_none fun j hj => by
  have := h _ (List.getElem_mem hj)
  simpa using this
theorem idx_yes {l : List Entry} {e : Entry} {n : Int} (he : e ∈ l) (hn : e.seq = n) : 0 ≤ idxF (fun e : Entry => decide (e.seq = n)) l := by
  have h := idxF_any (p := fun e : Entry => decide (e.seq = n)) (l := l)
  rw [show (l.any fun e : Entry => decide (e.seq = n)) = true from List.any_eq_true.2 ⟨e, he, by simpa using hn⟩] at h
  exact of_decide_eq_true h

theorem keep0_all {l : List Entry} (h : ∀ e ∈ l, 0 ≤ e.seq) : keep0 0 l = l := List.filter_eq_self.2 fun e he => by
  have := h e he
  simp
  omega
theorem ret0_all {l : List Entry} {r : List Int} (h : ∀ e ∈ l, 0 ≤ e.seq) : ret0 0 l r = r := by
  have : (l.filter fun x => decide (x.seq < 0)) = [] := List.filter_eq_nil_iff.2 fun e he => by
    have := h e he
    simp
    omega
  rw [ret0, this]
  rfl
theorem insE_end {l : List Entry} {e : Entry} (h : ∀ x ∈ l, x.seq < e.seq) : insE e l = l ++ [e] := by
  rw [insE_at (j := l.length) (Nat.le_refl _) (fun i hi _ => h _ (List.getElem_mem hi)) (fun hh => absurd hh (by omega))]
  simp
theorem nowF_in {l : List Entry} {e : Entry} {n : Int} (he : e ∈ l) (hn : e.seq = n) : nowF n l = n := by
  have := idx_yes he hn
  rw [nowF, if_neg (fun h => by have := h.1; omega)]

theorem addNew {o : OtherM} {e : Entry} (hm : o.most = 4) (hp : o.prior = 0) (hs : 1 ≤ (e.id.size : Int) ∧ (e.id.size : Int) ≤ 20) (h0 : ∀ x ∈ o.l, 0 ≤ x.seq) (he0 : 0 ≤ e.seq) (hlt : ∀ x ∈ o.l, x.seq < e.seq) (hid : ∀ x ∈ o.l, x.id ≠ e.id) (hnow : ∃ x ∈ o.l, x.seq = o.now) (hlen : o.l.length ≤ 3) (hr : o.retired.length ≤ 8) :
    o.add e 0 = (⟨o.most, o.l ++ [e], o.now, o.prior, o.retired⟩, 0) := by
  obtain ⟨x, hx, hxn⟩ := hnow
  have hc : o.l.any (clashP e) = false := List.any_eq_false.2 fun y hy => by
    have h1 := hlt y hy
    have h2 := hid y hy
    have h3 : ¬ y.seq = e.seq := by omega
    simp [clashP, h2, h3]
  have hi : idxF (fun x : Entry => decide (x.seq = e.seq)) o.l = -1 := idx_no fun y hy => by have := hlt y hy; omega
  have hk : keptF e (max o.prior 0) (keep0 0 o.l) = o.l ++ [e] := by
    rw [keep0_all h0, keptF, hi, if_neg (by decide), if_neg (by rw [hp]; omega), insE_end hlt]
  have hrr : retF e (max o.prior 0) (keep0 0 o.l) (ret0 0 o.l o.retired) = o.retired := by
    rw [keep0_all h0, ret0_all h0, retF, hi, if_neg (by decide), if_neg (by rw [hp]; omega)]
  rw [OtherM.add, if_neg (by omega), if_neg (by rw [hc]; decide), hk, hrr, if_neg (by rw [hm]; simp; omega), nowF_in (List.mem_append_left _ hx) hxn, hp]
  rfl
theorem addOld {o : OtherM} {e : Entry} (hm : o.most = 4) (hp : o.prior = 0) (hs : 1 ≤ (e.id.size : Int) ∧ (e.id.size : Int) ≤ 20) (h0 : ∀ x ∈ o.l, 0 ≤ x.seq) (he : e ∈ o.l) (hun : ∀ x ∈ o.l, x.seq = e.seq ∨ x.id = e.id → x = e) (hnow : ∃ x ∈ o.l, x.seq = o.now) (hlen : o.l.length ≤ 4) (hr : o.retired.length ≤ 8) :
    o.add e 0 = (o, 0) := by
  obtain ⟨x, hx, hxn⟩ := hnow
  have he0 := h0 e he
  have hc : o.l.any (clashP e) = false := List.any_eq_false.2 fun y hy => by
    by_cases hq : y.seq = e.seq ∨ y.id = e.id
    · have := hun y hy hq
      simp [clashP, this]
    · have h1 : ¬ y.seq = e.seq := fun h => hq (.inl h)
      have h2 : ¬ y.id = e.id := fun h => hq (.inr h)
      simp [clashP, h1, h2]
  have hi := idx_yes he rfl
  have hk : keptF e (max o.prior 0) (keep0 0 o.l) = o.l := by
    rw [keep0_all h0, keptF, if_pos hi]
  have hrr : retF e (max o.prior 0) (keep0 0 o.l) (ret0 0 o.l o.retired) = o.retired := by
    rw [keep0_all h0, ret0_all h0, retF, if_pos hi]
  rw [OtherM.add, if_neg (by omega), if_neg (by rw [hc]; decide), hk, hrr, if_neg (by rw [hm]; omega), nowF_in hx hxn, hp]
  obtain ⟨a, b, c, d, f⟩ := o
  simp only at hp
  subst hp
  rfl

/-- numbers rise, and are below the next one -/
structure Rise (m : OwnM) : Prop where
  rise : m.l.Pairwise fun x y => x.seq < y.seq
  low : ∀ e ∈ m.l, 0 ≤ e.seq ∧ e.seq < m.next

theorem Rise.uniq {m : OwnM} (h : Rise m) {i j : Nat} (hi : i < m.l.length) (hj : j < m.l.length) (he : m.l[i].seq = m.l[j].seq) : i = j := by
  have h1 := List.pairwise_iff_getElem.1 h.rise
  rcases Nat.lt_trichotomy i j with h2 | h2 | h2
  · have := h1 i j hi hj h2; omega
  · exact h2
  · have := h1 j i hj hi h2; omega
theorem Rise.find {m : OwnM} (h : Rise m) {j : Nat} (hj : j < m.l.length) : findE m.l[j].seq m.l = m.l[j] ∧ hasE m.l[j].seq m.l = true := by
  constructor
  · unfold findE
    rw [List.find?_eq_some_iff_getElem.2 ⟨by simp, j, hj, rfl, fun k hk => by
      have : ¬ m.l[k].seq = m.l[j].seq := fun he => by have := h.uniq (by omega) hj he; omega
      simp [this]⟩]
    rfl
  · exact List.any_eq_true.2 ⟨m.l[j], List.getElem_mem hj, by simp⟩
theorem Rise.give' {m : OwnM} (h : Rise m) (hn : 0 ≤ m.next) {id : ByteArray} {tok : List Int} : Rise ⟨m.most, m.next + 1, m.l ++ [⟨m.next, id, tok⟩]⟩ := by
  refine ⟨List.pairwise_append.2 ⟨h.rise, by simp, fun a ha b hb => ?_⟩, fun e he => ?_⟩
  · simp at hb
    subst hb
    exact (h.low a ha).2
  · rcases List.mem_append.1 he with h1 | h1
    · have := h.low e h1
      dsimp only
      omega
    · simp at h1
      subst h1
      dsimp only
      omega
theorem Rise.cut {m : OwnM} (h : Rise m) (i : Nat) : Rise { m with l := m.l.take i ++ m.l.drop (i + 1) } := by
  have hsub : List.Sublist (m.l.take i ++ m.l.drop (i + 1)) m.l := by
    conv => rhs; rw [← List.take_append_drop i m.l]
    refine List.Sublist.append (List.Sublist.refl _) ?_
    rw [← List.drop_drop]
    exact List.drop_sublist _ _
  exact ⟨h.rise.sublist hsub, fun e he => h.low e (hsub.subset he)⟩


def gB (k : Nat) : ByteArray := str ([103, (k : Int)].map toB)
def firstB : ByteArray := str ([102, 105, 114, 115, 116].map toB)

structure Meet (i : Nat) (a : OwnM) (o : OtherM) : Prop where
  aw : a.WF
  am : a.most = 4
  an : a.next ≤ 1 + i
  ow : o.WF
  om : o.most = 4
  op : o.prior = 0
  rise : Rise a
  sub : o.l = a.l.filter fun e => decide (e.seq ∉ o.retired)
  nd : o.retired.Nodup
  ret : ∀ n ∈ o.retired, ∃ e ∈ a.l, e.seq = n
  now : ∃ e ∈ o.l, e.seq = o.now
  ids : a.l.Pairwise fun x y => x.id ≠ y.id
  form : ∀ e ∈ a.l, e.id = firstB ∨ ∃ k : Nat, k < i ∧ e.id = gB k
  len : o.l.length + o.retired.length = a.l.length

theorem Meet.mem {i : Nat} {a : OwnM} {o : OtherM} (h : Meet i a o) {e : Entry} (he : e ∈ o.l) : e ∈ a.l ∧ e.seq ∉ o.retired := by
  rw [h.sub] at he
  have := List.mem_filter.1 he
  exact ⟨this.1, by simpa using this.2⟩
theorem Meet.uniq {i : Nat} {a : OwnM} {o : OtherM} (h : Meet i a o) {x e : Entry} (hx : x ∈ a.l) (he : e ∈ a.l) (hq : x.seq = e.seq ∨ x.id = e.id) : x = e := by
  obtain ⟨j, hj, rfl⟩ := List.mem_iff_getElem.1 hx
  obtain ⟨k, hk, rfl⟩ := List.mem_iff_getElem.1 he
  have h1 := List.pairwise_iff_getElem.1 h.rise.rise
  have h2 := List.pairwise_iff_getElem.1 h.ids
  rcases Nat.lt_trichotomy j k with h3 | h3 | h3
  · rcases hq with hq | hq
    · have := h1 j k hj hk h3; omega
    · exact absurd hq (h2 j k hj hk h3)
  · subst h3; rfl
  · rcases hq with hq | hq
    · have := h1 k j hk hj h3; omega
    · exact absurd hq.symm (h2 k j hk hj h3)
theorem Meet.later {i : Nat} {a : OwnM} {o : OtherM} (h : Meet i a o) : Meet (i + 1) a o :=
  { h with an := by have := h.an; omega, form := fun e he => (h.form e he).imp id fun ⟨k, hk, hq⟩ => ⟨k, by omega, hq⟩ }
theorem Meet.low {i : Nat} {a : OwnM} {o : OtherM} (h : Meet i a o) {e : Entry} (he : e ∈ o.l) : 0 ≤ e.seq ∧ e.seq < a.next := h.rise.low e (h.mem he).1

theorem gB_inj {i k : Nat} (hi : i < 256) (hk : k < 256) (h : gB i = gB k) : i = k := by
  have h1 : toB (i : Int) = toB (k : Int) := by
    have : ([103, (i : Int)].map toB).toArray = ([103, (k : Int)].map toB).toArray := congrArg ByteArray.data h
    simpa using this
  have h2 := toB_val (n := (i : Int)) (by show 0 ≤ (i : Int) ∧ (i : Int) ≤ 255; omega)
  have h3 := toB_val (n := (k : Int)) (by show 0 ≤ (k : Int) ∧ (k : Int) ≤ 255; omega)
  rw [h1] at h2
  omega
theorem gB_first {i : Nat} : gB i ≠ firstB := fun h => by
  have : (gB i).size = firstB.size := by rw [h]
  revert this
  show ¬ (2 = 5)
  decide

/-- no id of this round is there yet -/
theorem Meet.fresh {i : Nat} {a : OwnM} {o : OtherM} (h : Meet i a o) (hi : i < 80) : ∀ e ∈ a.l, e.id ≠ gB i := fun e he hq => by
  rcases h.form e he with h1 | ⟨k, hk, h1⟩
  · exact gB_first (hq.symm.trans h1)
  · have := gB_inj (by omega) (by omega) (hq.symm.trans h1)
    omega

theorem Meet.give {i : Nat} {a : OwnM} {o : OtherM} {tok : List Int} (h : Meet i a o) (hi : i < 80) (hlt : (a.l.length : Int) < a.most) :
    o.add ⟨a.next, gB i, tok⟩ 0 = (⟨o.most, o.l ++ [⟨a.next, gB i, tok⟩], o.now, o.prior, o.retired⟩, 0) ∧
    (⟨o.most, o.l ++ [⟨a.next, gB i, tok⟩], o.now, o.prior, o.retired⟩ : OtherM).add ⟨a.next, gB i, tok⟩ 0 = (⟨o.most, o.l ++ [⟨a.next, gB i, tok⟩], o.now, o.prior, o.retired⟩, 0) ∧
    Meet (i + 1) ⟨a.most, a.next + 1, a.l ++ [⟨a.next, gB i, tok⟩]⟩ ⟨o.most, o.l ++ [⟨a.next, gB i, tok⟩], o.now, o.prior, o.retired⟩ := by
  have hlen := h.len
  have ham := h.am
  have hs : 1 ≤ ((gB i).size : Int) ∧ ((gB i).size : Int) ≤ 20 := by show 1 ≤ ((2 : Nat) : Int) ∧ ((2 : Nat) : Int) ≤ 20; omega
  have hn0 := h.aw.next
  have hnr : a.next ∉ o.retired := fun hm => by
    obtain ⟨e, he, hq⟩ := h.ret _ hm
    have := (h.rise.low e he).2
    omega
  have hfr := h.fresh hi
  have hM : Meet (i + 1) ⟨a.most, a.next + 1, a.l ++ [⟨a.next, gB i, tok⟩]⟩ ⟨o.most, o.l ++ [⟨a.next, gB i, tok⟩], o.now, o.prior, o.retired⟩ := by
    obtain ⟨x, hx, hxn⟩ := h.now
    refine ⟨⟨h.aw.most, by have := h.an; dsimp only; omega, by simp; omega⟩, h.am, by have := h.an; dsimp only; omega, ⟨h.ow.most, by have := h.om; simp; omega, h.ow.now, h.ow.prior, h.ow.ret⟩, h.om, h.op, h.rise.give' hn0.1, ?_, h.nd, fun n hn => ?_, ⟨x, List.mem_append_left _ hx, hxn⟩, ?_, fun e he => ?_, by simp; omega⟩
    · simp only [List.filter_append]
      rw [h.sub]
      simp [hnr]
    · obtain ⟨e, he, hq⟩ := h.ret n hn
      exact ⟨e, List.mem_append_left _ he, hq⟩
    · refine List.pairwise_append.2 ⟨h.ids, by simp, fun x hx y hy => ?_⟩
      simp at hy
      subst hy
      exact hfr x hx
    · rcases List.mem_append.1 he with h1 | h1
      · exact (h.form e h1).imp id fun ⟨k, hk, hq⟩ => ⟨k, by omega, hq⟩
      · simp at h1
        subst h1
        exact .inr ⟨i, by omega, rfl⟩
  refine ⟨addNew h.om h.op hs (fun x hx => (h.low hx).1) hn0.1 (fun x hx => (h.low hx).2) (fun x hx => hfr x (h.mem hx).1) h.now (by omega) (by have := h.aw.len; omega), ?_, hM⟩
  exact addOld h.om h.op hs (fun x hx => (hM.low hx).1) (by simp) (fun x hx hq => hM.uniq (hM.mem hx).1 (by simp) hq) hM.now (by dsimp only; simp; omega) (by have := h.aw.len; dsimp only; omega)

theorem findE_in {l : List Entry} {n : Int} (h : ∃ e ∈ l, e.seq = n) : findE n l ∈ l ∧ (findE n l).seq = n := by
  obtain ⟨e, he, hn⟩ := h
  unfold findE
  cases hf : l.find? (fun e => decide (e.seq = n)) with
  | none =>
    have := List.find?_eq_none.1 hf e he
    simp [hn] at this
  | some x =>
    have h1 := List.find?_some hf
    exact ⟨List.mem_of_find?_eq_some hf, of_decide_eq_true h1⟩

theorem Meet.switch {i : Nat} {a : OwnM} {o : OtherM} (h : Meet i a o) :
    o.switch.2 = !decide (findE o.switch.1.now o.switch.1.l = findE o.now o.l) ∧ Meet i a o.switch.1 := by
  obtain ⟨x, hx, hxn⟩ := h.now
  have hge := idx_yes hx hxn
  obtain ⟨k, hk, hk2, hp, hno⟩ := idxF_pos (p := fun e : Entry => decide (e.seq = o.now)) (l := o.l) (by omega)
  have hkn : o.l[k].seq = o.now := of_decide_eq_true hp
  have hsub : List.Sublist o.l a.l := by rw [h.sub]; exact List.filter_sublist
  have hrise := h.rise.rise.sublist hsub
  by_cases hl : (k : Int) + 1 = o.l.length
  · rw [show o.switch = (o, false) from by rw [OtherM.switch, if_pos (.inr (by rw [hk]; exact hl))]]
    exact ⟨by simp, h⟩
  have hk3 : k + 1 < o.l.length := by omega
  have hs : o.switch = (⟨o.most, o.l.filter (fun e => decide (e.seq ≠ o.now)), o.l[k + 1].seq, o.prior, o.retired ++ [o.now]⟩, true) := by
    have he := erase_at hrise hk2
    rw [hkn] at he
    have e1 : ((k : Int) + 1).toNat = k + 1 := by omega
    have e2 : (k : Int).toNat = k := by omega
    rw [OtherM.switch, hk, if_neg (fun hh => hh.elim (fun h1 => by omega) hl), e1, e2, getElem!_pos o.l _ hk3, he]
  rw [hs]
  dsimp only
  have hlt := List.pairwise_iff_getElem.1 hrise k (k + 1) hk2 hk3 (by omega)
  have hmem : o.l[k + 1] ∈ o.l.filter (fun e => decide (e.seq ≠ o.now)) := List.mem_filter.2 ⟨List.getElem_mem _, by simp; omega⟩
  have hnew := findE_in (n := o.l[k + 1].seq) ⟨_, hmem, rfl⟩
  have hold := findE_in h.now
  have hne : ¬ findE o.l[k + 1].seq (o.l.filter (fun e => decide (e.seq ≠ o.now))) = findE o.now o.l := fun hh => by
    have h1 := hnew.2
    rw [hh, hold.2] at h1
    omega
  have hlen := h.len
  have hal := h.aw.len
  have ham := h.am
  have hfl : (o.l.filter (fun e => decide (e.seq ≠ o.now))).length = o.l.length - 1 := by
    have he := erase_at hrise hk2
    rw [hkn] at he
    rw [he]
    simp
    omega
  have hnr : o.now ∉ o.retired := by rw [← hxn]; exact (h.mem hx).2
  have hb := h.low (List.getElem_mem hk3)
  have hn2 := h.aw.next
  refine ⟨by rw [decide_eq_false hne]; rfl, ⟨h.aw, h.am, h.an, ⟨h.ow.most, by dsimp only; rw [hfl]; have := h.ow.len; omega, by dsimp only; omega, h.ow.prior, by simp; omega⟩, h.om, h.op, h.rise, ?_, ?_, fun n hn => ?_, ⟨_, hmem, rfl⟩, h.ids, h.form, by dsimp only; rw [hfl]; simp; omega⟩⟩
  · dsimp only
    conv => lhs; rw [h.sub]
    rw [List.filter_filter]
    refine List.filter_congr fun e _ => ?_
    by_cases h1 : e.seq = o.now <;> by_cases h2 : e.seq ∈ o.retired <;> simp [h1, h2]
  · refine List.nodup_append.2 ⟨h.nd, by simp, fun u hu v hv => ?_⟩
    simp at hv
    subst hv
    intro hh
    exact hnr (hh ▸ hu)
  · rcases List.mem_append.1 hn with h1 | h1
    · exact h.ret n h1
    · simp at h1
      exact ⟨x, (h.mem hx).1, by rw [h1]; exact hxn⟩

theorem Meet.retire {i : Nat} {a : OwnM} {o : OtherM} (h : Meet i a o) {n : Int} {r : List Int} (hr : o.retired = n :: r) :
    a.retire n (findE o.now o.l).id.data.toList = (⟨a.most, a.next, a.l.filter fun e => decide (e.seq ≠ n)⟩, 0) ∧
    o.told n = ⟨o.most, o.l, o.now, o.prior, r⟩ ∧
    Meet i ⟨a.most, a.next, a.l.filter fun e => decide (e.seq ≠ n)⟩ ⟨o.most, o.l, o.now, o.prior, r⟩ := by
  obtain ⟨x, hx, hxn⟩ := h.ret n (by rw [hr]; simp)
  have hge := idx_yes hx hxn
  obtain ⟨k, hk, hk2, hp, hno⟩ := idxF_pos (p := fun e : Entry => decide (e.seq = n)) (l := a.l) (by omega)
  have hkn : a.l[k].seq = n := of_decide_eq_true hp
  have he := erase_at h.rise.rise hk2
  rw [hkn] at he
  have hnd := h.nd
  rw [hr] at hnd
  have hnr := (List.nodup_cons.1 hnd).1
  have hnow := findE_in h.now
  have hnm := h.mem hnow.1
  have hid : ¬ a.l[k].id = (findE o.now o.l).id := fun hh => by
    have := h.uniq (List.getElem_mem hk2) hnm.1 (.inr hh)
    have h2 := hnm.2
    rw [← this, hkn, hr] at h2
    simp at h2
  have hlow := h.rise.low _ hx
  have e2 : (k : Int).toNat = k := by omega
  have hfl : (a.l.filter fun e => decide (e.seq ≠ n)).length = a.l.length - 1 := by
    rw [he]
    simp
    omega
  have hlen := h.len
  rw [hr] at hlen
  simp at hlen
  have hwr := h.ow.ret
  rw [hr] at hwr
  simp at hwr
  refine ⟨?_, ?_, ⟨⟨h.aw.most, h.aw.next, by dsimp only; rw [hfl]; have := h.aw.len; omega⟩, h.am, h.an, ⟨h.ow.most, h.ow.len, h.ow.now, h.ow.prior, by dsimp only; omega⟩, h.om, h.op, ?_, ?_, (List.nodup_cons.1 hnd).2, fun m hm => ?_, h.now, h.ids.sublist List.filter_sublist, fun e he => h.form e (List.mem_filter.1 he).1, by dsimp only; rw [hfl]; omega⟩⟩
  · rw [OwnM.retire, if_neg (by omega), if_neg (by omega), if_neg ?_, hk, e2, he]
    rw [findE_get (by omega), hk, e2, getElem!_pos a.l _ hk2]
    exact hid
  · rw [OtherM.told, hr]
    congr 1
    rw [List.filter_cons, if_neg (by simp)]
    exact List.filter_eq_self.2 fun m hm => by
      have : ¬ m = n := fun hh => hnr (hh ▸ hm)
      simp [this]
  · have := h.rise.cut k
    rw [← he] at this
    exact this
  · dsimp only
    conv => lhs; rw [h.sub, hr]
    rw [List.filter_filter]
    refine List.filter_congr fun e _ => ?_
    by_cases h1 : e.seq = n <;> by_cases h2 : e.seq ∈ r <;> simp [h1, h2]
  · obtain ⟨e, he2, hen⟩ := h.ret m (by rw [hr]; simp [hm])
    exact ⟨e, List.mem_filter.2 ⟨he2, by
      have : ¬ m = n := fun hh => hnr (hh ▸ hm)
      simp [hen, this]⟩, hen⟩

theorem Meet.same {i : Nat} {a : OwnM} {o : OtherM} (h : Meet i a o) (hr : o.retired = []) : o.l = a.l := by
  rw [h.sub, hr]
  exact List.filter_eq_self.2 fun e _ => by simp
theorem Meet.nowIn {i : Nat} {a : OwnM} {o : OtherM} (h : Meet i a o) : (a.l.any fun e => decide (e.id = str (findE o.now o.l).id.data.toList)) = true := by
  have hnow := findE_in h.now
  exact List.any_eq_true.2 ⟨_, (h.mem hnow.1).1, decide_eq_true rfl⟩
theorem Meet.find {i : Nat} {a : OwnM} {o : OtherM} (h : Meet i a o) {j : Nat} (hj : j < o.l.length) : findE o.l[j].seq a.l = o.l[j] ∧ hasE o.l[j].seq a.l = true := by
  obtain ⟨k, hk, hq⟩ := List.mem_iff_getElem.1 (h.mem (List.getElem_mem hj)).1
  rw [← hq]
  exact h.rise.find hk
theorem Meet.ok {i : Nat} {a : OwnM} {o : OtherM} (h : Meet i a o) : o.l.length ≤ 4 ∧ a.l.length ≤ 4 ∧ o.retired.length ≤ 4 := by
  have := h.len
  have := h.aw.len
  have := h.am
  omega
/-- at the start -/
def meet0a : OwnM := ⟨min (max 4 1) 4, 1, [firstE firstB]⟩
def meet0o : OtherM := ⟨min (max 4 1) 4, [firstE firstB], 0, 0, []⟩
theorem Meet.start : Meet 0 meet0a meet0o :=
  ⟨⟨by decide, by decide, by decide⟩, by decide, by decide, ⟨by decide, by decide, by decide, by decide, by decide⟩, by decide, by decide, ⟨by simp [meet0a], by simp [meet0a, firstE]⟩, by simp [meet0a, meet0o], by simp [meet0o], by simp [meet0o], ⟨_, List.mem_singleton.2 rfl, rfl⟩, by simp [meet0a], by simp [meet0a, firstE], by decide⟩
theorem Meet.giveYes {i : Nat} {a : OwnM} {o : OtherM} {tok : List Int} (h : Meet i a o) (hi : i < 80) (hlt : (a.l.length : Int) < a.most) :
    a.give ([103, (i : Int)].map toB) tok = (⟨a.most, a.next + 1, a.l ++ [⟨a.next, gB i, tok⟩]⟩, ⟨a.next, gB i, tok⟩, 0) := by
  have hf : (a.l.any fun e => decide (e.id = gB i)) = false := List.any_eq_false.2 fun e he => by
    have := h.fresh hi e he
    simp [this]
  rw [OwnM.give, if_neg (by simp), if_neg (by omega), if_neg (by rw [show (a.l.any fun e => decide (e.id = str ([103, (i : Int)].map toB))) = false from hf]; decide)]
  rfl
theorem Meet.giveNo {a : OwnM} {i : Nat} {tok : List Int} (hlt : ¬ (a.l.length : Int) < a.most) : a.give ([103, (i : Int)].map toB) tok = (a, noEntry, 11) := by
  rw [OwnM.give, if_neg (by simp), if_pos hlt]
theorem OtherAt.ok {m : OtherM} {b : Nat} {c : Hp} (h : OtherAt m b c) : ∀ e ∈ m.l, enE.ok e := by
  obtain ⟨ao, cap, cl, ao2, cap2, cr, rfl, hL, hR⟩ := h
  exact hL.ok
theorem OwnAt.ok {m : OwnM} {b : Nat} {c : Hp} (h : OwnAt m b c) : ∀ e ∈ m.l, enE.ok e := by
  obtain ⟨ao, cap, cl, rfl, hL⟩ := h
  exact hL.ok
theorem sw_ok {o : OtherM} (h : ∀ e ∈ o.l, enE.ok e) : ∀ e ∈ o.switch.1.l, enE.ok e := by
  unfold OtherM.switch
  split
  · exact h
  · intro e he
    rcases List.mem_append.1 he with h1 | h1
    · exact h e (List.mem_of_mem_take h1)
    · exact h e (List.mem_of_mem_drop h1)
theorem findE_okM {l : List Entry} (h : ∀ e ∈ l, enE.ok e) (n : Int) : enE.ok (findE n l) := by
  unfold findE
  cases hf : l.find? (fun e => decide (e.seq = n)) with
  | none => exact ok_no
  | some e => exact h e (List.mem_of_find?_eq_some hf)
end Go.Proofs.Ytfilpenkihdjiaa
