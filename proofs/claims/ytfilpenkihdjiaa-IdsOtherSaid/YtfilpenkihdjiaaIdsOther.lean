/- IdsOther: whatever the input it returns true, and the input reads as it did. Conditions: none. -/
import Derived.Test.YtfilpenkihdjiaaIdsAct
import Derived.Test.YtfilpenkihdjiaaStep
namespace Go.Proofs.Ytfilpenkihdjiaa.lawIdsOther
open Go Go.Sl Go.Proofs Go.RowKit Go.ChangeShapes Go.WideShapes Go.ChangeAt Go.Proofs.Ytfilpenkihdjiaa
set_option linter.unusedVariables false
set_option linter.unusedSimpArgs false

theorem wrapU8 (x : Int) : 0 ≤ IntKind.wrap .u8 x ∧ IntKind.wrap .u8 x ≤ 255 := by
  simp [IntKind.wrap, IntKind.signed, IntKind.bits]
  omega
theorem wrapD {k : Int} (h : 0 ≤ k ∧ k ≤ 255) : IntKind.wrap .u8 (k.tdiv 200) = k.tdiv 200 := by
  have h1 : k.tdiv 200 = k / 200 := Int.tdiv_eq_ediv_of_nonneg h.1
  rw [h1]
  simp [IntKind.wrap, IntKind.signed, IntKind.bits]
  omega
theorem tmod12 {k : Int} (h : 0 ≤ k) : 0 ≤ k.tmod 12 ∧ k.tmod 12 ≤ 11 := by
  have := Int.emod_nonneg k (b := 12) (by decide)
  have := Int.emod_lt_of_pos k (b := 12) (by decide)
  rw [Int.tmod_eq_emod_of_nonneg h]
  omega

/-- a deed: what it is in memory -/
structure DeedM where
  kind : Int
  seq : Int
  prior : Int
  id : Int
  any : Entry
  anyP : Int
  raw : Bool
instance : Inhabited DeedM := ⟨⟨0, 0, 0, 0, noEntry, 0, false⟩⟩
def DeedM.cells (a : DeedM) : List Value := .int .u8 a.kind :: .int .u8 a.seq :: .int .u8 a.prior :: .int .u8 a.id :: (a.any.cells ++ [.int .u64 a.anyP, .bool a.raw])
def enD : Enc DeedM := ⟨DeedM.cells, 24, fun a => .agg a.cells.toArray, fun a => (0 ≤ a.kind ∧ a.kind ≤ 255) ∧ (0 ≤ a.seq ∧ a.seq ≤ 255) ∧ (0 ≤ a.prior ∧ a.prior ≤ 255) ∧ (0 ≤ a.id ∧ a.id ≤ 255) ∧ enE.ok a.any ∧ (0 ≤ a.anyP ∧ a.anyP ≤ 18446744073709551615)⟩
theorem dTy : EncTy Try.prog 35 enD := EncTy.agg Ty.ag35 (by decide) (fun _ => rfl) (fun a h => by
  have := len18 a.any h.2.2.2.2.1
  simp [enD, DeedM.cells, this]) (fun a h u hu => by
  simp only [enD, DeedM.cells, List.mem_cons, List.mem_append, List.not_mem_nil, or_false] at hu
  rcases hu with rfl | rfl | rfl | rfl | h1 | rfl | rfl
  · rfl
  · rfl
  · rfl
  · rfl
  · exact one18 a.any h.2.2.2.2.1 u h1
  · rfl
  · rfl)
section
variable {a : DeedM} {T : TypeId}
theorem g_anyE (h : a.any.cells.length = 18) : GetN (.cells a.cells.toArray T (0, 0)) 4 a.any.cells := by
  have := GetN.part (a := [Value.int .u8 a.kind, .int .u8 a.seq, .int .u8 a.prior, .int .u8 a.id]) (vs := a.any.cells) (c := [.int .u64 a.anyP, .bool a.raw]) (e := T) (fr := (0, 0)) (off := 4) rfl
  simpa [DeedM.cells] using this
theorem g_anyP (h : a.any.cells.length = 18) : GetN (.cells a.cells.toArray T (0, 0)) 22 [.int .u64 a.anyP] := by
  have := GetN.part (a := [Value.int .u8 a.kind, .int .u8 a.seq, .int .u8 a.prior, .int .u8 a.id] ++ a.any.cells) (vs := [.int .u64 a.anyP]) (c := [.bool a.raw]) (e := T) (fr := (0, 0)) (off := 22) (by simp [h])
  simpa [DeedM.cells] using this
theorem g_rawD (h : a.any.cells.length = 18) : GetN (.cells a.cells.toArray T (0, 0)) 23 [.bool a.raw] := by
  have := GetN.part (a := [Value.int .u8 a.kind, .int .u8 a.seq, .int .u8 a.prior, .int .u8 a.id] ++ a.any.cells ++ [.int .u64 a.anyP]) (vs := [.bool a.raw]) (c := []) (e := T) (fr := (0, 0)) (off := 23) (by simp [h])
  simpa [DeedM.cells] using this
end

theorem b_two {n : Int} {s : ByteArray} : Build Try.prog 30 #[(0, .int .u64 n), (1, .string s)] (.agg (Entry.cells ⟨n, s, zero16⟩).toArray) := fun w => by kernel_rfl

structure Ox where
  i : Nat
  o : OtherM
  d : Hp
  ao : Option Addr
  cap : Nat
  cl : Hp
  ao2 : Option Addr
  cap2 : Nat
  cr : Hp

structure Inv (x : Ox) (b : Nat) : Prop where
  at_ : OtherAt x.o b x.d
  sd : Sd x.i x.o
  l : Ls enE 30 (.slice x.ao x.o.l.length x.cap) x.cl x.o.l
  r : Ls enU 27 (.slice x.ao2 x.o.retired.length x.cap2) x.cr x.o.retired

theorem sd0 {first : ByteArray} {most : Int} : Sd 0 ⟨min (max most 1) 4, [firstE first], 0, 0, []⟩ :=
  ⟨by dsimp only; omega, by simp; omega, by simp, by simp [firstE], ⟨_, List.mem_singleton.2 rfl, rfl⟩, by simp, by simp, fun e he => by simp at he; subst he; exact ok_first _⟩

theorem findE_succ {l : List Entry} (hr : l.Pairwise fun x y => x.seq < y.seq) {n : Int} {j : Nat} (h : j < l.length) : findE n (l.take (j + 1)) = if l[j].seq = n then l[j] else findE n (l.take j) := by
  have h1 := List.pairwise_iff_getElem.1 hr
  unfold findE
  rw [List.take_succ_eq_append_getElem h, List.find?_append]
  by_cases hp : l[j].seq = n
  · have hn : (l.take j).find? (fun e => decide (e.seq = n)) = none := List.find?_eq_none.2 fun x hx => by
      obtain ⟨k, hk, rfl⟩ := List.mem_iff_getElem.1 hx
      simp at hk
      rw [List.getElem_take]
      have := h1 k j (by omega) h (by omega)
      simp
      omega
    simp [hn, hp]
  · simp [hp]

structure LI (α : Type) where
  j : Nat
  l : List α
  ao : Option Addr
  cap : Nat
  c : Hp
theorem filt_succ {α : Type} {p : α → Bool} {l : List α} {j : Nat} (h : j < l.length) : (l.take (j + 1)).filter p = if p l[j] = true then (l.take j).filter p ++ [l[j]] else (l.take j).filter p := by
  rw [List.take_succ_eq_append_getElem h, List.filter_append]
  by_cases hp : p l[j] = true <;> simp [hp]
/-- the first place at k or behind it whose number is above now -/
def SwAt (now : Int) (l : List Entry) (k : Nat) (a : Int) : Prop :=
  (a = -1 ∧ ∀ j (h : j < l.length), k ≤ j → ¬ now < l[j].seq) ∨ ∃ (i : Nat) (h : i < l.length), a = i ∧ k ≤ i ∧ now < l[i].seq ∧ ∀ j (h : j < l.length), k ≤ j → j < i → ¬ now < l[j].seq
theorem SwAt.yes {now : Int} {l : List Entry} {k : Nat} (hk : k < l.length) (h : now < l[k].seq) : SwAt now l k k := .inr ⟨k, hk, rfl, Nat.le_refl _, h, fun j _ h1 h2 => absurd h1 (by omega)⟩
theorem SwAt.no {now a : Int} {l : List Entry} {k : Nat} (hk : k < l.length) (h : ¬ now < l[k].seq) (hs : SwAt now l (k + 1) a) : SwAt now l k a := by
  rcases hs with ⟨h1, h2⟩ | ⟨i, h1, h2, h3, h4, h5⟩
  · refine .inl ⟨h1, fun j hj hkj => ?_⟩
    by_cases hjk : j = k
    · subst hjk; exact h
    · exact h2 j hj (by omega)
  · refine .inr ⟨i, h1, h2, by omega, h4, fun j hj hkj hji => ?_⟩
    by_cases hjk : j = k
    · subst hjk; exact h
    · exact h5 j hj (by omega) hji

theorem clY1 {x e : Entry} (h1 : x.seq = e.seq) (h2 : ¬ x = e) : clashP e x = true := by rw [clash_law]; simp [h1, h2]
theorem clN1 {x e : Entry} (h2 : ¬ ¬ x = e) : clashP e x = false := by rw [Classical.not_not] at h2; rw [clash_law]; simp [h2]
theorem clY2 {x e : Entry} (h1 : ¬ x.seq = e.seq) (h2 : x.id = e.id) : clashP e x = true := by rw [clash_law]; simp [h1, h2]
theorem clN2 {x e : Entry} (h1 : ¬ x.seq = e.seq) (h2 : ¬ x.id = e.id) : clashP e x = false := by rw [clash_law]; simp [h1, h2]
section
variable {l : List Entry} {e : Entry} {j : Nat} (hj : j < l.length)
include hj
theorem anyC1 (h : clashP e l[j] = true) : (12 : Int) = if ((l.take (j + 1)).any (clashP e)) = true then 12 else 0 := by rw [any_succ hj, h]; simp
theorem anyC0 (h : clashP e l[j] = false) : (if ((l.take j).any (clashP e)) = true then (12 : Int) else 0) = if ((l.take (j + 1)).any (clashP e)) = true then 12 else 0 := by rw [any_succ hj, h]; simp
theorem anyK1 (h : ((l.take j).any fun x => decide (x = e)) = true) : true = (l.take (j + 1)).any fun x => decide (x = e) := by rw [any_succ (p := fun x => decide (x = e)) hj, h]; simp
theorem anyK0 (h : ((l.take j).any fun x => decide (x = e)) = false) : decide (l[j] = e) = (l.take (j + 1)).any fun x => decide (x = e) := by rw [any_succ (p := fun x => decide (x = e)) hj, h]; simp
end
def want0 (l : List Entry) (e : Entry) (p : Int) : Int := if e.seq < p ∨ ¬ (1 ≤ (e.id.size : Int) ∧ (e.id.size : Int) ≤ 20) then 10 else if l.any (clashP e) = true then 12 else 0
/-- the list that the law builds, and whether e is placed -/
def pl (e : Entry) (put0 : Bool) (t : List Entry) : Bool × List Entry := if put0 = true then (true, t) else if (t.any fun y => decide (e.seq < y.seq)) = true then (true, insE e t) else (false, t)
theorem insE_len {e : Entry} {l : List Entry} : (insE e l).length = l.length + 1 := by
  have h := congrArg List.length (List.takeWhile_append_dropWhile (p := fun x : Entry => decide (x.seq < e.seq)) (l := l))
  rw [List.length_append] at h
  rw [insE]
  simp only [List.length_append, List.length_singleton]
  omega
theorem pl_len {e : Entry} {put0 : Bool} {t : List Entry} : (pl e put0 t).2.length ≤ t.length + 1 := by
  unfold pl
  split
  · simp
  split
  · exact Nat.le_of_eq insE_len
  · simp
theorem plY {e : Entry} {put0 : Bool} {l : List Entry} (hne : put0 = false → ∀ x ∈ l, ¬ x.seq = e.seq) {j : Nat} (hj : j < l.length) (h1 : (pl e put0 (l.take j)).1 = false) (h2 : e.seq < l[j].seq) : pl e put0 (l.take (j + 1)) = (true, (pl e put0 (l.take j)).2 ++ [e] ++ [l[j]]) := by
  unfold pl at h1 ⊢
  rw [any_succ (p := fun y => decide (e.seq < y.seq)) hj, List.take_succ_eq_append_getElem hj]
  by_cases hp : put0 = true
  · rw [if_pos hp] at h1; cases h1
  · rw [if_neg hp, if_neg hp] at *
    by_cases ha : ((l.take j).any fun y => decide (e.seq < y.seq)) = true
    · rw [if_pos ha] at h1; cases h1
    · rw [if_neg ha, if_pos (by simp [h2])]
      have ha2 : ∀ x ∈ l.take j, x.seq < e.seq := fun x hx => by
        have h3 := List.any_eq_false.1 (Bool.eq_false_iff.2 ha) x hx
        have h4 := hne (Bool.eq_false_iff.2 hp) x (List.mem_of_mem_take hx)
        simp at h3
        omega
      rw [insE_split ha2 (fun x hx => by simp at hx; subst hx; omega)]
      simp
theorem plN {e : Entry} {put0 : Bool} {l : List Entry} {j : Nat} (hj : j < l.length) (h : (pl e put0 (l.take j)).1 = true ∨ ¬ e.seq < l[j].seq) : pl e put0 (l.take (j + 1)) = ((pl e put0 (l.take j)).1, (pl e put0 (l.take j)).2 ++ [l[j]]) := by
  unfold pl at h ⊢
  rw [any_succ (p := fun y => decide (e.seq < y.seq)) hj, List.take_succ_eq_append_getElem hj]
  by_cases hp : put0 = true
  · rw [if_pos hp, if_pos hp]
  · rw [if_neg hp, if_neg hp] at *
    by_cases ha : ((l.take j).any fun y => decide (e.seq < y.seq)) = true
    · rw [if_pos ha, if_pos (by simp [ha])]
      obtain ⟨y, hy, hyq⟩ := List.any_eq_true.1 ha
      rw [insE_snoc ⟨y, hy, by have := of_decide_eq_true hyq; omega⟩]
    · rw [if_neg ha] at *
      have h2 : ¬ e.seq < l[j].seq := h.resolve_left (by simp)
      rw [if_neg (by simp [ha, h2])]
theorem plEnd {e : Entry} {g : Int} {l : List Entry} {known : Bool} (hk : known = l.any fun x => decide (x = e)) (hc : l.any (clashP e) = false) : (if (pl e (known || decide (e.seq < g)) l).1 = true then (pl e (known || decide (e.seq < g)) l).2 else (pl e (known || decide (e.seq < g)) l).2 ++ [e]) = lawK e g l := by
  subst hk
  unfold lawK
  have hp : pl e true l = (true, l) := rfl
  by_cases h1 : (l.any fun x => decide (x = e)) = true
  · rw [if_pos h1, h1, Bool.true_or, hp]; rfl
  · have h0 : (l.any fun x => decide (x = e)) = false := Bool.eq_false_iff.2 h1
    rw [if_neg h1, h0, Bool.false_or]
    by_cases h2 : e.seq < g
    · rw [if_pos h2, decide_eq_true h2, hp]; rfl
    · rw [if_neg h2, decide_eq_false h2]
      by_cases h3 : (l.any fun y => decide (e.seq < y.seq)) = true
      · rw [show pl e false l = (true, insE e l) from by unfold pl; rw [if_neg (by decide), if_pos h3]]; rfl
      · rw [show pl e false l = (false, l) from by unfold pl; rw [if_neg (by decide), if_neg h3]]
        have h4 : ∀ x ∈ l, x.seq < e.seq := fun x hx => by
          have h5 := List.any_eq_false.1 (Bool.eq_false_iff.2 h3) x hx
          have h6 := List.any_eq_false.1 hc x hx
          have h7 := List.any_eq_false.1 h0 x hx
          have h8 : ¬ x = e := by simpa using h7
          have h9 : ¬ x.seq = e.seq := fun hs => h6 (clY1 hs h8)
          simp at h5
          omega
        have := insE_split (b := []) h4 (by simp)
        simp at this
        rw [this]
        rfl

structure AO where
  w : Int
  kept : List Entry
  ret : List Int
  ao : Option Addr
  cap : Nat
  ck : Hp
  ao2 : Option Addr
  cap2 : Nat
  cr : Hp
structure BO where
  put : Bool
  ret : List Int
  ao2 : Option Addr
  cap2 : Nat
  cr : Hp
structure LP where
  j : Nat
  put : Bool
  l : List Entry
  ao : Option Addr
  cap : Nat
  c : Hp
theorem want0_zero {l : List Entry} {e : Entry} {p : Int} (h : want0 l e p = 0) : ¬ e.seq < p ∧ (1 ≤ (e.id.size : Int) ∧ (e.id.size : Int) ≤ 20) ∧ l.any (clashP e) = false := by
  unfold want0 at h
  by_cases h1 : e.seq < p ∨ ¬ (1 ≤ (e.id.size : Int) ∧ (e.id.size : Int) ≤ 20)
  · rw [if_pos h1] at h; cases h
  · rw [if_neg h1] at h
    by_cases h2 : l.any (clashP e) = true
    · rw [if_pos h2] at h; cases h
    · exact ⟨fun h3 => h1 (.inl h3), Classical.not_not.1 fun h3 => h1 (.inr h3), Bool.eq_false_iff.2 h2⟩
theorem lawAdd {n : Nat} {o : OtherM} {e : Entry} {p w : Int} {kept : List Entry} {ret : List Int} (h : Sd n o) (he : enE.ok e) (hp : 0 ≤ p ∧ p ≤ 18446744073709551615)
    (hw : w = (if want0 o.l e p = 0 then (if o.most < (kept.length : Int) ∨ 8 < (ret.length : Int) then 7 else 0) else want0 o.l e p)) (hkr : want0 o.l e p = 0 → kept = keep0 p (lawK e (max o.prior p) o.l) ∧ ret = ret0 p (lawK e (max o.prior p) o.l) (lawR e (max o.prior p) o.l o.retired)) :
    (w ≠ 0 ∧ o.add e p = (o, w)) ∨ (w = 0 ∧ ∃ now, o.add e p = (⟨o.most, kept, now, max o.prior p, ret⟩, 0) ∧ Sd (n + 1) ⟨o.most, kept, now, max o.prior p, ret⟩ ∧ now = if o.now < max o.prior p ∧ 0 < (kept.length : Int) then kept[0]!.seq else o.now) := by
  by_cases h0 : want0 o.l e p = 0
  · obtain ⟨h1, h2, h3⟩ := want0_zero h0
    obtain ⟨hk, hr⟩ := hkr h0
    rw [if_pos h0] at hw
    by_cases hf : o.most < (kept.length : Int) ∨ 8 < (ret.length : Int)
    · rw [if_pos hf] at hw
      subst hw
      rw [hk, hr] at hf
      exact .inl ⟨by decide, h.addFull (by omega) h2 h3 hf⟩
    · rw [if_neg hf] at hw
      subst hw
      have hf2 := hf
      rw [hk, hr] at hf2
      have ha := h.add he hp (by omega) h2 h3 hf2
      rw [← hk, ← hr] at ha
      have hk2 := h.addKeeps (r := ret) he hp (by omega) h3 (by rw [← hk]; omega) (by omega)
      rw [← hk] at hk2
      exact .inr ⟨rfl, _, ha, hk2.1, hk2.2⟩
  · rw [if_neg h0] at hw
    subst hw
    refine .inl ⟨h0, ?_⟩
    unfold want0 at h0 ⊢
    by_cases h1 : e.seq < p ∨ ¬ (1 ≤ (e.id.size : Int) ∧ (e.id.size : Int) ≤ 20)
    · rw [if_pos h1, add10 h1]
    · rw [if_neg h1] at h0 ⊢
      by_cases h2 : o.l.any (clashP e) = true
      · rw [if_pos h2, add12 h1 h2]
      · rw [if_neg h2] at h0
        exact absurd rfl h0

set_option maxHeartbeats 8000000 in
theorem law {B : Nat} {w0 : World} {first : ByteArray} {most : Int} {acts : List DeedM} {aoA : Option Addr} {capA : Nat} (hm : -9223372036854775808 ≤ most ∧ most ≤ 9223372036854775807) (hl : acts.length ≤ 9223372036854775807) (hA : ∀ G, Vw enD (St B w0 G) (.slice aoA acts.length capA) acts) :
    FnC Try.prog 3 #[.string first, .int .i64 most, .slice aoA acts.length capA] B w0 [] (R0 (.bool true)) := fun F => by
  have hok1 := ok_first first
  refine fn_enter Try.func3 rfl (by kernel_rfl) Try.ntmps3 (by simp) ?_
  refine Go.Sl.cw_seq ?_
  refine Go.Sl.cw_region ?_
  refine Go.Sl.ow_val rfl rfl (Go.Sl.v_assign rfl) ?_
  refine Go.Sl.ow_nil ?_
  refine Go.Sl.xw_then ?_
  refine Go.Sl.cw_seq ?_
  refine Go.Sl.cw_seq ?_
  refine Go.Sl.cw_region ?_
  refine Go.Sl.ow_val rfl rfl (Go.Sl.v_call rfl rfl (awake_c)) ?_
  refine Go.Sl.ow_val rfl rfl (Go.Sl.v_not_true rfl) ?_
  refine Go.Sl.ow_nil ?_
  refine Go.Sl.xw_then ?_
  refine Go.Sl.cw_false rfl ?_
  refine Go.Sl.cw_skip ?_
  refine Go.Sl.xw_then ?_
  refine Go.Sl.cw_seq ?_
  refine Go.Sl.cw_seq ?_
  refine Go.Sl.cw_region ?_
  refine Go.Sl.ow_val rfl rfl (Go.Sl.v_move rfl) ?_
  refine Go.Sl.ow_val rfl rfl (Go.Sl.v_len_str rfl Try.underlying9 rfl) ?_
  refine Go.Sl.ow_val rfl rfl (Go.Sl.v_gtr rfl rfl) ?_
  refine Go.Sl.ow_nil ?_
  refine Go.Sl.xw_then ?_
  refine Go.Sl.cw_dec rfl (fun hc51 => ?_) (fun hc51 => ?_)
  refine Go.Sl.cw_seq ?_
  refine Go.Sl.cw_region ?_
  refine Go.Sl.ow_val rfl rfl (Go.Sl.v_assign rfl) ?_
  refine Go.Sl.ow_nil ?_
  refine Go.Sl.xw_then ?_
  refine Go.Sl.cw_ret ?_
  refine Go.Sl.xw_then_ret ?_
  refine Go.Sl.ret1 rfl (Go.Sl.res_tmp rfl) ?_
  rotate_left
  refine Go.Sl.cw_skip ?_
  refine Go.Sl.xw_then ?_
  refine Go.Sl.cw_seq ?_
  refine Go.Sl.cw_region ?_
  refine Go.Sl.ow_val rfl rfl (Go.Sl.v_move rfl) ?_
  (refine Go.Sl.ow_bytes rfl rfl Try.underlying26 Try.underlying9 Try.underlying5 rfl ?_; intro ao53 cap53 c53 hb53)
  refine Go.Sl.ow_val rfl rfl (Go.Sl.v_move rfl) ?_
  (refine Go.Sl.ow_call rfl rfl rfl rfl (newOther_c (Rd.vw (by assumption) (by repeat (first | exact Go.Sl.Sub.here | assumption | refine Go.Sl.Sub.there ?_)))) ?_; rintro _ _ ⟨x55, rfl, hq55, rfl⟩)
  refine Go.Sl.ow_val rfl rfl (Go.Sl.v_assign rfl) ?_
  refine Go.Sl.ow_nil ?_
  refine Go.Sl.xw_then ?_
  refine Go.Sl.cw_seq ?_
  refine Go.Sl.cw_region ?_
  refine Go.Sl.ow_val rfl rfl (Go.Sl.v_move rfl) ?_
  refine Go.Sl.ow_val rfl rfl (Go.Sl.v_build rfl (b_first)) ?_
  (refine Go.Sl.ow_buildL (es := [(firstE first)]) rfl rfl Try.underlying31 Ty.em31 (eTy) rfl rfl (by simp [*]) (by simp only [List.length_cons, List.length_nil]; decide) ?_; intro ao58 c58 hL58)
  refine Go.Sl.ow_val rfl rfl (Go.Sl.v_assign rfl) ?_
  refine Go.Sl.ow_nil ?_
  refine Go.Sl.xw_then ?_
  refine Go.Sl.cw_seq ?_
  refine Go.Sl.cw_region ?_
  refine Go.Sl.ow_val rfl rfl (Go.Sl.v_assign rfl) ?_
  refine Go.Sl.ow_val rfl rfl (Go.Sl.v_assign rfl) ?_
  refine Go.Sl.ow_nil ?_
  refine Go.Sl.xw_then ?_
  refine Go.Sl.cw_seq ?_
  refine Go.Sl.cw_region ?_
  (refine Go.Sl.ow_alloc rfl rfl Ty.ze32 ?_; intro b11)
  refine Go.Sl.ow_nil ?_
  refine Go.Sl.xw_then ?_
  refine Go.Sl.cw_seq ?_
  refine Go.Sl.cw_region ?_
  refine Go.Sl.ow_val rfl rfl (Go.Sl.v_makeFunc rfl rfl) ?_
  refine Go.Sl.ow_val rfl rfl (Go.Sl.v_assign rfl) ?_
  refine Go.Sl.ow_nil ?_
  refine Go.Sl.xw_then ?_
  refine Go.Sl.cw_seq ?_
  refine Go.Sl.cw_seq ?_
  refine Go.Sl.cw_region ?_
  refine Go.Sl.ow_val rfl rfl (Go.Sl.v_move rfl) ?_
  refine Go.Sl.ow_val rfl rfl (Go.Sl.v_len rfl Try.underlying22 rfl) ?_
  refine Go.Sl.ow_val rfl rfl (Go.Sl.v_move rfl) ?_
  refine Go.Sl.ow_nil ?_
  refine Go.Sl.xw_then ?_
  refine Go.Sl.cw_block ?_
  rotate_left
  · exact done0 rfl (by first | exact Go.Sl.Cov.refl _ | (intro p; simp only [List.flatten_cons, List.flatten_nil, List.flatten_append, List.append_nil, List.nil_append, Go.Sl.cnt_append, Go.Sl.cnt_cons, Go.Sl.cnt_nil, List.set_cons_zero, List.set_cons_succ, List.length_nil, List.length_cons, Nat.zero_add, List.append]; omega))
  have hq0 : OtherAt ⟨min (max most 1) 4, [firstE first], 0, 0, []⟩ x55.1 x55.2 := hq55
  refine Go.Sl.cw_loop2 (ι := (Ox)) [(0, _), (1, _), (2, _), (7, _), (11, _), (12, _), (60, _), (61, _)] ⟨rfl, rfl, rfl, rfl, rfl, rfl, rfl, rfl, trivial⟩ ((fun x => [(8, .slice x.ao x.o.l.length x.cap), (9, .int .u64 x.o.now), (10, .int .u64 x.o.prior), (62, .int .i64 x.i)])) ((fun x => x.i ≤ acts.length ∧ x.i ≤ 60 ∧ x.o.most = min (max most 1) 4 ∧ Inv x x55.1)) ((fun x => acts.length - x.i)) ((fun x => [(b11, .cells [Value.slice x.ao2 x.o.retired.length x.cap2].toArray 32 (0, 0))] :: x.cr :: x.cl :: x.d :: F)) ((⟨0, ⟨min (max most 1) 4, [firstE first], 0, 0, []⟩, x55.2, ao58, 1, c58, none, 0, []⟩ : Ox)) (by repeat (first | exact True.intro | refine And.intro rfl ?_)) (by first | exact Go.Sl.Cov.refl _ | (intro p; simp only [List.flatten_cons, List.flatten_nil, List.flatten_append, List.append_nil, List.nil_append, Go.Sl.cnt_append, Go.Sl.cnt_cons, Go.Sl.cnt_nil, List.set_cons_zero, List.set_cons_succ, List.length_nil, List.length_cons, Nat.zero_add, List.append]; omega)) ?_ ?_
  · exact ⟨Nat.zero_le _, by simp, rfl, hq0, sd0, hL58, Ls.nil⟩
  rintro ⟨i, o, d, ao, cap, cl, ao2, cap2, cr⟩ ⟨hi, hi60, hmo, hI⟩
  dsimp only at hi hi60 hmo hI ⊢
  have hO := hI.at_
  have hsd := hI.sd
  have hL := hI.l
  have hR := hI.r
  dsimp only at hO hsd hL hR
  refine Go.Sl.cw_seq ?_
  refine Go.Sl.cw_region ?_
  refine Go.Sl.ow_val rfl rfl (Go.Sl.v_lss rfl rfl) ?_
  refine Go.Sl.ow_nil ?_
  refine Go.Sl.xw_then ?_
  refine Go.Sl.cw_seq ?_
  refine Go.Sl.cw_dec rfl (fun hc63 => ?_) (fun hc63 => ?_)
  refine Go.Sl.cw_skip ?_
  refine Go.Sl.xw_then ?_
  refine Go.Sl.cw_seq ?_
  refine Go.Sl.cw_block ?_
  refine Go.Sl.cw_seq ?_
  refine Go.Sl.cw_region ?_
  refine Go.Sl.ow_val rfl rfl (Go.Sl.v_move rfl) ?_
  rotate_left
  refine Go.Sl.cw_exit ?_
  refine Go.Sl.xw_then_exit ?_
  refine Go.Sl.xw_round_exit ?_
  refine Go.Sl.xw_block_exit ?_
  refine Go.Sl.xw_then ?_
  refine Go.Sl.cw_seq ?_
  refine Go.Sl.cw_region ?_
  refine Go.Sl.ow_val rfl rfl (Go.Sl.v_assign rfl) ?_
  refine Go.Sl.ow_nil ?_
  refine Go.Sl.xw_then ?_
  refine Go.Sl.cw_ret ?_
  refine Go.Sl.ret1 rfl (Go.Sl.res_tmp rfl) ?_
  rotate_left
  · have hi2 : i < acts.length := by omega
    have hao := (hA []).ok _ (List.getElem_mem hi2)
    have hat := len18 _ hao.2.2.2.2.1
    have ha22 : (acts[i]).cells.length = 24 := dTy.len _ hao
    refine Go.Sl.ow_val rfl rfl (Go.Sl.v_indexAddr_vw Try.underlying22 (dTy) rfl rfl (hA []) rfl (by omega)) ?_
    refine Go.Sl.ow_val rfl rfl (Go.Sl.v_load rfl (Go.Sl.Vw.var (dTy) (hA _) (by omega))) ?_
    (refine Go.Sl.ow_alloc rfl rfl Ty.ze35 ?_; intro b14)
    refine Go.Sl.ow_val rfl rfl (Go.Sl.v_assign rfl) ?_
    refine Go.Sl.ow_storeE rfl (dTy) rfl rfl .here (by first | rfl | assumption) (by assumption) ?_
    refine Go.Sl.ow_nil ?_
    refine Go.Sl.xw_then ?_
    have k1 := tmod12 hao.2.1.1
    have k2 := tmod12 hao.2.2.1.1
    refine Go.Sl.cw_seq ?_
    refine Go.Sl.cw_seq ?_
    refine Go.Sl.cw_region ?_
    refine Go.Sl.ow_val rfl rfl (Go.Sl.v_move rfl) ?_
    refine Go.Sl.ow_val rfl rfl (Go.Sl.v_geq rfl rfl) ?_
    refine Go.Sl.ow_nil ?_
    refine Go.Sl.xw_then ?_
    refine Go.Sl.cw_dec rfl (fun hc68 => ?_) (fun hc68 => ?_)
    refine Go.Sl.cw_exit ?_
    refine Go.Sl.xw_then_exit ?_
    refine Go.Sl.xw_block_other rfl ?_
    refine Go.Sl.xw_then_exit ?_
    refine Go.Sl.xw_round_exit ?_
    refine Go.Sl.xw_block_exit ?_
    refine Go.Sl.xw_then ?_
    refine Go.Sl.cw_seq ?_
    refine Go.Sl.cw_region ?_
    refine Go.Sl.ow_val rfl rfl (Go.Sl.v_assign rfl) ?_
    refine Go.Sl.ow_nil ?_
    refine Go.Sl.xw_then ?_
    refine Go.Sl.cw_ret ?_
    refine Go.Sl.ret1 rfl (Go.Sl.res_tmp rfl) ?_
    rotate_left
    refine Go.Sl.cw_skip ?_
    refine Go.Sl.xw_then ?_
    rotate_left
    · exact done0 rfl (by first | exact Go.Sl.Cov.refl _ | (intro p; simp only [List.flatten_cons, List.flatten_nil, List.flatten_append, List.append_nil, List.nil_append, Go.Sl.cnt_append, Go.Sl.cnt_cons, Go.Sl.cnt_nil, List.set_cons_zero, List.set_cons_succ, List.length_nil, List.length_cons, Nat.zero_add, List.append]; omega))
    have hoke : enE.ok ⟨acts[i].seq.tmod 12, nameB (IntKind.wrap .u8 (acts[i].seq + acts[i].id.tdiv 200)), zero16⟩ := ⟨by dsimp only; omega, by dsimp only; omega, rfl⟩
    refine Go.Sl.cw_cut2 (ι := (Nat)) [(0, _), (1, _), (2, _), (7, _), (8, _), (9, _), (10, _), (11, _), (12, _), (14, _), (60, _), (61, _), (62, _)] ⟨rfl, rfl, rfl, rfl, rfl, rfl, rfl, rfl, rfl, rfl, rfl, rfl, rfl, trivial⟩ ((fun b => [(15, .pointer (some ⟨b, 0, none⟩))])) ((fun _ => True)) ((fun b => [(b, .cells (Entry.cells ⟨acts[i].seq.tmod 12, nameB (IntKind.wrap .u8 (acts[i].seq + acts[i].id.tdiv 200)), zero16⟩).toArray 30 (0, 0))] :: [(b14, .cells (enD.f acts[i]).toArray 35 (0, 0))] :: [(b11, .cells [Value.slice ao2 o.retired.length cap2].toArray 32 (0, 0))] :: cr :: cl :: d :: F)) ?_ ?_
    ·
      refine Go.Sl.cw_mixR [12] [13] [0, 1, 2, 3, 4, 5, 6, 7, 8, 9, 10, 11] Ty.mixed rfl rfl rfl rfl (by decide +kernel) ?_
      refine Go.Sl.hwr_pure rfl rfl (Go.Sl.v_fieldAddr0 Ty.fd35_1 rfl) rfl ?_
      refine Go.Sl.hwr_load rfl rfl rfl rfl (Go.Sl.v_load rfl (Go.Sl.Var.at1 Ty.sc5 .here (Go.Sl.GetN.lit rfl))) ?_
      refine Go.Sl.hwr_pure rfl rfl (Go.Sl.v_rem rfl rfl (by decide)) rfl ?_
      refine Go.Sl.hwr_load rfl rfl rfl rfl (Go.Sl.v_convert Try.underlying5 Try.underlying27 rfl (Go.Sl.nw_u64 (by omega) (by omega))) ?_
      refine Go.Sl.hwr_pure rfl rfl (Go.Sl.v_fieldAddr0 Ty.fd35_1 rfl) rfl ?_
      refine Go.Sl.hwr_load rfl rfl rfl rfl (Go.Sl.v_load rfl (Go.Sl.Var.at1 Ty.sc5 .here (Go.Sl.GetN.lit rfl))) ?_
      refine Go.Sl.hwr_pure rfl rfl (Go.Sl.v_fieldAddr0 Ty.fd35_3 rfl) rfl ?_
      refine Go.Sl.hwr_load rfl rfl rfl rfl (Go.Sl.v_load rfl (Go.Sl.Var.at1 Ty.sc5 .here (Go.Sl.GetN.lit rfl))) ?_
      refine Go.Sl.hwr_pure rfl rfl (Go.Sl.v_quo rfl rfl (by omega) rfl) rfl ?_
      refine Go.Sl.hwr_pure rfl rfl (Go.Sl.v_add rfl rfl rfl) rfl ?_
      refine Go.Sl.hwr_call rfl rfl rfl (fun _ => Go.Sl.v_call rfl rfl (name_c (wrapU8 _))) ?_
      refine Go.Sl.hwr_pure rfl rfl (Go.Sl.v_build rfl (b_two)) rfl ?_
      refine Go.Sl.hwr_nil ?_
      (refine Go.Sl.sw_alloc rfl rfl Ty.ze30 ?_; intro b15)
      refine Go.Sl.sw_nil ?_
      refine Go.Sl.ow_storeE rfl (eTy) rfl rfl .here (by first | rfl | assumption) (by assumption) ?_
      refine Go.Sl.ow_nil ?_
      refine Go.Sl.xw_np ?_
      rw [show IntKind.wrap .u8 (acts[i].id.tdiv 200) = acts[i].id.tdiv 200 from wrapD hao.2.2.2.1]
      exact xw_joint b15 trivial (by first | exact Go.Sl.Cov.refl _ | (intro p; simp only [List.flatten_cons, List.flatten_nil, List.flatten_append, List.append_nil, List.nil_append, Go.Sl.cnt_append, Go.Sl.cnt_cons, Go.Sl.cnt_nil, List.set_cons_zero, List.set_cons_succ, List.length_nil, List.length_cons, Nat.zero_add, List.append]; omega)) (by repeat (first | exact True.intro | refine And.intro rfl ?_))
    · rintro b15 _
      refine Go.Sl.cw_seq ?_
      refine Go.Sl.cw_region ?_
      refine Go.Sl.ow_val rfl rfl (Go.Sl.v_fieldAddr0 Ty.fd35_2 rfl) ?_
      refine Go.Sl.ow_val rfl rfl (Go.Sl.v_load rfl (Go.Sl.Var.at1 Ty.sc5 (.there .here) (Go.Sl.GetN.lit rfl))) ?_
      refine Go.Sl.ow_val rfl rfl (Go.Sl.v_rem rfl rfl (by decide)) ?_
      refine Go.Sl.ow_val rfl rfl (Go.Sl.v_convert Try.underlying5 Try.underlying27 rfl (Go.Sl.nw_u64 (by omega) (by omega))) ?_
      refine Go.Sl.ow_val rfl rfl (Go.Sl.v_assign rfl) ?_
      refine Go.Sl.ow_nil ?_
      refine Go.Sl.xw_then ?_
      refine Go.Sl.cw_cut2 (ι := (Int)) [(0, _), (1, _), (2, _), (7, _), (8, _), (9, _), (10, _), (11, _), (12, _), (14, _), (15, _), (60, _), (61, _), (62, _)] ⟨rfl, rfl, rfl, rfl, rfl, rfl, rfl, rfl, rfl, rfl, rfl, rfl, rfl, rfl, trivial⟩ ((fun p => [(16, .int .u64 p)])) ((fun p => 0 ≤ p ∧ p ≤ 18446744073709551615)) ((fun _ => [(b15, .cells (Entry.cells ⟨acts[i].seq.tmod 12, nameB (IntKind.wrap .u8 (acts[i].seq + acts[i].id.tdiv 200)), zero16⟩).toArray 30 (0, 0))] :: [(b14, .cells (enD.f acts[i]).toArray 35 (0, 0))] :: [(b11, .cells [Value.slice ao2 o.retired.length cap2].toArray 32 (0, 0))] :: cr :: cl :: d :: F)) ?_ ?_
      · refine Go.Sl.cw_seq ?_
        refine Go.Sl.cw_region ?_
        refine Go.Sl.ow_val rfl rfl (Go.Sl.v_fieldAddr0 Ty.fd35_2 rfl) ?_
        refine Go.Sl.ow_val rfl rfl (Go.Sl.v_load rfl (Go.Sl.Var.at1 Ty.sc5 (.there .here) (Go.Sl.GetN.lit rfl))) ?_
        refine Go.Sl.ow_val rfl rfl (Go.Sl.v_rem rfl rfl (by decide)) ?_
        refine Go.Sl.ow_val rfl rfl (Go.Sl.v_gtr rfl rfl) ?_
        refine Go.Sl.ow_nil ?_
        refine Go.Sl.xw_then ?_
        refine Go.Sl.cw_dec rfl (fun hc88 => ?_) (fun hc88 => ?_)
        refine Go.Sl.cw_region ?_
        refine Go.Sl.ow_val rfl rfl (Go.Sl.v_assign rfl) ?_
        refine Go.Sl.ow_nil ?_
        rotate_left
        refine Go.Sl.cw_skip ?_
        rotate_left
        · exact xw_joint (0 : Int) (by omega) (by first | exact Go.Sl.Cov.refl _ | (intro p; simp only [List.flatten_cons, List.flatten_nil, List.flatten_append, List.append_nil, List.nil_append, Go.Sl.cnt_append, Go.Sl.cnt_cons, Go.Sl.cnt_nil, List.set_cons_zero, List.set_cons_succ, List.length_nil, List.length_cons, Nat.zero_add, List.append]; omega)) (by repeat (first | exact True.intro | refine And.intro rfl ?_))
        · exact xw_joint (acts[i].prior.tmod 12 : Int) (by omega) (by first | exact Go.Sl.Cov.refl _ | (intro p; simp only [List.flatten_cons, List.flatten_nil, List.flatten_append, List.append_nil, List.nil_append, Go.Sl.cnt_append, Go.Sl.cnt_cons, Go.Sl.cnt_nil, List.set_cons_zero, List.set_cons_succ, List.length_nil, List.length_cons, Nat.zero_add, List.append]; omega)) (by repeat (first | exact True.intro | refine And.intro rfl ?_))
      rintro p0 hp0
      skip
      refine Go.Sl.cw_cut2 (ι := ((Entry × Int))) [(0, _), (1, _), (2, _), (7, _), (8, _), (9, _), (10, _), (11, _), (12, _), (14, _), (15, _), (60, _), (61, _), (62, _)] ⟨rfl, rfl, rfl, rfl, rfl, rfl, rfl, rfl, rfl, rfl, rfl, rfl, rfl, rfl, trivial⟩ ((fun x => [(16, .int .u64 x.2)])) ((fun x => enE.ok x.1 ∧ x.1.id.size ≤ 100 ∧ 0 ≤ x.2 ∧ x.2 ≤ 18446744073709551615)) ((fun x => [(b15, .cells x.1.cells.toArray 30 (0, 0))] :: [(b14, .cells (enD.f acts[i]).toArray 35 (0, 0))] :: [(b11, .cells [Value.slice ao2 o.retired.length cap2].toArray 32 (0, 0))] :: cr :: cl :: d :: F)) ?_ ?_
      · have hay := hao.2.2.2.2.1
        refine Go.Sl.cw_seq ?_
        refine Go.Sl.cw_region ?_
        refine Go.Sl.ow_val rfl rfl (Go.Sl.v_fieldAddr0 Ty.fd35_6 rfl) ?_
        refine Go.Sl.ow_val rfl rfl (Go.Sl.v_load rfl (Go.Sl.Var.at1 Ty.sc4 (.there .here) (g_rawD hat))) ?_
        refine Go.Sl.ow_nil ?_
        refine Go.Sl.xw_then ?_
        refine Go.Sl.cw_bool rfl (fun hc90 => ?_) (fun hc90 => ?_)
        refine Go.Sl.cw_seq ?_
        refine Go.Sl.cw_any Ty.mixed ?_
        refine Go.Sl.aw_pure 0 rfl (by decide +kernel) rfl rfl (Go.Sl.v_fieldAddr0 Ty.fd35_4 rfl) rfl ?_
        refine Go.Sl.aw_pure 2 rfl (by decide +kernel) rfl rfl (Go.Sl.v_fieldAddr0 Ty.fd35_5 rfl) rfl ?_
        refine Go.Sl.aw_step2 1 3 (by decide +kernel) rfl rfl ?_ ?_
        refine Go.Sl.ow_val rfl rfl (Go.Sl.v_load rfl (Go.Sl.Var.atN Ty.ag30 (.there .here) (g_anyE hat) (by first | rfl | assumption))) ?_
        refine Go.Sl.ow_nil ?_
        refine Go.Sl.xw_nx ?_
        refine Go.Sl.aw_step2 3 4 (by decide +kernel) rfl rfl ?_ ?_
        refine Go.Sl.ow_val rfl rfl (Go.Sl.v_load rfl (Go.Sl.Var.at1 Ty.sc27 (.there .here) (g_anyP hat))) ?_
        refine Go.Sl.ow_nil ?_
        refine Go.Sl.xw_nx ?_
        refine Go.Sl.aw_step1 4 (by decide +kernel) rfl ?_
        refine Go.Sl.ow_storeE rfl (eTy) rfl rfl .here (by first | rfl | assumption) (by assumption) ?_
        refine Go.Sl.ow_nil ?_
        refine Go.Sl.xw_nx ?_
        refine Go.Sl.aw_pure 5 rfl (by decide +kernel) rfl rfl (Go.Sl.v_assign rfl) rfl ?_
        refine Go.Sl.aw_end (by decide +kernel) ?_
        refine Go.Sl.xw_np ?_
        refine Go.Sl.xw_then ?_
        refine Go.Sl.cw_seq ?_
        refine Go.Sl.cw_region ?_
        refine Go.Sl.ow_val rfl rfl (Go.Sl.v_fieldAddr0 Ty.fd30_1 rfl) ?_
        refine Go.Sl.ow_val rfl rfl (Go.Sl.v_load rfl (Go.Sl.Var.at1 Ty.sc9 .here (Go.Sl.GetN.lit rfl))) ?_
        refine Go.Sl.ow_val rfl rfl (Go.Sl.v_len_str rfl Try.underlying9 rfl) ?_
        refine Go.Sl.ow_val rfl rfl (Go.Sl.v_gtr rfl rfl) ?_
        refine Go.Sl.ow_nil ?_
        refine Go.Sl.xw_then ?_
        refine Go.Sl.cw_dec rfl (fun hc98 => ?_) (fun hc98 => ?_)
        refine Go.Sl.cw_seq ?_
        refine Go.Sl.cw_region ?_
        refine Go.Sl.ow_val rfl rfl (Go.Sl.v_assign rfl) ?_
        refine Go.Sl.ow_nil ?_
        refine Go.Sl.xw_then ?_
        refine Go.Sl.cw_ret ?_
        refine Go.Sl.xw_joint_ret ?_
        refine Go.Sl.xw_block_ret ?_
        refine Go.Sl.xw_then_ret ?_
        refine Go.Sl.xw_round_ret ?_
        refine Go.Sl.xw_block_ret ?_
        refine Go.Sl.xw_then_ret ?_
        refine Go.Sl.ret1 rfl (Go.Sl.res_tmp rfl) ?_
        rotate_left
        refine Go.Sl.cw_skip ?_
        rotate_left
        refine Go.Sl.ow_storeE rfl (eTy) rfl rfl .here (by first | rfl | assumption) (by assumption) ?_
        refine Go.Sl.ow_nil ?_
        refine Go.Sl.xw_nx ?_
        refine Go.Sl.aw_step1 3 (by decide +kernel) rfl ?_
        refine Go.Sl.ow_val rfl rfl (Go.Sl.v_load rfl (Go.Sl.Var.at1 Ty.sc27 (.there .here) (g_anyP hat))) ?_
        refine Go.Sl.ow_nil ?_
        refine Go.Sl.xw_nx ?_
        refine Go.Sl.aw_pure 5 rfl (by decide +kernel) rfl rfl (Go.Sl.v_assign rfl) rfl ?_
        refine Go.Sl.aw_end (by decide +kernel) ?_
        refine Go.Sl.xw_np ?_
        refine Go.Sl.xw_then ?_
        refine Go.Sl.cw_seq ?_
        refine Go.Sl.cw_region ?_
        refine Go.Sl.ow_val rfl rfl (Go.Sl.v_fieldAddr0 Ty.fd30_1 rfl) ?_
        refine Go.Sl.ow_val rfl rfl (Go.Sl.v_load rfl (Go.Sl.Var.at1 Ty.sc9 .here (Go.Sl.GetN.lit rfl))) ?_
        refine Go.Sl.ow_val rfl rfl (Go.Sl.v_len_str rfl Try.underlying9 rfl) ?_
        refine Go.Sl.ow_val rfl rfl (Go.Sl.v_gtr rfl rfl) ?_
        refine Go.Sl.ow_nil ?_
        refine Go.Sl.xw_then ?_
        refine Go.Sl.cw_dec rfl (fun hc98 => ?_) (fun hc98 => ?_)
        refine Go.Sl.cw_seq ?_
        refine Go.Sl.cw_region ?_
        refine Go.Sl.ow_val rfl rfl (Go.Sl.v_assign rfl) ?_
        refine Go.Sl.ow_nil ?_
        refine Go.Sl.xw_then ?_
        refine Go.Sl.cw_ret ?_
        refine Go.Sl.xw_joint_ret ?_
        refine Go.Sl.xw_block_ret ?_
        refine Go.Sl.xw_then_ret ?_
        refine Go.Sl.xw_round_ret ?_
        refine Go.Sl.xw_block_ret ?_
        refine Go.Sl.xw_then_ret ?_
        refine Go.Sl.ret1 rfl (Go.Sl.res_tmp rfl) ?_
        rotate_left
        refine Go.Sl.cw_skip ?_
        rotate_left
        refine Go.Sl.ow_val rfl rfl (Go.Sl.v_load rfl (Go.Sl.Var.at1 Ty.sc27 (.there .here) (g_anyP hat))) ?_
        refine Go.Sl.ow_nil ?_
        refine Go.Sl.xw_nx ?_
        refine Go.Sl.aw_step1 1 (by decide +kernel) rfl ?_
        refine Go.Sl.ow_val rfl rfl (Go.Sl.v_load rfl (Go.Sl.Var.atN Ty.ag30 (.there .here) (g_anyE hat) (by first | rfl | assumption))) ?_
        refine Go.Sl.ow_nil ?_
        refine Go.Sl.xw_nx ?_
        refine Go.Sl.aw_step1 4 (by decide +kernel) rfl ?_
        refine Go.Sl.ow_storeE rfl (eTy) rfl rfl .here (by first | rfl | assumption) (by assumption) ?_
        refine Go.Sl.ow_nil ?_
        refine Go.Sl.xw_nx ?_
        refine Go.Sl.aw_pure 5 rfl (by decide +kernel) rfl rfl (Go.Sl.v_assign rfl) rfl ?_
        refine Go.Sl.aw_end (by decide +kernel) ?_
        refine Go.Sl.xw_np ?_
        refine Go.Sl.xw_then ?_
        refine Go.Sl.cw_seq ?_
        refine Go.Sl.cw_region ?_
        refine Go.Sl.ow_val rfl rfl (Go.Sl.v_fieldAddr0 Ty.fd30_1 rfl) ?_
        refine Go.Sl.ow_val rfl rfl (Go.Sl.v_load rfl (Go.Sl.Var.at1 Ty.sc9 .here (Go.Sl.GetN.lit rfl))) ?_
        refine Go.Sl.ow_val rfl rfl (Go.Sl.v_len_str rfl Try.underlying9 rfl) ?_
        refine Go.Sl.ow_val rfl rfl (Go.Sl.v_gtr rfl rfl) ?_
        refine Go.Sl.ow_nil ?_
        refine Go.Sl.xw_then ?_
        refine Go.Sl.cw_dec rfl (fun hc98 => ?_) (fun hc98 => ?_)
        refine Go.Sl.cw_seq ?_
        refine Go.Sl.cw_region ?_
        refine Go.Sl.ow_val rfl rfl (Go.Sl.v_assign rfl) ?_
        refine Go.Sl.ow_nil ?_
        refine Go.Sl.xw_then ?_
        refine Go.Sl.cw_ret ?_
        refine Go.Sl.xw_joint_ret ?_
        refine Go.Sl.xw_block_ret ?_
        refine Go.Sl.xw_then_ret ?_
        refine Go.Sl.xw_round_ret ?_
        refine Go.Sl.xw_block_ret ?_
        refine Go.Sl.xw_then_ret ?_
        refine Go.Sl.ret1 rfl (Go.Sl.res_tmp rfl) ?_
        rotate_left
        refine Go.Sl.cw_skip ?_
        rotate_left
        refine Go.Sl.cw_skip ?_
        rotate_left
        all_goals first
          | exact done0 rfl (by first | exact Go.Sl.Cov.refl _ | (intro p; simp only [List.flatten_cons, List.flatten_nil, List.flatten_append, List.append_nil, List.nil_append, Go.Sl.cnt_append, Go.Sl.cnt_cons, Go.Sl.cnt_nil, List.set_cons_zero, List.set_cons_succ, List.length_nil, List.length_cons, Nat.zero_add, List.append]; omega))
          | exact xw_joint ((acts[i].any, acts[i].anyP) : Entry × Int) ⟨hay, by dsimp only; omega, hao.2.2.2.2.2⟩ (by first | exact Go.Sl.Cov.refl _ | (intro p; simp only [List.flatten_cons, List.flatten_nil, List.flatten_append, List.append_nil, List.nil_append, Go.Sl.cnt_append, Go.Sl.cnt_cons, Go.Sl.cnt_nil, List.set_cons_zero, List.set_cons_succ, List.length_nil, List.length_cons, Nat.zero_add, List.append]; omega)) (by repeat (first | exact True.intro | refine And.intro rfl ?_))
          | exact xw_joint ((⟨acts[i].seq.tmod 12, nameB (IntKind.wrap .u8 (acts[i].seq + acts[i].id.tdiv 200)), zero16⟩, p0) : Entry × Int) ⟨hoke, by dsimp only; rw [nameB_size]; omega, hp0⟩ (by first | exact Go.Sl.Cov.refl _ | (intro p; simp only [List.flatten_cons, List.flatten_nil, List.flatten_append, List.append_nil, List.nil_append, Go.Sl.cnt_append, Go.Sl.cnt_cons, Go.Sl.cnt_nil, List.set_cons_zero, List.set_cons_succ, List.length_nil, List.length_cons, Nat.zero_add, List.append]; omega)) (by repeat (first | exact True.intro | refine And.intro rfl ?_))
      rintro ⟨e, p⟩ ⟨hoe, hes, hp1, hp2⟩
      dsimp only at hoe hes hp1 hp2 ⊢
      skip
      refine Go.Sl.cw_cut2 (ι := (Ox)) [(0, _), (1, _), (2, _), (7, _), (11, _), (12, _), (60, _), (61, _), (62, _)] ⟨rfl, rfl, rfl, rfl, rfl, rfl, rfl, rfl, rfl, trivial⟩ ((fun x => [(8, .slice x.ao x.o.l.length x.cap), (9, .int .u64 x.o.now), (10, .int .u64 x.o.prior)])) ((fun x => x.i = i + 1 ∧ x.o.most = min (max most 1) 4 ∧ Inv x x55.1)) ((fun x => [(b11, .cells [Value.slice x.ao2 x.o.retired.length x.cap2].toArray 32 (0, 0))] :: x.cr :: x.cl :: x.d :: F)) ?_ ?_
      · have hwo := hsd.wf (by omega)
        have hrl := hsd.ret
        have hlm := hsd.len
        have hmm := hsd.most
        refine Go.Sl.cw_seq ?_
        refine Go.Sl.cw_region ?_
        refine Go.Sl.ow_val rfl rfl (Go.Sl.v_fieldAddr0 Ty.fd35_0 rfl) ?_
        refine Go.Sl.ow_val rfl rfl (Go.Sl.v_load rfl (Go.Sl.Var.at1 Ty.sc5 (.there .here) (Go.Sl.GetN.lit rfl))) ?_
        refine Go.Sl.ow_val rfl rfl (Go.Sl.v_rem rfl rfl (by decide)) ?_
        refine Go.Sl.ow_val rfl rfl (Go.Sl.v_assign rfl) ?_
        refine Go.Sl.ow_nil ?_
        refine Go.Sl.xw_then ?_
        refine Go.Sl.cw_block ?_
        refine Go.Sl.cw_seq ?_
        refine Go.Sl.cw_region ?_
        refine Go.Sl.ow_val rfl rfl (Go.Sl.v_move rfl) ?_
        refine Go.Sl.ow_val rfl rfl (Go.Sl.v_lss rfl rfl) ?_
        refine Go.Sl.ow_val rfl rfl (Go.Sl.v_assign rfl) ?_
        refine Go.Sl.ow_nil ?_
        refine Go.Sl.xw_then ?_
        refine Go.Sl.cw_dec rfl (fun hc117 => ?_) (fun hc117 => ?_)
        rotate_left
        refine Go.Sl.cw_seq ?_
        refine Go.Sl.cw_region ?_
        refine Go.Sl.ow_val rfl rfl (Go.Sl.v_move rfl) ?_
        refine Go.Sl.ow_val rfl rfl (Go.Sl.v_eql rfl rfl) ?_
        refine Go.Sl.ow_val rfl rfl (Go.Sl.v_assign rfl) ?_
        refine Go.Sl.ow_nil ?_
        refine Go.Sl.xw_then ?_
        refine Go.Sl.cw_dec rfl (fun hc280 => ?_) (fun hc280 => ?_)
        rotate_left
        refine Go.Sl.cw_seq ?_
        refine Go.Sl.cw_region ?_
        refine Go.Sl.ow_val rfl rfl (Go.Sl.v_move rfl) ?_
        refine Go.Sl.ow_val rfl rfl (Go.Sl.v_eql rfl rfl) ?_
        refine Go.Sl.ow_val rfl rfl (Go.Sl.v_assign rfl) ?_
        refine Go.Sl.ow_nil ?_
        refine Go.Sl.xw_then ?_
        refine Go.Sl.cw_dec rfl (fun hc331 => ?_) (fun hc331 => ?_)
        rotate_left
        rotate_left
        ·
          have hel := len18 _ hoe
          have heo := one18 _ hoe
          refine Go.Sl.cw_seq ?_
          refine Go.Sl.cw_region ?_
          refine Go.Sl.ow_val rfl rfl (Go.Sl.v_assign rfl) ?_
          refine Go.Sl.ow_nil ?_
          refine Go.Sl.xw_then ?_
          refine Go.Sl.cw_seq ?_
          refine Go.Sl.cw_region ?_
          refine Go.Sl.ow_val rfl rfl (Go.Sl.v_assign rfl) ?_
          refine Go.Sl.ow_nil ?_
          refine Go.Sl.xw_then ?_
          refine Go.Sl.cw_cut2 (ι := (Unit)) [(0, _), (1, _), (2, _), (7, _), (8, _), (9, _), (10, _), (11, _), (12, _), (15, _), (16, _), (60, _), (61, _), (62, _)] ⟨rfl, rfl, rfl, rfl, rfl, rfl, rfl, rfl, rfl, rfl, rfl, rfl, rfl, rfl, trivial⟩ ((fun _ => [(18, .int .i64 (if (o.l.any (clashP e)) = true then 12 else 0)), (19, .bool (o.l.any fun x => decide (x = e)))])) ((fun _ => True)) ((fun _ => [(b15, .cells e.cells.toArray 30 (0, 0))] :: [(b14, .cells (enD.f acts[i]).toArray 35 (0, 0))] :: [(b11, .cells [Value.slice ao2 o.retired.length cap2].toArray 32 (0, 0))] :: cr :: cl :: d :: F)) ?_ ?_
          ·
            refine Go.Sl.cw_seq ?_
            refine Go.Sl.cw_region ?_
            refine Go.Sl.ow_val rfl rfl (Go.Sl.v_move rfl) ?_
            refine Go.Sl.ow_val rfl rfl (Go.Sl.v_len rfl Try.underlying31 rfl) ?_
            refine Go.Sl.ow_val rfl rfl (Go.Sl.v_move rfl) ?_
            refine Go.Sl.ow_nil ?_
            refine Go.Sl.xw_then ?_
            refine Go.Sl.cw_block ?_
            refine Go.Sl.cw_loop2 (ι := (Nat)) [(0, _), (1, _), (2, _), (7, _), (8, _), (9, _), (10, _), (11, _), (12, _), (15, _), (16, _), (60, _), (61, _), (62, _), (120, _), (121, _)] ⟨rfl, rfl, rfl, rfl, rfl, rfl, rfl, rfl, rfl, rfl, rfl, rfl, rfl, rfl, rfl, rfl, trivial⟩ ((fun j => [(18, .int .i64 (if ((o.l.take j).any (clashP e)) = true then 12 else 0)), (19, .bool ((o.l.take j).any fun x => decide (x = e))), (122, .int .i64 j)])) ((fun j => j ≤ o.l.length)) ((fun j => o.l.length - j)) ((fun j => [(b15, .cells e.cells.toArray 30 (0, 0))] :: [(b14, .cells (enD.f acts[i]).toArray 35 (0, 0))] :: [(b11, .cells [Value.slice ao2 o.retired.length cap2].toArray 32 (0, 0))] :: cr :: cl :: d :: F)) (0) (by repeat (first | exact True.intro | refine And.intro rfl ?_)) (by first | exact Go.Sl.Cov.refl _ | (intro p; simp only [List.flatten_cons, List.flatten_nil, List.flatten_append, List.append_nil, List.nil_append, Go.Sl.cnt_append, Go.Sl.cnt_cons, Go.Sl.cnt_nil, List.set_cons_zero, List.set_cons_succ, List.length_nil, List.length_cons, Nat.zero_add, List.append]; omega)) ?_ ?_
            · exact Nat.zero_le _
            rintro j hj
            refine Go.Sl.cw_seq ?_
            refine Go.Sl.cw_region ?_
            refine Go.Sl.ow_val rfl rfl (Go.Sl.v_lss rfl rfl) ?_
            refine Go.Sl.ow_nil ?_
            refine Go.Sl.xw_then ?_
            refine Go.Sl.cw_seq ?_
            refine Go.Sl.cw_dec rfl (fun hc123 => ?_) (fun hc123 => ?_)
            refine Go.Sl.cw_skip ?_
            refine Go.Sl.xw_then ?_
            refine Go.Sl.cw_seq ?_
            refine Go.Sl.cw_block ?_
            refine Go.Sl.cw_seq ?_
            refine Go.Sl.cw_region ?_
            rotate_left
            refine Go.Sl.cw_exit ?_
            refine Go.Sl.xw_then_exit ?_
            refine Go.Sl.xw_round_exit ?_
            refine Go.Sl.xw_block_exit ?_
            rotate_left
            · have hj2 : j < o.l.length := by omega
              have hokj := hL.ok _ (List.getElem_mem hj2)
              have hlj := len18 _ hokj
              refine Go.Sl.ow_val rfl rfl (Go.Sl.v_indexAddr_ls Try.underlying31 (eTy) rfl rfl (by assumption) rfl (by omega)) ?_
              refine Go.Sl.ow_val rfl rfl (Go.Sl.v_load rfl (Go.Sl.Vw.var (eTy) ((hL.vw (by repeat (first | exact Go.Sl.Sub.here | assumption | refine Go.Sl.Sub.there ?_)))) (by omega))) ?_
              (refine Go.Sl.ow_alloc rfl rfl Ty.ze30 ?_; intro b21)
              refine Go.Sl.ow_storeE rfl (eTy) rfl rfl .here (by first | rfl | assumption) (by assumption) ?_
              refine Go.Sl.ow_nil ?_
              refine Go.Sl.xw_then ?_
              refine Go.Sl.cw_seq ?_
              refine Go.Sl.cw_region ?_
              refine Go.Sl.ow_val rfl rfl (Go.Sl.v_move rfl) ?_
              refine Go.Sl.ow_val rfl rfl (Go.Sl.v_move rfl) ?_
              refine Go.Sl.ow_bool 127 rfl (fun hc127 => ?_) (fun hc127 => ?_)
              refine Go.Sl.ow_skip rfl rfl ?_
              refine Go.Sl.ow_skip rfl rfl ?_
              refine Go.Sl.ow_skip rfl rfl ?_
              refine Go.Sl.ow_val rfl rfl (Go.Sl.v_pick_true rfl rfl) ?_
              refine Go.Sl.ow_val rfl rfl (Go.Sl.v_assign rfl) ?_
              refine Go.Sl.ow_nil ?_
              refine Go.Sl.xw_then ?_
              refine Go.Sl.cw_seq ?_
              refine Go.Sl.cw_region ?_
              refine Go.Sl.ow_val rfl rfl (Go.Sl.v_fieldAddr0 Ty.fd30_0 rfl) ?_
              refine Go.Sl.ow_val rfl rfl (Go.Sl.v_load rfl (Go.Sl.Var.at1 Ty.sc27 .here (Go.Sl.GetN.lit rfl))) ?_
              refine Go.Sl.ow_val rfl rfl (Go.Sl.v_fieldAddr0 Ty.fd30_0 rfl) ?_
              refine Go.Sl.ow_val rfl rfl (Go.Sl.v_load rfl (Go.Sl.Var.at1 Ty.sc27 (.there .here) (Go.Sl.GetN.lit rfl))) ?_
              refine Go.Sl.ow_val rfl rfl (Go.Sl.v_eql rfl rfl) ?_
              refine Go.Sl.ow_val rfl rfl (Go.Sl.v_move rfl) ?_
              refine Go.Sl.ow_dec 137 rfl (fun hc137 => ?_) (fun hc137 => ?_)
              refine Go.Sl.ow_val rfl rfl (Go.Sl.v_load rfl (Go.Sl.Var.atN Ty.ag30 .here Go.Sl.GetN.all (by first | rfl | assumption))) ?_
              refine Go.Sl.ow_val rfl rfl (Go.Sl.v_load rfl (Go.Sl.Var.atN Ty.ag30 (.there .here) Go.Sl.GetN.all (by first | rfl | assumption))) ?_
              refine Go.Sl.ow_val rfl rfl (Go.Sl.v_neqA rfl rfl Ty.gt30 (eqE hokj hoe)) ?_
              refine Go.Sl.ow_val rfl rfl (Go.Sl.v_pick_true rfl rfl) ?_
              refine Go.Sl.ow_val rfl rfl (Go.Sl.v_move rfl) ?_
              refine Go.Sl.ow_dec 142 rfl (fun hc142 => ?_) (fun hc142 => ?_)
              refine Go.Sl.ow_skip rfl rfl ?_
              refine Go.Sl.ow_skip rfl rfl ?_
              refine Go.Sl.ow_skip rfl rfl ?_
              refine Go.Sl.ow_skip rfl rfl ?_
              refine Go.Sl.ow_skip rfl rfl ?_
              refine Go.Sl.ow_skip rfl rfl ?_
              refine Go.Sl.ow_skip rfl rfl ?_
              refine Go.Sl.ow_skip rfl rfl ?_
              refine Go.Sl.ow_skip rfl rfl ?_
              refine Go.Sl.ow_skip rfl rfl ?_
              refine Go.Sl.ow_skip rfl rfl ?_
              refine Go.Sl.ow_skip rfl rfl ?_
              refine Go.Sl.ow_val rfl rfl (Go.Sl.v_pick_true rfl rfl) ?_
              refine Go.Sl.ow_nil ?_
              refine Go.Sl.xw_then ?_
              refine Go.Sl.cw_true rfl ?_
              refine Go.Sl.cw_region ?_
              refine Go.Sl.ow_val rfl rfl (Go.Sl.v_assign rfl) ?_
              refine Go.Sl.ow_nil ?_
              refine Go.Sl.xw_block ?_
              refine Go.Sl.xw_then ?_
              refine Go.Sl.cw_region ?_
              refine Go.Sl.ow_val rfl rfl (Go.Sl.v_add rfl rfl (Go.Sl.nw_i64 (by omega) (by omega))) ?_
              refine Go.Sl.ow_val rfl rfl (Go.Sl.v_move rfl) ?_
              refine Go.Sl.ow_nil ?_
              rotate_left
              refine Go.Sl.ow_val rfl rfl (Go.Sl.v_fieldAddr0 Ty.fd30_1 rfl) ?_
              refine Go.Sl.ow_val rfl rfl (Go.Sl.v_load rfl (Go.Sl.Var.at1 Ty.sc9 .here (Go.Sl.GetN.lit rfl))) ?_
              refine Go.Sl.ow_val rfl rfl (Go.Sl.v_fieldAddr0 Ty.fd30_1 rfl) ?_
              refine Go.Sl.ow_val rfl rfl (Go.Sl.v_load rfl (Go.Sl.Var.at1 Ty.sc9 (.there .here) (Go.Sl.GetN.lit rfl))) ?_
              refine Go.Sl.ow_val rfl rfl (Go.Sl.v_eqlS rfl rfl) ?_
              refine Go.Sl.ow_val rfl rfl (Go.Sl.v_move rfl) ?_
              refine Go.Sl.ow_dec 148 rfl (fun hc148 => ?_) (fun hc148 => ?_)
              refine Go.Sl.ow_val rfl rfl (Go.Sl.v_fieldAddr0 Ty.fd30_0 rfl) ?_
              refine Go.Sl.ow_val rfl rfl (Go.Sl.v_load rfl (Go.Sl.Var.at1 Ty.sc27 .here (Go.Sl.GetN.lit rfl))) ?_
              refine Go.Sl.ow_val rfl rfl (Go.Sl.v_fieldAddr0 Ty.fd30_0 rfl) ?_
              refine Go.Sl.ow_val rfl rfl (Go.Sl.v_load rfl (Go.Sl.Var.at1 Ty.sc27 (.there .here) (Go.Sl.GetN.lit rfl))) ?_
              refine Go.Sl.ow_val rfl rfl (Go.Sl.v_neq rfl rfl) ?_
              refine Go.Sl.ow_val rfl rfl (Go.Sl.v_pick_true rfl rfl) ?_
              refine Go.Sl.ow_val rfl rfl (Go.Sl.v_pick_false rfl rfl) ?_
              refine Go.Sl.ow_nil ?_
              refine Go.Sl.xw_then ?_
              refine Go.Sl.cw_dec rfl (fun hc155 => ?_) (fun hc155 => ?_)
              (exfalso; omega)
              refine Go.Sl.cw_skip ?_
              refine Go.Sl.xw_block ?_
              refine Go.Sl.xw_then ?_
              refine Go.Sl.cw_region ?_
              refine Go.Sl.ow_val rfl rfl (Go.Sl.v_add rfl rfl (Go.Sl.nw_i64 (by omega) (by omega))) ?_
              refine Go.Sl.ow_val rfl rfl (Go.Sl.v_move rfl) ?_
              refine Go.Sl.ow_nil ?_
              rotate_left
              refine Go.Sl.ow_skip rfl rfl ?_
              refine Go.Sl.ow_skip rfl rfl ?_
              refine Go.Sl.ow_skip rfl rfl ?_
              refine Go.Sl.ow_skip rfl rfl ?_
              refine Go.Sl.ow_skip rfl rfl ?_
              refine Go.Sl.ow_val rfl rfl (Go.Sl.v_pick_false rfl rfl) ?_
              refine Go.Sl.ow_val rfl rfl (Go.Sl.v_pick_false rfl rfl) ?_
              refine Go.Sl.ow_nil ?_
              refine Go.Sl.xw_then ?_
              refine Go.Sl.cw_false rfl ?_
              refine Go.Sl.cw_skip ?_
              refine Go.Sl.xw_block ?_
              refine Go.Sl.xw_then ?_
              refine Go.Sl.cw_region ?_
              refine Go.Sl.ow_val rfl rfl (Go.Sl.v_add rfl rfl (Go.Sl.nw_i64 (by omega) (by omega))) ?_
              refine Go.Sl.ow_val rfl rfl (Go.Sl.v_move rfl) ?_
              refine Go.Sl.ow_nil ?_
              rotate_left
              refine Go.Sl.ow_skip rfl rfl ?_
              refine Go.Sl.ow_skip rfl rfl ?_
              refine Go.Sl.ow_skip rfl rfl ?_
              refine Go.Sl.ow_val rfl rfl (Go.Sl.v_pick_false rfl rfl) ?_
              refine Go.Sl.ow_val rfl rfl (Go.Sl.v_move rfl) ?_
              refine Go.Sl.ow_val rfl rfl (Go.Sl.v_fieldAddr0 Ty.fd30_1 rfl) ?_
              refine Go.Sl.ow_val rfl rfl (Go.Sl.v_load rfl (Go.Sl.Var.at1 Ty.sc9 .here (Go.Sl.GetN.lit rfl))) ?_
              refine Go.Sl.ow_val rfl rfl (Go.Sl.v_fieldAddr0 Ty.fd30_1 rfl) ?_
              refine Go.Sl.ow_val rfl rfl (Go.Sl.v_load rfl (Go.Sl.Var.at1 Ty.sc9 (.there .here) (Go.Sl.GetN.lit rfl))) ?_
              refine Go.Sl.ow_val rfl rfl (Go.Sl.v_eqlS rfl rfl) ?_
              refine Go.Sl.ow_val rfl rfl (Go.Sl.v_move rfl) ?_
              refine Go.Sl.ow_dec 148 rfl (fun hc148 => ?_) (fun hc148 => ?_)
              refine Go.Sl.ow_val rfl rfl (Go.Sl.v_fieldAddr0 Ty.fd30_0 rfl) ?_
              refine Go.Sl.ow_val rfl rfl (Go.Sl.v_load rfl (Go.Sl.Var.at1 Ty.sc27 .here (Go.Sl.GetN.lit rfl))) ?_
              refine Go.Sl.ow_val rfl rfl (Go.Sl.v_fieldAddr0 Ty.fd30_0 rfl) ?_
              refine Go.Sl.ow_val rfl rfl (Go.Sl.v_load rfl (Go.Sl.Var.at1 Ty.sc27 (.there .here) (Go.Sl.GetN.lit rfl))) ?_
              refine Go.Sl.ow_val rfl rfl (Go.Sl.v_neq rfl rfl) ?_
              refine Go.Sl.ow_val rfl rfl (Go.Sl.v_pick_true rfl rfl) ?_
              refine Go.Sl.ow_val rfl rfl (Go.Sl.v_pick_false rfl rfl) ?_
              refine Go.Sl.ow_nil ?_
              refine Go.Sl.xw_then ?_
              refine Go.Sl.cw_dec rfl (fun hc155 => ?_) (fun hc155 => ?_)
              rotate_left; (exfalso; omega); rotate_right
              refine Go.Sl.cw_region ?_
              refine Go.Sl.ow_val rfl rfl (Go.Sl.v_assign rfl) ?_
              refine Go.Sl.ow_nil ?_
              refine Go.Sl.xw_block ?_
              refine Go.Sl.xw_then ?_
              refine Go.Sl.cw_region ?_
              refine Go.Sl.ow_val rfl rfl (Go.Sl.v_add rfl rfl (Go.Sl.nw_i64 (by omega) (by omega))) ?_
              refine Go.Sl.ow_val rfl rfl (Go.Sl.v_move rfl) ?_
              refine Go.Sl.ow_nil ?_
              rotate_left
              refine Go.Sl.ow_skip rfl rfl ?_
              refine Go.Sl.ow_skip rfl rfl ?_
              refine Go.Sl.ow_skip rfl rfl ?_
              refine Go.Sl.ow_skip rfl rfl ?_
              refine Go.Sl.ow_skip rfl rfl ?_
              refine Go.Sl.ow_val rfl rfl (Go.Sl.v_pick_false rfl rfl) ?_
              refine Go.Sl.ow_val rfl rfl (Go.Sl.v_pick_false rfl rfl) ?_
              refine Go.Sl.ow_nil ?_
              refine Go.Sl.xw_then ?_
              refine Go.Sl.cw_false rfl ?_
              refine Go.Sl.cw_skip ?_
              refine Go.Sl.xw_block ?_
              refine Go.Sl.xw_then ?_
              refine Go.Sl.cw_region ?_
              refine Go.Sl.ow_val rfl rfl (Go.Sl.v_add rfl rfl (Go.Sl.nw_i64 (by omega) (by omega))) ?_
              refine Go.Sl.ow_val rfl rfl (Go.Sl.v_move rfl) ?_
              refine Go.Sl.ow_nil ?_
              rotate_left
              refine Go.Sl.ow_val rfl rfl (Go.Sl.v_load rfl (Go.Sl.Var.atN Ty.ag30 .here Go.Sl.GetN.all (by first | rfl | assumption))) ?_
              refine Go.Sl.ow_val rfl rfl (Go.Sl.v_load rfl (Go.Sl.Var.atN Ty.ag30 (.there .here) Go.Sl.GetN.all (by first | rfl | assumption))) ?_
              refine Go.Sl.ow_val rfl rfl (Go.Sl.v_eqlA rfl rfl Ty.gt30 (eqE hokj hoe)) ?_
              refine Go.Sl.ow_val rfl rfl (Go.Sl.v_pick_false rfl rfl) ?_
              refine Go.Sl.ow_val rfl rfl (Go.Sl.v_assign rfl) ?_
              refine Go.Sl.ow_nil ?_
              refine Go.Sl.xw_then ?_
              refine Go.Sl.cw_seq ?_
              refine Go.Sl.cw_region ?_
              refine Go.Sl.ow_val rfl rfl (Go.Sl.v_fieldAddr0 Ty.fd30_0 rfl) ?_
              refine Go.Sl.ow_val rfl rfl (Go.Sl.v_load rfl (Go.Sl.Var.at1 Ty.sc27 .here (Go.Sl.GetN.lit rfl))) ?_
              refine Go.Sl.ow_val rfl rfl (Go.Sl.v_fieldAddr0 Ty.fd30_0 rfl) ?_
              refine Go.Sl.ow_val rfl rfl (Go.Sl.v_load rfl (Go.Sl.Var.at1 Ty.sc27 (.there .here) (Go.Sl.GetN.lit rfl))) ?_
              refine Go.Sl.ow_val rfl rfl (Go.Sl.v_eql rfl rfl) ?_
              refine Go.Sl.ow_val rfl rfl (Go.Sl.v_move rfl) ?_
              refine Go.Sl.ow_dec 137 rfl (fun hc137 => ?_) (fun hc137 => ?_)
              refine Go.Sl.ow_val rfl rfl (Go.Sl.v_load rfl (Go.Sl.Var.atN Ty.ag30 .here Go.Sl.GetN.all (by first | rfl | assumption))) ?_
              refine Go.Sl.ow_val rfl rfl (Go.Sl.v_load rfl (Go.Sl.Var.atN Ty.ag30 (.there .here) Go.Sl.GetN.all (by first | rfl | assumption))) ?_
              refine Go.Sl.ow_val rfl rfl (Go.Sl.v_neqA rfl rfl Ty.gt30 (eqE hokj hoe)) ?_
              refine Go.Sl.ow_val rfl rfl (Go.Sl.v_pick_true rfl rfl) ?_
              refine Go.Sl.ow_val rfl rfl (Go.Sl.v_move rfl) ?_
              refine Go.Sl.ow_dec 142 rfl (fun hc142 => ?_) (fun hc142 => ?_)
              refine Go.Sl.ow_skip rfl rfl ?_
              refine Go.Sl.ow_skip rfl rfl ?_
              refine Go.Sl.ow_skip rfl rfl ?_
              refine Go.Sl.ow_skip rfl rfl ?_
              refine Go.Sl.ow_skip rfl rfl ?_
              refine Go.Sl.ow_skip rfl rfl ?_
              refine Go.Sl.ow_skip rfl rfl ?_
              refine Go.Sl.ow_skip rfl rfl ?_
              refine Go.Sl.ow_skip rfl rfl ?_
              refine Go.Sl.ow_skip rfl rfl ?_
              refine Go.Sl.ow_skip rfl rfl ?_
              refine Go.Sl.ow_skip rfl rfl ?_
              refine Go.Sl.ow_val rfl rfl (Go.Sl.v_pick_true rfl rfl) ?_
              refine Go.Sl.ow_nil ?_
              refine Go.Sl.xw_then ?_
              refine Go.Sl.cw_true rfl ?_
              refine Go.Sl.cw_region ?_
              refine Go.Sl.ow_val rfl rfl (Go.Sl.v_assign rfl) ?_
              refine Go.Sl.ow_nil ?_
              refine Go.Sl.xw_block ?_
              refine Go.Sl.xw_then ?_
              refine Go.Sl.cw_region ?_
              refine Go.Sl.ow_val rfl rfl (Go.Sl.v_add rfl rfl (Go.Sl.nw_i64 (by omega) (by omega))) ?_
              refine Go.Sl.ow_val rfl rfl (Go.Sl.v_move rfl) ?_
              refine Go.Sl.ow_nil ?_
              rotate_left
              refine Go.Sl.ow_val rfl rfl (Go.Sl.v_fieldAddr0 Ty.fd30_1 rfl) ?_
              refine Go.Sl.ow_val rfl rfl (Go.Sl.v_load rfl (Go.Sl.Var.at1 Ty.sc9 .here (Go.Sl.GetN.lit rfl))) ?_
              refine Go.Sl.ow_val rfl rfl (Go.Sl.v_fieldAddr0 Ty.fd30_1 rfl) ?_
              refine Go.Sl.ow_val rfl rfl (Go.Sl.v_load rfl (Go.Sl.Var.at1 Ty.sc9 (.there .here) (Go.Sl.GetN.lit rfl))) ?_
              refine Go.Sl.ow_val rfl rfl (Go.Sl.v_eqlS rfl rfl) ?_
              refine Go.Sl.ow_val rfl rfl (Go.Sl.v_move rfl) ?_
              refine Go.Sl.ow_dec 148 rfl (fun hc148 => ?_) (fun hc148 => ?_)
              refine Go.Sl.ow_val rfl rfl (Go.Sl.v_fieldAddr0 Ty.fd30_0 rfl) ?_
              refine Go.Sl.ow_val rfl rfl (Go.Sl.v_load rfl (Go.Sl.Var.at1 Ty.sc27 .here (Go.Sl.GetN.lit rfl))) ?_
              refine Go.Sl.ow_val rfl rfl (Go.Sl.v_fieldAddr0 Ty.fd30_0 rfl) ?_
              refine Go.Sl.ow_val rfl rfl (Go.Sl.v_load rfl (Go.Sl.Var.at1 Ty.sc27 (.there .here) (Go.Sl.GetN.lit rfl))) ?_
              refine Go.Sl.ow_val rfl rfl (Go.Sl.v_neq rfl rfl) ?_
              refine Go.Sl.ow_val rfl rfl (Go.Sl.v_pick_true rfl rfl) ?_
              refine Go.Sl.ow_val rfl rfl (Go.Sl.v_pick_false rfl rfl) ?_
              refine Go.Sl.ow_nil ?_
              refine Go.Sl.xw_then ?_
              refine Go.Sl.cw_dec rfl (fun hc155 => ?_) (fun hc155 => ?_)
              (exfalso; omega)
              refine Go.Sl.cw_skip ?_
              refine Go.Sl.xw_block ?_
              refine Go.Sl.xw_then ?_
              refine Go.Sl.cw_region ?_
              refine Go.Sl.ow_val rfl rfl (Go.Sl.v_add rfl rfl (Go.Sl.nw_i64 (by omega) (by omega))) ?_
              refine Go.Sl.ow_val rfl rfl (Go.Sl.v_move rfl) ?_
              refine Go.Sl.ow_nil ?_
              rotate_left
              refine Go.Sl.ow_skip rfl rfl ?_
              refine Go.Sl.ow_skip rfl rfl ?_
              refine Go.Sl.ow_skip rfl rfl ?_
              refine Go.Sl.ow_skip rfl rfl ?_
              refine Go.Sl.ow_skip rfl rfl ?_
              refine Go.Sl.ow_val rfl rfl (Go.Sl.v_pick_false rfl rfl) ?_
              refine Go.Sl.ow_val rfl rfl (Go.Sl.v_pick_false rfl rfl) ?_
              refine Go.Sl.ow_nil ?_
              refine Go.Sl.xw_then ?_
              refine Go.Sl.cw_false rfl ?_
              refine Go.Sl.cw_skip ?_
              refine Go.Sl.xw_block ?_
              refine Go.Sl.xw_then ?_
              refine Go.Sl.cw_region ?_
              refine Go.Sl.ow_val rfl rfl (Go.Sl.v_add rfl rfl (Go.Sl.nw_i64 (by omega) (by omega))) ?_
              refine Go.Sl.ow_val rfl rfl (Go.Sl.v_move rfl) ?_
              refine Go.Sl.ow_nil ?_
              rotate_left
              refine Go.Sl.ow_skip rfl rfl ?_
              refine Go.Sl.ow_skip rfl rfl ?_
              refine Go.Sl.ow_skip rfl rfl ?_
              refine Go.Sl.ow_val rfl rfl (Go.Sl.v_pick_false rfl rfl) ?_
              refine Go.Sl.ow_val rfl rfl (Go.Sl.v_move rfl) ?_
              refine Go.Sl.ow_val rfl rfl (Go.Sl.v_fieldAddr0 Ty.fd30_1 rfl) ?_
              refine Go.Sl.ow_val rfl rfl (Go.Sl.v_load rfl (Go.Sl.Var.at1 Ty.sc9 .here (Go.Sl.GetN.lit rfl))) ?_
              refine Go.Sl.ow_val rfl rfl (Go.Sl.v_fieldAddr0 Ty.fd30_1 rfl) ?_
              refine Go.Sl.ow_val rfl rfl (Go.Sl.v_load rfl (Go.Sl.Var.at1 Ty.sc9 (.there .here) (Go.Sl.GetN.lit rfl))) ?_
              refine Go.Sl.ow_val rfl rfl (Go.Sl.v_eqlS rfl rfl) ?_
              refine Go.Sl.ow_val rfl rfl (Go.Sl.v_move rfl) ?_
              refine Go.Sl.ow_dec 148 rfl (fun hc148 => ?_) (fun hc148 => ?_)
              refine Go.Sl.ow_val rfl rfl (Go.Sl.v_fieldAddr0 Ty.fd30_0 rfl) ?_
              refine Go.Sl.ow_val rfl rfl (Go.Sl.v_load rfl (Go.Sl.Var.at1 Ty.sc27 .here (Go.Sl.GetN.lit rfl))) ?_
              refine Go.Sl.ow_val rfl rfl (Go.Sl.v_fieldAddr0 Ty.fd30_0 rfl) ?_
              refine Go.Sl.ow_val rfl rfl (Go.Sl.v_load rfl (Go.Sl.Var.at1 Ty.sc27 (.there .here) (Go.Sl.GetN.lit rfl))) ?_
              refine Go.Sl.ow_val rfl rfl (Go.Sl.v_neq rfl rfl) ?_
              refine Go.Sl.ow_val rfl rfl (Go.Sl.v_pick_true rfl rfl) ?_
              refine Go.Sl.ow_val rfl rfl (Go.Sl.v_pick_false rfl rfl) ?_
              refine Go.Sl.ow_nil ?_
              refine Go.Sl.xw_then ?_
              refine Go.Sl.cw_dec rfl (fun hc155 => ?_) (fun hc155 => ?_)
              rotate_left; (exfalso; omega); rotate_right
              refine Go.Sl.cw_region ?_
              refine Go.Sl.ow_val rfl rfl (Go.Sl.v_assign rfl) ?_
              refine Go.Sl.ow_nil ?_
              refine Go.Sl.xw_block ?_
              refine Go.Sl.xw_then ?_
              refine Go.Sl.cw_region ?_
              refine Go.Sl.ow_val rfl rfl (Go.Sl.v_add rfl rfl (Go.Sl.nw_i64 (by omega) (by omega))) ?_
              refine Go.Sl.ow_val rfl rfl (Go.Sl.v_move rfl) ?_
              refine Go.Sl.ow_nil ?_
              rotate_left
              refine Go.Sl.ow_skip rfl rfl ?_
              refine Go.Sl.ow_skip rfl rfl ?_
              refine Go.Sl.ow_skip rfl rfl ?_
              refine Go.Sl.ow_skip rfl rfl ?_
              refine Go.Sl.ow_skip rfl rfl ?_
              refine Go.Sl.ow_val rfl rfl (Go.Sl.v_pick_false rfl rfl) ?_
              refine Go.Sl.ow_val rfl rfl (Go.Sl.v_pick_false rfl rfl) ?_
              refine Go.Sl.ow_nil ?_
              refine Go.Sl.xw_then ?_
              refine Go.Sl.cw_false rfl ?_
              refine Go.Sl.cw_skip ?_
              refine Go.Sl.xw_block ?_
              refine Go.Sl.xw_then ?_
              refine Go.Sl.cw_region ?_
              refine Go.Sl.ow_val rfl rfl (Go.Sl.v_add rfl rfl (Go.Sl.nw_i64 (by omega) (by omega))) ?_
              refine Go.Sl.ow_val rfl rfl (Go.Sl.v_move rfl) ?_
              refine Go.Sl.ow_nil ?_
              rotate_left
              · exact xw_round (j + 1) (by omega) (by omega) (by first | exact Go.Sl.Cov.refl _ | (intro p; simp only [List.flatten_cons, List.flatten_nil, List.flatten_append, List.append_nil, List.nil_append, Go.Sl.cnt_append, Go.Sl.cnt_cons, Go.Sl.cnt_nil, List.set_cons_zero, List.set_cons_succ, List.length_nil, List.length_cons, Nat.zero_add, List.append]; omega)) ⟨by rw [← anyC1 hj2 (clY1 hc137 hc142)]; rfl, by rw [← anyK1 hj2 hc127]; rfl, (by repeat (first | exact True.intro | refine And.intro rfl ?_))⟩
              · exact xw_round (j + 1) (by omega) (by omega) (by first | exact Go.Sl.Cov.refl _ | (intro p; simp only [List.flatten_cons, List.flatten_nil, List.flatten_append, List.append_nil, List.nil_append, Go.Sl.cnt_append, Go.Sl.cnt_cons, Go.Sl.cnt_nil, List.set_cons_zero, List.set_cons_succ, List.length_nil, List.length_cons, Nat.zero_add, List.append]; omega)) ⟨by rw [← anyC0 hj2 (clN1 hc142)]; rfl, by rw [← anyK1 hj2 hc127]; rfl, (by repeat (first | exact True.intro | refine And.intro rfl ?_))⟩
              · exact xw_round (j + 1) (by omega) (by omega) (by first | exact Go.Sl.Cov.refl _ | (intro p; simp only [List.flatten_cons, List.flatten_nil, List.flatten_append, List.append_nil, List.nil_append, Go.Sl.cnt_append, Go.Sl.cnt_cons, Go.Sl.cnt_nil, List.set_cons_zero, List.set_cons_succ, List.length_nil, List.length_cons, Nat.zero_add, List.append]; omega)) ⟨by rw [← anyC0 hj2 (clN1 hc142)]; rfl, by rw [← anyK1 hj2 hc127]; rfl, (by repeat (first | exact True.intro | refine And.intro rfl ?_))⟩
              · exact xw_round (j + 1) (by omega) (by omega) (by first | exact Go.Sl.Cov.refl _ | (intro p; simp only [List.flatten_cons, List.flatten_nil, List.flatten_append, List.append_nil, List.nil_append, Go.Sl.cnt_append, Go.Sl.cnt_cons, Go.Sl.cnt_nil, List.set_cons_zero, List.set_cons_succ, List.length_nil, List.length_cons, Nat.zero_add, List.append]; omega)) ⟨by rw [← anyC1 hj2 (clY2 hc137 hc148)]; rfl, by rw [← anyK1 hj2 hc127]; rfl, (by repeat (first | exact True.intro | refine And.intro rfl ?_))⟩
              · exact xw_round (j + 1) (by omega) (by omega) (by first | exact Go.Sl.Cov.refl _ | (intro p; simp only [List.flatten_cons, List.flatten_nil, List.flatten_append, List.append_nil, List.nil_append, Go.Sl.cnt_append, Go.Sl.cnt_cons, Go.Sl.cnt_nil, List.set_cons_zero, List.set_cons_succ, List.length_nil, List.length_cons, Nat.zero_add, List.append]; omega)) ⟨by rw [← anyC0 hj2 (clN2 hc137 hc148)]; rfl, by rw [← anyK1 hj2 hc127]; rfl, (by repeat (first | exact True.intro | refine And.intro rfl ?_))⟩
              · exact xw_round (j + 1) (by omega) (by omega) (by first | exact Go.Sl.Cov.refl _ | (intro p; simp only [List.flatten_cons, List.flatten_nil, List.flatten_append, List.append_nil, List.nil_append, Go.Sl.cnt_append, Go.Sl.cnt_cons, Go.Sl.cnt_nil, List.set_cons_zero, List.set_cons_succ, List.length_nil, List.length_cons, Nat.zero_add, List.append]; omega)) ⟨by rw [← anyC1 hj2 (clY1 hc137 hc142)]; rfl, by rw [← anyK0 hj2 hc127]; rfl, (by repeat (first | exact True.intro | refine And.intro rfl ?_))⟩
              · exact xw_round (j + 1) (by omega) (by omega) (by first | exact Go.Sl.Cov.refl _ | (intro p; simp only [List.flatten_cons, List.flatten_nil, List.flatten_append, List.append_nil, List.nil_append, Go.Sl.cnt_append, Go.Sl.cnt_cons, Go.Sl.cnt_nil, List.set_cons_zero, List.set_cons_succ, List.length_nil, List.length_cons, Nat.zero_add, List.append]; omega)) ⟨by rw [← anyC0 hj2 (clN1 hc142)]; rfl, by rw [← anyK0 hj2 hc127]; rfl, (by repeat (first | exact True.intro | refine And.intro rfl ?_))⟩
              · exact xw_round (j + 1) (by omega) (by omega) (by first | exact Go.Sl.Cov.refl _ | (intro p; simp only [List.flatten_cons, List.flatten_nil, List.flatten_append, List.append_nil, List.nil_append, Go.Sl.cnt_append, Go.Sl.cnt_cons, Go.Sl.cnt_nil, List.set_cons_zero, List.set_cons_succ, List.length_nil, List.length_cons, Nat.zero_add, List.append]; omega)) ⟨by rw [← anyC0 hj2 (clN1 hc142)]; rfl, by rw [← anyK0 hj2 hc127]; rfl, (by repeat (first | exact True.intro | refine And.intro rfl ?_))⟩
              · exact xw_round (j + 1) (by omega) (by omega) (by first | exact Go.Sl.Cov.refl _ | (intro p; simp only [List.flatten_cons, List.flatten_nil, List.flatten_append, List.append_nil, List.nil_append, Go.Sl.cnt_append, Go.Sl.cnt_cons, Go.Sl.cnt_nil, List.set_cons_zero, List.set_cons_succ, List.length_nil, List.length_cons, Nat.zero_add, List.append]; omega)) ⟨by rw [← anyC1 hj2 (clY2 hc137 hc148)]; rfl, by rw [← anyK0 hj2 hc127]; rfl, (by repeat (first | exact True.intro | refine And.intro rfl ?_))⟩
              · exact xw_round (j + 1) (by omega) (by omega) (by first | exact Go.Sl.Cov.refl _ | (intro p; simp only [List.flatten_cons, List.flatten_nil, List.flatten_append, List.append_nil, List.nil_append, Go.Sl.cnt_append, Go.Sl.cnt_cons, Go.Sl.cnt_nil, List.set_cons_zero, List.set_cons_succ, List.length_nil, List.length_cons, Nat.zero_add, List.append]; omega)) ⟨by rw [← anyC0 hj2 (clN2 hc137 hc148)]; rfl, by rw [← anyK0 hj2 hc127]; rfl, (by repeat (first | exact True.intro | refine And.intro rfl ?_))⟩
            · have hx : o.l.take j = o.l := List.take_of_length_le (by omega)
              exact xw_joint () trivial (by first | exact Go.Sl.Cov.refl _ | (intro p; simp only [List.flatten_cons, List.flatten_nil, List.flatten_append, List.append_nil, List.nil_append, Go.Sl.cnt_append, Go.Sl.cnt_cons, Go.Sl.cnt_nil, List.set_cons_zero, List.set_cons_succ, List.length_nil, List.length_cons, Nat.zero_add, List.append]; omega)) ⟨by rw [hx]; rfl, by rw [hx]; rfl, (by repeat (first | exact True.intro | refine And.intro rfl ?_))⟩
          rintro _ _
          skip
          refine Go.Sl.cw_cut2 (ι := (Unit)) [(0, _), (1, _), (2, _), (7, _), (8, _), (9, _), (10, _), (11, _), (12, _), (15, _), (16, _), (19, _), (60, _), (61, _), (62, _)] ⟨rfl, rfl, rfl, rfl, rfl, rfl, rfl, rfl, rfl, rfl, rfl, rfl, rfl, rfl, rfl, trivial⟩ ((fun _ => [(18, .int .i64 (want0 o.l e p))])) ((fun _ => True)) ((fun _ => [(b15, .cells e.cells.toArray 30 (0, 0))] :: [(b14, .cells (enD.f acts[i]).toArray 35 (0, 0))] :: [(b11, .cells [Value.slice ao2 o.retired.length cap2].toArray 32 (0, 0))] :: cr :: cl :: d :: F)) ?_ ?_
          · refine Go.Sl.cw_seq ?_
            refine Go.Sl.cw_region ?_
            refine Go.Sl.ow_val rfl rfl (Go.Sl.v_move rfl) ?_
            refine Go.Sl.ow_val rfl rfl (Go.Sl.v_fieldAddr0 Ty.fd30_0 rfl) ?_
            refine Go.Sl.ow_val rfl rfl (Go.Sl.v_load rfl (Go.Sl.Var.at1 Ty.sc27 .here (Go.Sl.GetN.lit rfl))) ?_
            refine Go.Sl.ow_val rfl rfl (Go.Sl.v_gtr rfl rfl) ?_
            refine Go.Sl.ow_val rfl rfl (Go.Sl.v_move rfl) ?_
            refine Go.Sl.ow_dec 161 rfl (fun hc161 => ?_) (fun hc161 => ?_)
            refine Go.Sl.ow_skip rfl rfl ?_
            refine Go.Sl.ow_skip rfl rfl ?_
            refine Go.Sl.ow_skip rfl rfl ?_
            refine Go.Sl.ow_skip rfl rfl ?_
            refine Go.Sl.ow_val rfl rfl (Go.Sl.v_pick_true rfl rfl) ?_
            refine Go.Sl.ow_val rfl rfl (Go.Sl.v_move rfl) ?_
            refine Go.Sl.ow_skip rfl rfl ?_
            refine Go.Sl.ow_skip rfl rfl ?_
            refine Go.Sl.ow_skip rfl rfl ?_
            refine Go.Sl.ow_skip rfl rfl ?_
            refine Go.Sl.ow_val rfl rfl (Go.Sl.v_pick_true rfl rfl) ?_
            refine Go.Sl.ow_nil ?_
            refine Go.Sl.xw_then ?_
            refine Go.Sl.cw_true rfl ?_
            refine Go.Sl.cw_region ?_
            refine Go.Sl.ow_val rfl rfl (Go.Sl.v_assign rfl) ?_
            refine Go.Sl.ow_nil ?_
            rotate_left
            refine Go.Sl.ow_val rfl rfl (Go.Sl.v_fieldAddr0 Ty.fd30_1 rfl) ?_
            refine Go.Sl.ow_val rfl rfl (Go.Sl.v_load rfl (Go.Sl.Var.at1 Ty.sc9 .here (Go.Sl.GetN.lit rfl))) ?_
            refine Go.Sl.ow_val rfl rfl (Go.Sl.v_len_str rfl Try.underlying9 rfl) ?_
            refine Go.Sl.ow_val rfl rfl (Go.Sl.v_lss rfl rfl) ?_
            refine Go.Sl.ow_val rfl rfl (Go.Sl.v_pick_false rfl rfl) ?_
            refine Go.Sl.ow_val rfl rfl (Go.Sl.v_move rfl) ?_
            refine Go.Sl.ow_dec 167 rfl (fun hc167 => ?_) (fun hc167 => ?_)
            refine Go.Sl.ow_skip rfl rfl ?_
            refine Go.Sl.ow_skip rfl rfl ?_
            refine Go.Sl.ow_skip rfl rfl ?_
            refine Go.Sl.ow_skip rfl rfl ?_
            refine Go.Sl.ow_val rfl rfl (Go.Sl.v_pick_true rfl rfl) ?_
            refine Go.Sl.ow_nil ?_
            refine Go.Sl.xw_then ?_
            refine Go.Sl.cw_true rfl ?_
            refine Go.Sl.cw_region ?_
            refine Go.Sl.ow_val rfl rfl (Go.Sl.v_assign rfl) ?_
            refine Go.Sl.ow_nil ?_
            rotate_left
            refine Go.Sl.ow_val rfl rfl (Go.Sl.v_fieldAddr0 Ty.fd30_1 rfl) ?_
            refine Go.Sl.ow_val rfl rfl (Go.Sl.v_load rfl (Go.Sl.Var.at1 Ty.sc9 .here (Go.Sl.GetN.lit rfl))) ?_
            refine Go.Sl.ow_val rfl rfl (Go.Sl.v_len_str rfl Try.underlying9 rfl) ?_
            refine Go.Sl.ow_val rfl rfl (Go.Sl.v_gtr rfl rfl) ?_
            refine Go.Sl.ow_val rfl rfl (Go.Sl.v_pick_false rfl rfl) ?_
            refine Go.Sl.ow_nil ?_
            refine Go.Sl.xw_then ?_
            refine Go.Sl.cw_dec rfl (fun hc172 => ?_) (fun hc172 => ?_)
            refine Go.Sl.cw_region ?_
            refine Go.Sl.ow_val rfl rfl (Go.Sl.v_assign rfl) ?_
            refine Go.Sl.ow_nil ?_
            rotate_left
            refine Go.Sl.cw_skip ?_
            rotate_left
            · exact xw_joint () trivial (by first | exact Go.Sl.Cov.refl _ | (intro p; simp only [List.flatten_cons, List.flatten_nil, List.flatten_append, List.append_nil, List.nil_append, Go.Sl.cnt_append, Go.Sl.cnt_cons, Go.Sl.cnt_nil, List.set_cons_zero, List.set_cons_succ, List.length_nil, List.length_cons, Nat.zero_add, List.append]; omega)) ⟨by rw [show want0 o.l e p = 10 from if_pos (by omega)]; rfl, (by repeat (first | exact True.intro | refine And.intro rfl ?_))⟩
            · exact xw_joint () trivial (by first | exact Go.Sl.Cov.refl _ | (intro p; simp only [List.flatten_cons, List.flatten_nil, List.flatten_append, List.append_nil, List.nil_append, Go.Sl.cnt_append, Go.Sl.cnt_cons, Go.Sl.cnt_nil, List.set_cons_zero, List.set_cons_succ, List.length_nil, List.length_cons, Nat.zero_add, List.append]; omega)) ⟨by rw [show want0 o.l e p = 10 from if_pos (by omega)]; rfl, (by repeat (first | exact True.intro | refine And.intro rfl ?_))⟩
            · exact xw_joint () trivial (by first | exact Go.Sl.Cov.refl _ | (intro p; simp only [List.flatten_cons, List.flatten_nil, List.flatten_append, List.append_nil, List.nil_append, Go.Sl.cnt_append, Go.Sl.cnt_cons, Go.Sl.cnt_nil, List.set_cons_zero, List.set_cons_succ, List.length_nil, List.length_cons, Nat.zero_add, List.append]; omega)) ⟨by rw [show want0 o.l e p = 10 from if_pos (by omega)]; rfl, (by repeat (first | exact True.intro | refine And.intro rfl ?_))⟩
            · exact xw_joint () trivial (by first | exact Go.Sl.Cov.refl _ | (intro p; simp only [List.flatten_cons, List.flatten_nil, List.flatten_append, List.append_nil, List.nil_append, Go.Sl.cnt_append, Go.Sl.cnt_cons, Go.Sl.cnt_nil, List.set_cons_zero, List.set_cons_succ, List.length_nil, List.length_cons, Nat.zero_add, List.append]; omega)) ⟨by rw [show want0 o.l e p = _ from if_neg (by omega)]; rfl, (by repeat (first | exact True.intro | refine And.intro rfl ?_))⟩
          rintro _ _
          refine Go.Sl.cw_seq ?_
          refine Go.Sl.cw_region ?_
          refine Go.Sl.ow_val rfl rfl (Go.Sl.v_assign rfl) ?_
          refine Go.Sl.ow_nil ?_
          refine Go.Sl.xw_then ?_
          refine Go.Sl.cw_seq ?_
          refine Go.Sl.cw_region ?_
          (refine Go.Sl.ow_buildL (es := []) rfl rfl Try.underlying32 Ty.em32 (uTy) rfl rfl (by simp [*]) (by simp only [List.length_cons, List.length_nil]; decide) ?_; intro ao173 c173 hL173)
          refine Go.Sl.ow_val rfl rfl (Go.Sl.v_load rfl (Go.Sl.Var.at1 Ty.sc32 (.there (.there (.there .here))) (Go.Sl.GetN.lit rfl))) ?_
          (refine Go.Sl.ow_appendL rfl rfl Try.underlying32 Try.underlying32 Ty.em32 (uTy) rfl rfl (by assumption) (by repeat (first | exact Go.Sl.Sel.here | apply Go.Sl.Sel.there)) ((hR.vw (by repeat (first | exact Go.Sl.Sub.here | assumption | refine Go.Sl.Sub.there ?_)))) (by first | omega | (simp only [List.length_append, List.length_take, List.length_drop, List.length_nil, List.length_cons]; omega)) (by first | omega | (simp only [List.length_append, List.length_take, List.length_drop, List.length_nil, List.length_cons]; omega)) ?_; intro ao175 cap175 c175 hL175)
          (refine Go.Sl.ow_alloc rfl rfl Ty.ze32 ?_; intro b23)
          refine Go.Sl.ow_store1 rfl rfl rfl rfl Ty.sc32 .here (Go.Sl.SetN.one (by first | decide | exact Nat.le_of_ble_eq_true rfl)) ?_
          refine Go.Sl.ow_nil ?_
          refine Go.Sl.xw_then ?_
          refine Go.Sl.cw_cut2 (ι := (Unit)) [(0, _), (1, _), (2, _), (7, _), (8, _), (9, _), (10, _), (11, _), (12, _), (15, _), (16, _), (18, _), (19, _), (22, _), (23, _), (60, _), (61, _), (62, _)] ⟨rfl, rfl, rfl, rfl, rfl, rfl, rfl, rfl, rfl, rfl, rfl, rfl, rfl, rfl, rfl, rfl, rfl, rfl, trivial⟩ ((fun _ => [(24, .func (.func 11) #[] #[.pointer (some ⟨b23, 0, none⟩)])])) ((fun _ => True)) ((fun _ => ([(b23, .cells [Value.slice ao175 o.retired.length cap175].toArray 32 (0, 0))] ++ c175) :: [(b15, .cells e.cells.toArray 30 (0, 0))] :: [(b14, .cells (enD.f acts[i]).toArray 35 (0, 0))] :: [(b11, .cells [Value.slice ao2 o.retired.length cap2].toArray 32 (0, 0))] :: cr :: cl :: d :: F)) ?_ ?_
          · refine Go.Sl.cw_region ?_
            refine Go.Sl.ow_val rfl rfl (Go.Sl.v_makeFunc rfl rfl) ?_
            refine Go.Sl.ow_val rfl rfl (Go.Sl.v_assign rfl) ?_
            refine Go.Sl.ow_nil ?_
            exact xw_joint () trivial (by first | exact Go.Sl.Cov.refl _ | (intro p; simp only [List.flatten_cons, List.flatten_nil, List.flatten_append, List.append_nil, List.nil_append, Go.Sl.cnt_append, Go.Sl.cnt_cons, Go.Sl.cnt_nil, List.set_cons_zero, List.set_cons_succ, List.length_nil, List.length_cons, Nat.zero_add, List.append]; omega)) (by repeat (first | exact True.intro | refine And.intro rfl ?_))
          rintro _ _
          skip
          refine Go.Sl.cw_cut2 (ι := (AO)) [(0, _), (1, _), (2, _), (7, _), (8, _), (9, _), (10, _), (11, _), (12, _), (15, _), (16, _), (23, _), (60, _), (61, _), (62, _)] ⟨rfl, rfl, rfl, rfl, rfl, rfl, rfl, rfl, rfl, rfl, rfl, rfl, rfl, rfl, rfl, trivial⟩ ((fun x => [(18, .int .i64 x.w), (22, .slice x.ao x.kept.length x.cap)])) ((fun x => x.w = (if want0 o.l e p = 0 then (if o.most < (x.kept.length : Int) ∨ 8 < (x.ret.length : Int) then 7 else 0) else want0 o.l e p) ∧ (want0 o.l e p = 0 → x.kept = keep0 p (lawK e (max o.prior p) o.l) ∧ x.ret = ret0 p (lawK e (max o.prior p) o.l) (lawR e (max o.prior p) o.l o.retired)) ∧ x.kept.length ≤ 6 ∧ x.ret.length ≤ 100 ∧ Ls enE 30 (.slice x.ao x.kept.length x.cap) x.ck x.kept ∧ Ls enU 27 (.slice x.ao2 x.ret.length x.cap2) x.cr x.ret)) ((fun x => ([(b23, .cells [Value.slice x.ao2 x.ret.length x.cap2].toArray 32 (0, 0))] ++ x.cr) :: x.ck :: [(b15, .cells e.cells.toArray 30 (0, 0))] :: [(b14, .cells (enD.f acts[i]).toArray 35 (0, 0))] :: [(b11, .cells [Value.slice ao2 o.retired.length cap2].toArray 32 (0, 0))] :: cr :: cl :: d :: F)) ?_ ?_
          · refine Go.Sl.cw_seq ?_
            refine Go.Sl.cw_region ?_
            refine Go.Sl.ow_val rfl rfl (Go.Sl.v_move rfl) ?_
            refine Go.Sl.ow_val rfl rfl (Go.Sl.v_eql rfl rfl) ?_
            refine Go.Sl.ow_nil ?_
            refine Go.Sl.xw_then ?_
            refine Go.Sl.cw_dec rfl (fun hc178 => ?_) (fun hc178 => ?_)
            refine Go.Sl.cw_seq ?_
            refine Go.Sl.cw_region ?_
            refine Go.Sl.ow_val rfl rfl (Go.Sl.v_move rfl) ?_
            refine Go.Sl.ow_val rfl rfl (Go.Sl.v_assign rfl) ?_
            refine Go.Sl.ow_nil ?_
            refine Go.Sl.xw_then ?_
            rotate_left
            refine Go.Sl.cw_skip ?_
            rotate_left
            · obtain ⟨hw1, hw2, hw3⟩ := want0_zero hc178
              have hL175b : Ls enU 27 (.slice ao175 o.retired.length cap175) c175 o.retired := hL175
              have hqe : enU.ok e.seq := ⟨hoe.1, hoe.2.1⟩
              have hpr := hsd.prior
              refine Go.Sl.cw_cut2 (ι := (BO)) [(0, _), (1, _), (2, _), (7, _), (8, _), (9, _), (10, _), (11, _), (12, _), (15, _), (16, _), (18, _), (22, _), (23, _), (24, _), (60, _), (61, _), (62, _)] ⟨rfl, rfl, rfl, rfl, rfl, rfl, rfl, rfl, rfl, rfl, rfl, rfl, rfl, rfl, rfl, rfl, rfl, rfl, trivial⟩ ((fun x => [(25, .bool x.put)])) ((fun x => x.put = ((o.l.any fun x => decide (x = e)) || decide (e.seq < (max o.prior p))) ∧ x.ret = (lawR e (max o.prior p) o.l o.retired) ∧ x.ret.length ≤ 70 ∧ Ls enU 27 (.slice x.ao2 x.ret.length x.cap2) x.cr x.ret)) ((fun x => ([(b23, .cells [Value.slice x.ao2 x.ret.length x.cap2].toArray 32 (0, 0))] ++ x.cr) :: [(b15, .cells e.cells.toArray 30 (0, 0))] :: [(b14, .cells (enD.f acts[i]).toArray 35 (0, 0))] :: [(b11, .cells [Value.slice ao2 o.retired.length cap2].toArray 32 (0, 0))] :: cr :: cl :: d :: F)) ?_ ?_
              ·
                refine Go.Sl.cw_seq ?_
                refine Go.Sl.cw_region ?_
                refine Go.Sl.ow_val rfl rfl (Go.Sl.v_move rfl) ?_
                refine Go.Sl.ow_val rfl rfl (Go.Sl.v_not_bool rfl) ?_
                refine Go.Sl.ow_val rfl rfl (Go.Sl.v_move rfl) ?_
                refine Go.Sl.ow_bool 182 rfl (fun hc182 => ?_) (fun hc182 => ?_)
                refine Go.Sl.ow_val rfl rfl (Go.Sl.v_fieldAddr0 Ty.fd30_0 rfl) ?_
                refine Go.Sl.ow_val rfl rfl (Go.Sl.v_load rfl (Go.Sl.Var.at1 Ty.sc27 (.there .here) (Go.Sl.GetN.lit rfl))) ?_
                refine Go.Sl.ow_val rfl rfl (Go.Sl.v_move rfl) ?_
                refine Go.Sl.ow_val rfl rfl (Go.Sl.v_move rfl) ?_
                refine Go.Sl.ow_val rfl rfl (Go.Sl.v_max rfl rfl) ?_
                refine Go.Sl.ow_val rfl rfl (Go.Sl.v_lss rfl rfl) ?_
                refine Go.Sl.ow_val rfl rfl (Go.Sl.v_pick_true rfl rfl) ?_
                refine Go.Sl.ow_nil ?_
                refine Go.Sl.xw_then ?_
                refine Go.Sl.cw_dec rfl (fun hc189 => ?_) (fun hc189 => ?_)
                refine Go.Sl.cw_seq ?_
                refine Go.Sl.cw_region ?_
                refine Go.Sl.ow_val rfl rfl (Go.Sl.v_move rfl) ?_
                refine Go.Sl.ow_val rfl rfl (Go.Sl.v_fieldAddr0 Ty.fd30_0 rfl) ?_
                refine Go.Sl.ow_val rfl rfl (Go.Sl.v_load rfl (Go.Sl.Var.at1 Ty.sc27 (.there .here) (Go.Sl.GetN.lit rfl))) ?_
                (refine Go.Sl.ow_call rfl rfl rfl rfl (oNote_c (by repeat (first | exact Go.Sl.Sel.here | apply Go.Sl.Sel.there)) hL175b (by omega) hqe) ?_; rintro _ _ ⟨x193, rfl, hq193, rfl⟩)
                refine Go.Sl.ow_nil ?_
                refine Go.Sl.xw_then ?_
                refine Go.Sl.cw_region ?_
                refine Go.Sl.ow_val rfl rfl (Go.Sl.v_assign rfl) ?_
                refine Go.Sl.ow_nil ?_
                rotate_left
                refine Go.Sl.cw_skip ?_
                rotate_left
                refine Go.Sl.ow_skip rfl rfl ?_
                refine Go.Sl.ow_skip rfl rfl ?_
                refine Go.Sl.ow_skip rfl rfl ?_
                refine Go.Sl.ow_skip rfl rfl ?_
                refine Go.Sl.ow_skip rfl rfl ?_
                refine Go.Sl.ow_skip rfl rfl ?_
                refine Go.Sl.ow_val rfl rfl (Go.Sl.v_pick_false rfl rfl) ?_
                refine Go.Sl.ow_nil ?_
                refine Go.Sl.xw_then ?_
                refine Go.Sl.cw_false rfl ?_
                refine Go.Sl.cw_skip ?_
                rotate_left
                · exact xw_joint (⟨true, addR o.retired e.seq, x193.1, x193.2.1, x193.2.2⟩ : BO) ⟨by rw [decide_eq_true hc189, Bool.or_true], by rw [lawR, if_neg (nb1 hc182), if_pos hc189], by have := addR_len o.retired e.seq; dsimp only; omega, hq193⟩ (by first | exact Go.Sl.Cov.refl _ | (intro p; simp only [List.flatten_cons, List.flatten_nil, List.flatten_append, List.append_nil, List.nil_append, Go.Sl.cnt_append, Go.Sl.cnt_cons, Go.Sl.cnt_nil, List.set_cons_zero, List.set_cons_succ, List.length_nil, List.length_cons, Nat.zero_add, List.append]; omega)) (by repeat (first | exact True.intro | refine And.intro rfl ?_))
                · exact xw_joint (⟨o.l.any fun x => decide (x = e), o.retired, ao175, cap175, c175⟩ : BO) ⟨by rw [decide_eq_false hc189, Bool.or_false], by rw [lawR, if_neg (nb1 hc182), if_neg hc189], by dsimp only; omega, hL175b⟩ (by first | exact Go.Sl.Cov.refl _ | (intro p; simp only [List.flatten_cons, List.flatten_nil, List.flatten_append, List.append_nil, List.nil_append, Go.Sl.cnt_append, Go.Sl.cnt_cons, Go.Sl.cnt_nil, List.set_cons_zero, List.set_cons_succ, List.length_nil, List.length_cons, Nat.zero_add, List.append]; omega)) (by repeat (first | exact True.intro | refine And.intro rfl ?_))
                · exact xw_joint (⟨o.l.any fun x => decide (x = e), o.retired, ao175, cap175, c175⟩ : BO) ⟨by rw [nb2 hc182, Bool.true_or], by rw [lawR, if_pos (nb2 hc182)], by dsimp only; omega, hL175b⟩ (by first | exact Go.Sl.Cov.refl _ | (intro p; simp only [List.flatten_cons, List.flatten_nil, List.flatten_append, List.append_nil, List.nil_append, Go.Sl.cnt_append, Go.Sl.cnt_cons, Go.Sl.cnt_nil, List.set_cons_zero, List.set_cons_succ, List.length_nil, List.length_cons, Nat.zero_add, List.append]; omega)) (by repeat (first | exact True.intro | refine And.intro rfl ?_))
              rintro ⟨put, retB, aoB, capB, crB⟩ ⟨hput, hretB, hrbl, hLB⟩
              dsimp only at hput hretB hrbl hLB ⊢
              have hne : put = false → ∀ x ∈ o.l, ¬ x.seq = e.seq := fun hp x hx hs => by
                rw [hp] at hput
                have h1 := (Bool.or_eq_false_iff.1 hput.symm).1
                have h2 := List.any_eq_false.1 h1 x hx
                have h3 := List.any_eq_false.1 hw3 x hx
                exact h3 (clY1 hs (by simpa using h2))
              skip
              refine Go.Sl.cw_cut2 (ι := (LP)) [(0, _), (1, _), (2, _), (7, _), (8, _), (9, _), (10, _), (11, _), (12, _), (15, _), (16, _), (18, _), (23, _), (24, _), (60, _), (61, _), (62, _)] ⟨rfl, rfl, rfl, rfl, rfl, rfl, rfl, rfl, rfl, rfl, rfl, rfl, rfl, rfl, rfl, rfl, rfl, trivial⟩ ((fun x => [(22, .slice x.ao x.l.length x.cap), (25, .bool x.put)])) ((fun x => (x.put, x.l) = pl e put o.l ∧ x.l.length ≤ 5 ∧ Ls enE 30 (.slice x.ao x.l.length x.cap) x.c x.l)) ((fun x => x.c :: ([(b23, .cells [Value.slice aoB retB.length capB].toArray 32 (0, 0))] ++ crB) :: [(b15, .cells e.cells.toArray 30 (0, 0))] :: [(b14, .cells (enD.f acts[i]).toArray 35 (0, 0))] :: [(b11, .cells [Value.slice ao2 o.retired.length cap2].toArray 32 (0, 0))] :: cr :: cl :: d :: F)) ?_ ?_
              ·
                refine Go.Sl.cw_seq ?_
                refine Go.Sl.cw_region ?_
                refine Go.Sl.ow_val rfl rfl (Go.Sl.v_move rfl) ?_
                refine Go.Sl.ow_val rfl rfl (Go.Sl.v_len rfl Try.underlying31 rfl) ?_
                refine Go.Sl.ow_val rfl rfl (Go.Sl.v_move rfl) ?_
                refine Go.Sl.ow_nil ?_
                refine Go.Sl.xw_then ?_
                refine Go.Sl.cw_block ?_
                refine Go.Sl.cw_loop2 (ι := (LP)) [(0, _), (1, _), (2, _), (7, _), (8, _), (9, _), (10, _), (11, _), (12, _), (15, _), (16, _), (18, _), (23, _), (24, _), (60, _), (61, _), (62, _), (194, _), (195, _)] ⟨rfl, rfl, rfl, rfl, rfl, rfl, rfl, rfl, rfl, rfl, rfl, rfl, rfl, rfl, rfl, rfl, rfl, rfl, rfl, trivial⟩ ((fun x => [(22, .slice x.ao x.l.length x.cap), (25, .bool x.put), (196, .int .i64 x.j)])) ((fun x => x.j ≤ o.l.length ∧ (x.put, x.l) = pl e put (o.l.take x.j) ∧ Ls enE 30 (.slice x.ao x.l.length x.cap) x.c x.l)) ((fun x => o.l.length - x.j)) ((fun x => x.c :: ([(b23, .cells [Value.slice aoB retB.length capB].toArray 32 (0, 0))] ++ crB) :: [(b15, .cells e.cells.toArray 30 (0, 0))] :: [(b14, .cells (enD.f acts[i]).toArray 35 (0, 0))] :: [(b11, .cells [Value.slice ao2 o.retired.length cap2].toArray 32 (0, 0))] :: cr :: cl :: d :: F)) ((⟨0, put, [], none, 0, []⟩ : LP)) (by repeat (first | exact True.intro | refine And.intro rfl ?_)) (by first | exact Go.Sl.Cov.refl _ | (intro p; simp only [List.flatten_cons, List.flatten_nil, List.flatten_append, List.append_nil, List.nil_append, Go.Sl.cnt_append, Go.Sl.cnt_cons, Go.Sl.cnt_nil, List.set_cons_zero, List.set_cons_succ, List.length_nil, List.length_cons, Nat.zero_add, List.append]; omega)) ?_ ?_
                · exact ⟨Nat.zero_le _, by unfold pl; cases put <;> rfl, Ls.nil⟩
                rintro ⟨j, pt, lt, aoT, capT, ct⟩ ⟨hj, hpl, hLt⟩
                dsimp only at hj hpl hLt ⊢
                have hltl : lt.length ≤ j + 1 := by
                  have h := pl_len (e := e) (put0 := put) (t := o.l.take j)
                  rw [← hpl] at h
                  simp at h
                  omega
                refine Go.Sl.cw_seq ?_
                refine Go.Sl.cw_region ?_
                refine Go.Sl.ow_val rfl rfl (Go.Sl.v_lss rfl rfl) ?_
                refine Go.Sl.ow_nil ?_
                refine Go.Sl.xw_then ?_
                refine Go.Sl.cw_seq ?_
                refine Go.Sl.cw_dec rfl (fun hc197 => ?_) (fun hc197 => ?_)
                refine Go.Sl.cw_skip ?_
                refine Go.Sl.xw_then ?_
                refine Go.Sl.cw_seq ?_
                refine Go.Sl.cw_block ?_
                refine Go.Sl.cw_seq ?_
                refine Go.Sl.cw_region ?_
                rotate_left
                refine Go.Sl.cw_exit ?_
                refine Go.Sl.xw_then_exit ?_
                refine Go.Sl.xw_round_exit ?_
                refine Go.Sl.xw_block_exit ?_
                rotate_left
                · have hj2 : j < o.l.length := by omega
                  have hokj := hL.ok _ (List.getElem_mem hj2)
                  refine Go.Sl.ow_val rfl rfl (Go.Sl.v_indexAddr_ls Try.underlying31 (eTy) rfl rfl (by assumption) rfl (by omega)) ?_
                  refine Go.Sl.ow_val rfl rfl (Go.Sl.v_load rfl (Go.Sl.Vw.var (eTy) ((hL.vw (by repeat (first | exact Go.Sl.Sub.here | assumption | refine Go.Sl.Sub.there ?_)))) (by omega))) ?_
                  (refine Go.Sl.ow_alloc rfl rfl Ty.ze30 ?_; intro b27)
                  refine Go.Sl.ow_storeE rfl (eTy) rfl rfl .here (by first | rfl | assumption) (by assumption) ?_
                  refine Go.Sl.ow_nil ?_
                  refine Go.Sl.xw_then ?_
                  refine Go.Sl.cw_seq ?_
                  refine Go.Sl.cw_seq ?_
                  refine Go.Sl.cw_region ?_
                  refine Go.Sl.ow_val rfl rfl (Go.Sl.v_move rfl) ?_
                  refine Go.Sl.ow_val rfl rfl (Go.Sl.v_not_bool rfl) ?_
                  refine Go.Sl.ow_val rfl rfl (Go.Sl.v_move rfl) ?_
                  refine Go.Sl.ow_bool 202 rfl (fun hc202 => ?_) (fun hc202 => ?_)
                  refine Go.Sl.ow_val rfl rfl (Go.Sl.v_fieldAddr0 Ty.fd30_0 rfl) ?_
                  refine Go.Sl.ow_val rfl rfl (Go.Sl.v_load rfl (Go.Sl.Var.at1 Ty.sc27 .here (Go.Sl.GetN.lit rfl))) ?_
                  refine Go.Sl.ow_val rfl rfl (Go.Sl.v_fieldAddr0 Ty.fd30_0 rfl) ?_
                  refine Go.Sl.ow_val rfl rfl (Go.Sl.v_load rfl (Go.Sl.Var.at1 Ty.sc27 (.there (.there (.there .here))) (Go.Sl.GetN.lit rfl))) ?_
                  refine Go.Sl.ow_val rfl rfl (Go.Sl.v_gtr rfl rfl) ?_
                  refine Go.Sl.ow_val rfl rfl (Go.Sl.v_pick_true rfl rfl) ?_
                  refine Go.Sl.ow_nil ?_
                  refine Go.Sl.xw_then ?_
                  refine Go.Sl.cw_dec rfl (fun hc208 => ?_) (fun hc208 => ?_)
                  refine Go.Sl.cw_region ?_
                  refine Go.Sl.ow_val rfl rfl (Go.Sl.v_move rfl) ?_
                  refine Go.Sl.ow_val rfl rfl (Go.Sl.v_load rfl (Go.Sl.Var.atN Ty.ag30 (.there (.there (.there .here))) Go.Sl.GetN.all (by first | rfl | assumption))) ?_
                  (refine Go.Sl.ow_buildL (es := [(e)]) rfl rfl Try.underlying31 Ty.em31 (eTy) rfl rfl (by simp [*]) (by simp only [List.length_cons, List.length_nil]; decide) ?_; intro ao211 c211 hL211)
                  (refine Go.Sl.ow_appendL rfl rfl Try.underlying31 Try.underlying31 Ty.em31 (eTy) rfl rfl (by assumption) (by repeat (first | exact Go.Sl.Sel.here | apply Go.Sl.Sel.there)) (Go.Sl.Ls.vw (by assumption) (by repeat (first | exact Go.Sl.Sub.here | assumption | refine Go.Sl.Sub.there ?_))) (by first | omega | (simp only [List.length_append, List.length_take, List.length_drop, List.length_nil, List.length_cons]; omega)) (by first | omega | (simp only [List.length_append, List.length_take, List.length_drop, List.length_nil, List.length_cons]; omega)) ?_; intro ao212 cap212 c212 hL212)
                  refine Go.Sl.ow_val rfl rfl (Go.Sl.v_assign rfl) ?_
                  refine Go.Sl.ow_val rfl rfl (Go.Sl.v_assign rfl) ?_
                  refine Go.Sl.ow_nil ?_
                  refine Go.Sl.xw_then ?_
                  refine Go.Sl.cw_region ?_
                  refine Go.Sl.ow_val rfl rfl (Go.Sl.v_move rfl) ?_
                  refine Go.Sl.ow_val rfl rfl (Go.Sl.v_load rfl (Go.Sl.Var.atE (eTy) (.there .here) (by assumption))) ?_
                  (refine Go.Sl.ow_buildL (es := [(o.l[j])]) rfl rfl Try.underlying31 Ty.em31 (eTy) rfl rfl (by simp [*]) (by simp only [List.length_cons, List.length_nil]; decide) ?_; intro ao215 c215 hL215)
                  (refine Go.Sl.ow_appendL rfl rfl Try.underlying31 Try.underlying31 Ty.em31 (eTy) rfl rfl (by assumption) (by repeat (first | exact Go.Sl.Sel.here | apply Go.Sl.Sel.there)) (Go.Sl.Ls.vw (by assumption) (by repeat (first | exact Go.Sl.Sub.here | assumption | refine Go.Sl.Sub.there ?_))) (by first | omega | (simp only [List.length_append, List.length_take, List.length_drop, List.length_nil, List.length_cons]; omega)) (by first | omega | (simp only [List.length_append, List.length_take, List.length_drop, List.length_nil, List.length_cons]; omega)) ?_; intro ao216 cap216 c216 hL216)
                  refine Go.Sl.ow_val rfl rfl (Go.Sl.v_assign rfl) ?_
                  refine Go.Sl.ow_nil ?_
                  refine Go.Sl.xw_block ?_
                  refine Go.Sl.xw_then ?_
                  refine Go.Sl.cw_region ?_
                  refine Go.Sl.ow_val rfl rfl (Go.Sl.v_add rfl rfl (Go.Sl.nw_i64 (by omega) (by omega))) ?_
                  refine Go.Sl.ow_val rfl rfl (Go.Sl.v_move rfl) ?_
                  refine Go.Sl.ow_nil ?_
                  rotate_left
                  refine Go.Sl.cw_skip ?_
                  refine Go.Sl.xw_then ?_
                  refine Go.Sl.cw_region ?_
                  refine Go.Sl.ow_val rfl rfl (Go.Sl.v_move rfl) ?_
                  refine Go.Sl.ow_val rfl rfl (Go.Sl.v_load rfl (Go.Sl.Var.atE (eTy) .here (by assumption))) ?_
                  (refine Go.Sl.ow_buildL (es := [(o.l[j])]) rfl rfl Try.underlying31 Ty.em31 (eTy) rfl rfl (by simp [*]) (by simp only [List.length_cons, List.length_nil]; decide) ?_; intro ao215 c215 hL215)
                  (refine Go.Sl.ow_appendL rfl rfl Try.underlying31 Try.underlying31 Ty.em31 (eTy) rfl rfl (by assumption) (by repeat (first | exact Go.Sl.Sel.here | apply Go.Sl.Sel.there)) (Go.Sl.Ls.vw (by assumption) (by repeat (first | exact Go.Sl.Sub.here | assumption | refine Go.Sl.Sub.there ?_))) (by first | omega | (simp only [List.length_append, List.length_take, List.length_drop, List.length_nil, List.length_cons]; omega)) (by first | omega | (simp only [List.length_append, List.length_take, List.length_drop, List.length_nil, List.length_cons]; omega)) ?_; intro ao216 cap216 c216 hL216)
                  refine Go.Sl.ow_val rfl rfl (Go.Sl.v_assign rfl) ?_
                  refine Go.Sl.ow_nil ?_
                  refine Go.Sl.xw_block ?_
                  refine Go.Sl.xw_then ?_
                  refine Go.Sl.cw_region ?_
                  refine Go.Sl.ow_val rfl rfl (Go.Sl.v_add rfl rfl (Go.Sl.nw_i64 (by omega) (by omega))) ?_
                  refine Go.Sl.ow_val rfl rfl (Go.Sl.v_move rfl) ?_
                  refine Go.Sl.ow_nil ?_
                  rotate_left
                  refine Go.Sl.ow_skip rfl rfl ?_
                  refine Go.Sl.ow_skip rfl rfl ?_
                  refine Go.Sl.ow_skip rfl rfl ?_
                  refine Go.Sl.ow_skip rfl rfl ?_
                  refine Go.Sl.ow_skip rfl rfl ?_
                  refine Go.Sl.ow_val rfl rfl (Go.Sl.v_pick_false rfl rfl) ?_
                  refine Go.Sl.ow_nil ?_
                  refine Go.Sl.xw_then ?_
                  refine Go.Sl.cw_false rfl ?_
                  refine Go.Sl.cw_skip ?_
                  refine Go.Sl.xw_then ?_
                  refine Go.Sl.cw_region ?_
                  refine Go.Sl.ow_val rfl rfl (Go.Sl.v_move rfl) ?_
                  refine Go.Sl.ow_val rfl rfl (Go.Sl.v_load rfl (Go.Sl.Var.atE (eTy) .here (by assumption))) ?_
                  (refine Go.Sl.ow_buildL (es := [(o.l[j])]) rfl rfl Try.underlying31 Ty.em31 (eTy) rfl rfl (by simp [*]) (by simp only [List.length_cons, List.length_nil]; decide) ?_; intro ao215 c215 hL215)
                  (refine Go.Sl.ow_appendL rfl rfl Try.underlying31 Try.underlying31 Ty.em31 (eTy) rfl rfl (by assumption) (by repeat (first | exact Go.Sl.Sel.here | apply Go.Sl.Sel.there)) (Go.Sl.Ls.vw (by assumption) (by repeat (first | exact Go.Sl.Sub.here | assumption | refine Go.Sl.Sub.there ?_))) (by first | omega | (simp only [List.length_append, List.length_take, List.length_drop, List.length_nil, List.length_cons]; omega)) (by first | omega | (simp only [List.length_append, List.length_take, List.length_drop, List.length_nil, List.length_cons]; omega)) ?_; intro ao216 cap216 c216 hL216)
                  refine Go.Sl.ow_val rfl rfl (Go.Sl.v_assign rfl) ?_
                  refine Go.Sl.ow_nil ?_
                  refine Go.Sl.xw_block ?_
                  refine Go.Sl.xw_then ?_
                  refine Go.Sl.cw_region ?_
                  refine Go.Sl.ow_val rfl rfl (Go.Sl.v_add rfl rfl (Go.Sl.nw_i64 (by omega) (by omega))) ?_
                  refine Go.Sl.ow_val rfl rfl (Go.Sl.v_move rfl) ?_
                  refine Go.Sl.ow_nil ?_
                  rotate_left
                  · have hpn := plY hne hj2 (by rw [← hpl]; simpa using hc202) hc208
                    rw [← hpl] at hpn
                    exact xw_round (⟨j + 1, true, lt ++ [e] ++ [o.l[j]], ao216, cap216, c216⟩ : LP) ⟨by dsimp only; omega, hpn.symm, hL216⟩ (by dsimp only; omega) (by first | exact Go.Sl.Cov.refl _ | (intro p; simp only [List.flatten_cons, List.flatten_nil, List.flatten_append, List.append_nil, List.nil_append, Go.Sl.cnt_append, Go.Sl.cnt_cons, Go.Sl.cnt_nil, List.set_cons_zero, List.set_cons_succ, List.length_nil, List.length_cons, Nat.zero_add, List.append]; omega)) (by repeat (first | exact True.intro | refine And.intro rfl ?_))
                  · have hpn := plN (e := e) (put0 := put) hj2 (.inr hc208)
                    rw [← hpl] at hpn
                    exact xw_round (⟨j + 1, pt, lt ++ [o.l[j]], ao216, cap216, c216⟩ : LP) ⟨by dsimp only; omega, hpn.symm, hL216⟩ (by dsimp only; omega) (by first | exact Go.Sl.Cov.refl _ | (intro p; simp only [List.flatten_cons, List.flatten_nil, List.flatten_append, List.append_nil, List.nil_append, Go.Sl.cnt_append, Go.Sl.cnt_cons, Go.Sl.cnt_nil, List.set_cons_zero, List.set_cons_succ, List.length_nil, List.length_cons, Nat.zero_add, List.append]; omega)) (by repeat (first | exact True.intro | refine And.intro rfl ?_))
                  · have hpn := plN (e := e) (put0 := put) hj2 (.inl (by rw [← hpl]; exact nb2 hc202))
                    rw [← hpl] at hpn
                    exact xw_round (⟨j + 1, pt, lt ++ [o.l[j]], ao216, cap216, c216⟩ : LP) ⟨by dsimp only; omega, hpn.symm, hL216⟩ (by dsimp only; omega) (by first | exact Go.Sl.Cov.refl _ | (intro p; simp only [List.flatten_cons, List.flatten_nil, List.flatten_append, List.append_nil, List.nil_append, Go.Sl.cnt_append, Go.Sl.cnt_cons, Go.Sl.cnt_nil, List.set_cons_zero, List.set_cons_succ, List.length_nil, List.length_cons, Nat.zero_add, List.append]; omega)) (by repeat (first | exact True.intro | refine And.intro rfl ?_))
                · have hx : o.l.take j = o.l := List.take_of_length_le (by omega)
                  rw [hx] at hpl
                  exact xw_joint (⟨0, pt, lt, aoT, capT, ct⟩ : LP) ⟨hpl, by dsimp only; omega, hLt⟩ (by first | exact Go.Sl.Cov.refl _ | (intro p; simp only [List.flatten_cons, List.flatten_nil, List.flatten_append, List.append_nil, List.nil_append, Go.Sl.cnt_append, Go.Sl.cnt_cons, Go.Sl.cnt_nil, List.set_cons_zero, List.set_cons_succ, List.length_nil, List.length_cons, Nat.zero_add, List.append]; omega)) (by repeat (first | exact True.intro | refine And.intro rfl ?_))
              rintro ⟨_, pt, lt, aoT, capT, ct⟩ ⟨hpl, hltl, hLt⟩
              dsimp only at hpl hltl hLt ⊢
              have hend := plEnd (e := e) (g := (max o.prior p)) (l := o.l) rfl hw3
              rw [← hput, ← hpl] at hend
              dsimp only at hend
              skip
              refine Go.Sl.cw_cut2 (ι := ((LI Entry))) [(0, _), (1, _), (2, _), (7, _), (8, _), (9, _), (10, _), (11, _), (12, _), (15, _), (16, _), (18, _), (23, _), (24, _), (60, _), (61, _), (62, _)] ⟨rfl, rfl, rfl, rfl, rfl, rfl, rfl, rfl, rfl, rfl, rfl, rfl, rfl, rfl, rfl, rfl, rfl, trivial⟩ ((fun x => [(22, .slice x.ao x.l.length x.cap)])) ((fun x => x.l = (lawK e (max o.prior p) o.l) ∧ x.l.length ≤ 6 ∧ Ls enE 30 (.slice x.ao x.l.length x.cap) x.c x.l)) ((fun x => x.c :: ([(b23, .cells [Value.slice aoB retB.length capB].toArray 32 (0, 0))] ++ crB) :: [(b15, .cells e.cells.toArray 30 (0, 0))] :: [(b14, .cells (enD.f acts[i]).toArray 35 (0, 0))] :: [(b11, .cells [Value.slice ao2 o.retired.length cap2].toArray 32 (0, 0))] :: cr :: cl :: d :: F)) ?_ ?_
              ·
                refine Go.Sl.cw_seq ?_
                refine Go.Sl.cw_region ?_
                refine Go.Sl.ow_val rfl rfl (Go.Sl.v_move rfl) ?_
                refine Go.Sl.ow_val rfl rfl (Go.Sl.v_not_bool rfl) ?_
                refine Go.Sl.ow_nil ?_
                refine Go.Sl.xw_then ?_
                refine Go.Sl.cw_bool rfl (fun hc219 => ?_) (fun hc219 => ?_)
                refine Go.Sl.cw_region ?_
                refine Go.Sl.ow_val rfl rfl (Go.Sl.v_move rfl) ?_
                refine Go.Sl.ow_val rfl rfl (Go.Sl.v_load rfl (Go.Sl.Var.atN Ty.ag30 (.there (.there .here)) Go.Sl.GetN.all (by first | rfl | assumption))) ?_
                (refine Go.Sl.ow_buildL (es := [(e)]) rfl rfl Try.underlying31 Ty.em31 (eTy) rfl rfl (by simp [*]) (by simp only [List.length_cons, List.length_nil]; decide) ?_; intro ao222 c222 hL222)
                (refine Go.Sl.ow_appendL rfl rfl Try.underlying31 Try.underlying31 Ty.em31 (eTy) rfl rfl (by assumption) (by repeat (first | exact Go.Sl.Sel.here | apply Go.Sl.Sel.there)) (Go.Sl.Ls.vw (by assumption) (by repeat (first | exact Go.Sl.Sub.here | assumption | refine Go.Sl.Sub.there ?_))) (by first | omega | (simp only [List.length_append, List.length_take, List.length_drop, List.length_nil, List.length_cons]; omega)) (by first | omega | (simp only [List.length_append, List.length_take, List.length_drop, List.length_nil, List.length_cons]; omega)) ?_; intro ao223 cap223 c223 hL223)
                refine Go.Sl.ow_val rfl rfl (Go.Sl.v_assign rfl) ?_
                refine Go.Sl.ow_nil ?_
                rotate_left
                refine Go.Sl.cw_skip ?_
                rotate_left
                · rw [if_neg (nb1 hc219)] at hend
                  exact xw_joint (⟨0, lt ++ [e], ao223, cap223, c223⟩ : LI Entry) ⟨hend, by simp; omega, hL223⟩ (by first | exact Go.Sl.Cov.refl _ | (intro p; simp only [List.flatten_cons, List.flatten_nil, List.flatten_append, List.append_nil, List.nil_append, Go.Sl.cnt_append, Go.Sl.cnt_cons, Go.Sl.cnt_nil, List.set_cons_zero, List.set_cons_succ, List.length_nil, List.length_cons, Nat.zero_add, List.append]; omega)) (by repeat (first | exact True.intro | refine And.intro rfl ?_))
                · rw [if_pos (nb2 hc219)] at hend
                  exact xw_joint (⟨0, lt, aoT, capT, ct⟩ : LI Entry) ⟨hend, by dsimp only; omega, hLt⟩ (by first | exact Go.Sl.Cov.refl _ | (intro p; simp only [List.flatten_cons, List.flatten_nil, List.flatten_append, List.append_nil, List.nil_append, Go.Sl.cnt_append, Go.Sl.cnt_cons, Go.Sl.cnt_nil, List.set_cons_zero, List.set_cons_succ, List.length_nil, List.length_cons, Nat.zero_add, List.append]; omega)) (by repeat (first | exact True.intro | refine And.intro rfl ?_))
              rintro ⟨_, L, aoL, capL, cL⟩ ⟨hLl, hLll, hLL⟩
              dsimp only at hLl hLll hLL ⊢
              ·
                have hLl2 : Unit → L = lawK e (max o.prior p) o.l := fun _ => hLl
                clear hLl
                refine Go.Sl.cw_seq ?_
                refine Go.Sl.cw_region ?_
                refine Go.Sl.ow_val rfl rfl (Go.Sl.v_assign rfl) ?_
                refine Go.Sl.ow_nil ?_
                refine Go.Sl.xw_then ?_
                refine Go.Sl.cw_seq ?_
                refine Go.Sl.cw_seq ?_
                refine Go.Sl.cw_region ?_
                refine Go.Sl.ow_val rfl rfl (Go.Sl.v_move rfl) ?_
                refine Go.Sl.ow_val rfl rfl (Go.Sl.v_len rfl Try.underlying31 rfl) ?_
                refine Go.Sl.ow_val rfl rfl (Go.Sl.v_move rfl) ?_
                refine Go.Sl.ow_nil ?_
                refine Go.Sl.xw_then ?_
                refine Go.Sl.cw_block ?_
                refine Go.Sl.cw_loop2 (ι := (AddIx)) [(0, _), (1, _), (2, _), (7, _), (8, _), (9, _), (10, _), (11, _), (12, _), (15, _), (16, _), (18, _), (22, _), (23, _), (24, _), (60, _), (61, _), (62, _), (224, _), (225, _)] ⟨rfl, rfl, rfl, rfl, rfl, rfl, rfl, rfl, rfl, rfl, rfl, rfl, rfl, rfl, rfl, rfl, rfl, rfl, rfl, rfl, trivial⟩ ((fun x => [(28, .slice x.ao x.kept.length x.cap), (226, .int .i64 x.i)])) ((fun x => x.i ≤ L.length ∧ x.kept = keep0 p (L.take x.i) ∧ x.ret = ret0 p (L.take x.i) retB ∧ x.ret.length ≤ 70 + x.i ∧ x.kept.length ≤ x.i ∧ Ls enE 30 (.slice x.ao x.kept.length x.cap) x.ck x.kept ∧ Ls enU 27 (.slice x.ao2 x.ret.length x.cap2) x.cr x.ret)) ((fun x => L.length - x.i)) ((fun x => ([(b23, .cells [Value.slice x.ao2 x.ret.length x.cap2].toArray 32 (0, 0))] ++ x.cr) :: x.ck :: cL :: [(b15, .cells e.cells.toArray 30 (0, 0))] :: [(b14, .cells (enD.f acts[i]).toArray 35 (0, 0))] :: [(b11, .cells [Value.slice ao2 o.retired.length cap2].toArray 32 (0, 0))] :: cr :: cl :: d :: F)) ((⟨0, [], retB, none, 0, [], aoB, capB, crB⟩ : AddIx)) (by repeat (first | exact True.intro | refine And.intro rfl ?_)) (by first | exact Go.Sl.Cov.refl _ | (intro p; simp only [List.flatten_cons, List.flatten_nil, List.flatten_append, List.append_nil, List.nil_append, Go.Sl.cnt_append, Go.Sl.cnt_cons, Go.Sl.cnt_nil, List.set_cons_zero, List.set_cons_succ, List.length_nil, List.length_cons, Nat.zero_add, List.append]; omega)) ?_ ?_
                · exact ⟨Nat.zero_le _, by simp [keep0], by simp [ret0], by dsimp only; omega, by simp, Ls.nil, hLB⟩
                rintro ⟨j, kept, ret, aoK, capK, ck, aoR, capR, crR⟩ ⟨hj, hkept, hret, hrl3, hkl, hLk, hLrr⟩
                dsimp only at hj hkept hret hrl3 hkl hLk hLrr ⊢
                have hrls := addR_len ret
                refine Go.Sl.cw_seq ?_
                refine Go.Sl.cw_region ?_
                refine Go.Sl.ow_val rfl rfl (Go.Sl.v_lss rfl rfl) ?_
                refine Go.Sl.ow_nil ?_
                refine Go.Sl.xw_then ?_
                refine Go.Sl.cw_seq ?_
                refine Go.Sl.cw_dec rfl (fun hc227 => ?_) (fun hc227 => ?_)
                refine Go.Sl.cw_skip ?_
                refine Go.Sl.xw_then ?_
                refine Go.Sl.cw_seq ?_
                refine Go.Sl.cw_block ?_
                refine Go.Sl.cw_seq ?_
                refine Go.Sl.cw_region ?_
                rotate_left
                refine Go.Sl.cw_exit ?_
                refine Go.Sl.xw_then_exit ?_
                refine Go.Sl.xw_round_exit ?_
                refine Go.Sl.xw_block_exit ?_
                refine Go.Sl.xw_then ?_
                rotate_left
                · have hj2 : j < L.length := by omega
                  have hokj := hLL.ok _ (List.getElem_mem hj2)
                  have hq : enU.ok (L[j]).seq := ⟨hokj.1, hokj.2.1⟩
                  have hk0 := keep0_succ (prior := p) hj2
                  have hr0 := ret0_succ (prior := p) (r := retB) hj2
                  rw [← hkept] at hk0
                  rw [← hret] at hr0
                  refine Go.Sl.ow_val rfl rfl (Go.Sl.v_indexAddr_ls Try.underlying31 (eTy) rfl rfl (by assumption) rfl (by omega)) ?_
                  refine Go.Sl.ow_val rfl rfl (Go.Sl.v_load rfl (Go.Sl.Vw.var (eTy) ((hLL.vw (by repeat (first | exact Go.Sl.Sub.here | assumption | refine Go.Sl.Sub.there ?_)))) (by omega))) ?_
                  (refine Go.Sl.ow_alloc rfl rfl Ty.ze30 ?_; intro b30)
                  refine Go.Sl.ow_storeE rfl (eTy) rfl rfl .here (by first | rfl | assumption) (by assumption) ?_
                  refine Go.Sl.ow_nil ?_
                  refine Go.Sl.xw_then ?_
                  refine Go.Sl.cw_seq ?_
                  refine Go.Sl.cw_region ?_
                  refine Go.Sl.ow_val rfl rfl (Go.Sl.v_fieldAddr0 Ty.fd30_0 rfl) ?_
                  refine Go.Sl.ow_val rfl rfl (Go.Sl.v_load rfl (Go.Sl.Var.at1 Ty.sc27 .here (Go.Sl.GetN.lit rfl))) ?_
                  refine Go.Sl.ow_val rfl rfl (Go.Sl.v_move rfl) ?_
                  refine Go.Sl.ow_val rfl rfl (Go.Sl.v_lss rfl rfl) ?_
                  refine Go.Sl.ow_nil ?_
                  refine Go.Sl.xw_then ?_
                  refine Go.Sl.cw_dec rfl (fun hc233 => ?_) (fun hc233 => ?_)
                  refine Go.Sl.cw_region ?_
                  refine Go.Sl.ow_val rfl rfl (Go.Sl.v_move rfl) ?_
                  refine Go.Sl.ow_val rfl rfl (Go.Sl.v_fieldAddr0 Ty.fd30_0 rfl) ?_
                  refine Go.Sl.ow_val rfl rfl (Go.Sl.v_load rfl (Go.Sl.Var.at1 Ty.sc27 .here (Go.Sl.GetN.lit rfl))) ?_
                  (refine Go.Sl.ow_call rfl rfl rfl rfl (oNote_c (by repeat (first | exact Go.Sl.Sel.here | apply Go.Sl.Sel.there)) hLrr (by omega) hq) ?_; rintro _ _ ⟨x237, rfl, hq237, rfl⟩)
                  refine Go.Sl.ow_nil ?_
                  refine Go.Sl.xw_block ?_
                  refine Go.Sl.xw_then ?_
                  refine Go.Sl.cw_region ?_
                  refine Go.Sl.ow_val rfl rfl (Go.Sl.v_add rfl rfl (Go.Sl.nw_i64 (by omega) (by omega))) ?_
                  refine Go.Sl.ow_val rfl rfl (Go.Sl.v_move rfl) ?_
                  refine Go.Sl.ow_nil ?_
                  rotate_left
                  refine Go.Sl.cw_region ?_
                  refine Go.Sl.ow_val rfl rfl (Go.Sl.v_move rfl) ?_
                  refine Go.Sl.ow_val rfl rfl (Go.Sl.v_load rfl (Go.Sl.Var.atE (eTy) .here (by assumption))) ?_
                  (refine Go.Sl.ow_buildL (es := [(L[j])]) rfl rfl Try.underlying31 Ty.em31 (eTy) rfl rfl (by simp [*]) (by simp only [List.length_cons, List.length_nil]; decide) ?_; intro ao240 c240 hL240)
                  (refine Go.Sl.ow_appendL rfl rfl Try.underlying31 Try.underlying31 Ty.em31 (eTy) rfl rfl (by assumption) (by repeat (first | exact Go.Sl.Sel.here | apply Go.Sl.Sel.there)) (Go.Sl.Ls.vw (by assumption) (by repeat (first | exact Go.Sl.Sub.here | assumption | refine Go.Sl.Sub.there ?_))) (by first | omega | (simp only [List.length_append, List.length_take, List.length_drop, List.length_nil, List.length_cons]; omega)) (by first | omega | (simp only [List.length_append, List.length_take, List.length_drop, List.length_nil, List.length_cons]; omega)) ?_; intro ao241 cap241 c241 hL241)
                  refine Go.Sl.ow_val rfl rfl (Go.Sl.v_assign rfl) ?_
                  refine Go.Sl.ow_nil ?_
                  refine Go.Sl.xw_block ?_
                  refine Go.Sl.xw_then ?_
                  refine Go.Sl.cw_region ?_
                  refine Go.Sl.ow_val rfl rfl (Go.Sl.v_add rfl rfl (Go.Sl.nw_i64 (by omega) (by omega))) ?_
                  refine Go.Sl.ow_val rfl rfl (Go.Sl.v_move rfl) ?_
                  refine Go.Sl.ow_nil ?_
                  rotate_left
                  · rw [if_pos hc233] at hk0 hr0
                    exact xw_round (⟨j + 1, kept, addR ret (L[j]).seq, aoK, capK, ck, x237.1, x237.2.1, x237.2.2⟩ : AddIx) ⟨by dsimp only; omega, hk0.symm, hr0.symm, by have := hrls (L[j]).seq; dsimp only; omega, by dsimp only; omega, hLk, hq237⟩ (by dsimp only; omega) (by first | exact Go.Sl.Cov.refl _ | (intro p; simp only [List.flatten_cons, List.flatten_nil, List.flatten_append, List.append_nil, List.nil_append, Go.Sl.cnt_append, Go.Sl.cnt_cons, Go.Sl.cnt_nil, List.set_cons_zero, List.set_cons_succ, List.length_nil, List.length_cons, Nat.zero_add, List.append]; omega)) (by repeat (first | exact True.intro | refine And.intro rfl ?_))
                  · rw [if_neg hc233] at hk0 hr0
                    exact xw_round (⟨j + 1, kept ++ [L[j]], ret, ao241, cap241, c241, aoR, capR, crR⟩ : AddIx) ⟨by dsimp only; omega, hk0.symm, hr0.symm, by dsimp only; omega, by simp; omega, hL241, hLrr⟩ (by dsimp only; omega) (by first | exact Go.Sl.Cov.refl _ | (intro p; simp only [List.flatten_cons, List.flatten_nil, List.flatten_append, List.append_nil, List.nil_append, Go.Sl.cnt_append, Go.Sl.cnt_cons, Go.Sl.cnt_nil, List.set_cons_zero, List.set_cons_succ, List.length_nil, List.length_cons, Nat.zero_add, List.append]; omega)) (by repeat (first | exact True.intro | refine And.intro rfl ?_))
                · have hx : L.take j = L := List.take_of_length_le (by omega)
                  rw [hx] at hkept hret
                  have hkk : want0 o.l e p = 0 → kept = keep0 p (lawK e (max o.prior p) o.l) ∧ ret = ret0 p (lawK e (max o.prior p) o.l) (lawR e (max o.prior p) o.l o.retired) := fun _ => by
                    rw [hkept, hret, hretB, hLl2 ()]
                    exact ⟨rfl, rfl⟩
                  refine Go.Sl.cw_seq ?_
                  refine Go.Sl.cw_region ?_
                  refine Go.Sl.ow_val rfl rfl (Go.Sl.v_move rfl) ?_
                  refine Go.Sl.ow_val rfl rfl (Go.Sl.v_assign rfl) ?_
                  refine Go.Sl.ow_nil ?_
                  refine Go.Sl.xw_then ?_
                  refine Go.Sl.cw_seq ?_
                  refine Go.Sl.cw_region ?_
                  refine Go.Sl.ow_val rfl rfl (Go.Sl.v_move rfl) ?_
                  refine Go.Sl.ow_val rfl rfl (Go.Sl.v_len rfl Try.underlying31 rfl) ?_
                  refine Go.Sl.ow_val rfl rfl (Go.Sl.v_move rfl) ?_
                  refine Go.Sl.ow_val rfl rfl (Go.Sl.v_max rfl rfl) ?_
                  refine Go.Sl.ow_val rfl rfl (Go.Sl.v_min rfl rfl) ?_
                  refine Go.Sl.ow_val rfl rfl (Go.Sl.v_gtr rfl rfl) ?_
                  refine Go.Sl.ow_val rfl rfl (Go.Sl.v_move rfl) ?_
                  refine Go.Sl.ow_dec 250 rfl (fun hc250 => ?_) (fun hc250 => ?_)
                  refine Go.Sl.ow_skip rfl rfl ?_
                  refine Go.Sl.ow_skip rfl rfl ?_
                  refine Go.Sl.ow_skip rfl rfl ?_
                  refine Go.Sl.ow_val rfl rfl (Go.Sl.v_pick_true rfl rfl) ?_
                  refine Go.Sl.ow_nil ?_
                  refine Go.Sl.xw_then ?_
                  refine Go.Sl.cw_true rfl ?_
                  refine Go.Sl.cw_region ?_
                  refine Go.Sl.ow_val rfl rfl (Go.Sl.v_assign rfl) ?_
                  refine Go.Sl.ow_nil ?_
                  rotate_left
                  refine Go.Sl.ow_val rfl rfl (Go.Sl.v_load rfl (Go.Sl.Var.get1 Ty.sc32 .here (.head _) (Go.Sl.GetN.lit rfl))) ?_
                  refine Go.Sl.ow_val rfl rfl (Go.Sl.v_len rfl Try.underlying32 rfl) ?_
                  refine Go.Sl.ow_val rfl rfl (Go.Sl.v_gtr rfl rfl) ?_
                  refine Go.Sl.ow_val rfl rfl (Go.Sl.v_pick_false rfl rfl) ?_
                  refine Go.Sl.ow_nil ?_
                  refine Go.Sl.xw_then ?_
                  refine Go.Sl.cw_dec rfl (fun hc254 => ?_) (fun hc254 => ?_)
                  refine Go.Sl.cw_region ?_
                  refine Go.Sl.ow_val rfl rfl (Go.Sl.v_assign rfl) ?_
                  refine Go.Sl.ow_nil ?_
                  rotate_left
                  refine Go.Sl.cw_skip ?_
                  rotate_left
                  · exact xw_joint (⟨7, kept, ret, aoK, capK, ck, aoR, capR, crR⟩ : AO) ⟨by rw [if_pos hc178, if_pos (.inl (by rw [hmo]; exact hc250))], hkk, by dsimp only; omega, by dsimp only; omega, hLk, hLrr⟩ (by first | exact Go.Sl.Cov.refl _ | (intro p; simp only [List.flatten_cons, List.flatten_nil, List.flatten_append, List.append_nil, List.nil_append, Go.Sl.cnt_append, Go.Sl.cnt_cons, Go.Sl.cnt_nil, List.set_cons_zero, List.set_cons_succ, List.length_nil, List.length_cons, Nat.zero_add, List.append]; omega)) (by repeat (first | exact True.intro | refine And.intro rfl ?_))
                  · exact xw_joint (⟨7, kept, ret, aoK, capK, ck, aoR, capR, crR⟩ : AO) ⟨by rw [if_pos hc178, if_pos (.inr hc254)], hkk, by dsimp only; omega, by dsimp only; omega, hLk, hLrr⟩ (by first | exact Go.Sl.Cov.refl _ | (intro p; simp only [List.flatten_cons, List.flatten_nil, List.flatten_append, List.append_nil, List.nil_append, Go.Sl.cnt_append, Go.Sl.cnt_cons, Go.Sl.cnt_nil, List.set_cons_zero, List.set_cons_succ, List.length_nil, List.length_cons, Nat.zero_add, List.append]; omega)) (by repeat (first | exact True.intro | refine And.intro rfl ?_))
                  · exact xw_joint (⟨want0 o.l e p, kept, ret, aoK, capK, ck, aoR, capR, crR⟩ : AO) ⟨by rw [if_pos hc178, if_neg (fun h => h.elim (by rw [hmo]; exact hc250) hc254)]; exact hc178, hkk, by dsimp only; omega, by dsimp only; omega, hLk, hLrr⟩ (by first | exact Go.Sl.Cov.refl _ | (intro p; simp only [List.flatten_cons, List.flatten_nil, List.flatten_append, List.append_nil, List.nil_append, Go.Sl.cnt_append, Go.Sl.cnt_cons, Go.Sl.cnt_nil, List.set_cons_zero, List.set_cons_succ, List.length_nil, List.length_cons, Nat.zero_add, List.append]; omega)) (by repeat (first | exact True.intro | refine And.intro rfl ?_))
            · have hL175b : Ls enU 27 (.slice ao175 o.retired.length cap175) c175 o.retired := hL175
              exact xw_joint (⟨want0 o.l e p, [], o.retired, none, 0, [], ao175, cap175, c175⟩ : AO) ⟨by rw [if_neg hc178], fun h => absurd h hc178, by simp, by dsimp only; omega, Ls.nil, hL175b⟩ (by first | exact Go.Sl.Cov.refl _ | (intro p; simp only [List.flatten_cons, List.flatten_nil, List.flatten_append, List.append_nil, List.nil_append, Go.Sl.cnt_append, Go.Sl.cnt_cons, Go.Sl.cnt_nil, List.set_cons_zero, List.set_cons_succ, List.length_nil, List.length_cons, Nat.zero_add, List.append]; omega)) (by repeat (first | exact True.intro | refine And.intro rfl ?_))
          rintro ⟨w, kept, ret, aoK, capK, ck, aoR, capR, crR⟩ ⟨hw, hkr, hkl, hrl2, hLk, hLr⟩
          dsimp only at hw hkr hkl hrl2 hLk hLr ⊢
          have hla := lawAdd hsd hoe ⟨hp1, hp2⟩ hw hkr
          have hadd : ∀ {G : List Hp} {R : Hp → List Hp}, Sel G d R → Go.Sl.Fn Try.prog 12 #[.pointer (some ⟨x55.1, 0, none⟩), enE.val e, .int .u64 p] B w0 G fun u G' => ∃ c' : Hp, u = .int .i64 (o.add e p).2 ∧ OtherAt (o.add e p).1 x55.1 c' ∧ G' = R c' := fun hsel => add_c hsel hO hwo hoe ⟨hp1, hp2⟩
          rcases hla with ⟨hw1, ha⟩ | ⟨hw1, now, ha, hsd2, hnow⟩
          · simp only [ha] at hadd
            refine Go.Sl.cw_seq ?_
            refine Go.Sl.cw_seq ?_
            refine Go.Sl.cw_region ?_
            refine Go.Sl.ow_val rfl rfl (Go.Sl.v_move rfl) ?_
            refine Go.Sl.ow_val rfl rfl (Go.Sl.v_load rfl (Go.Sl.Var.atN Ty.ag30 (.there (.there .here)) Go.Sl.GetN.all (by first | rfl | assumption))) ?_
            refine Go.Sl.ow_val rfl rfl (Go.Sl.v_move rfl) ?_
            (refine Go.Sl.ow_call rfl rfl rfl rfl (hadd (by repeat (first | exact Go.Sl.Sel.here | apply Go.Sl.Sel.there))) ?_; rintro _ _ ⟨x258, rfl, hq258, rfl⟩)
            refine Go.Sl.ow_val rfl rfl (Go.Sl.v_move rfl) ?_
            refine Go.Sl.ow_val rfl rfl (Go.Sl.v_neq rfl rfl) ?_
            refine Go.Sl.ow_nil ?_
            refine Go.Sl.xw_then ?_
            refine Go.Sl.cw_dec rfl (fun hc260 => ?_) (fun hc260 => ?_)
            (exfalso; omega)
            refine Go.Sl.cw_skip ?_
            refine Go.Sl.xw_then ?_
            refine Go.Sl.cw_seq ?_
            refine Go.Sl.cw_region ?_
            refine Go.Sl.ow_val rfl rfl (Go.Sl.v_move rfl) ?_
            refine Go.Sl.ow_val rfl rfl (Go.Sl.v_eql rfl rfl) ?_
            refine Go.Sl.ow_nil ?_
            refine Go.Sl.xw_then ?_
            refine Go.Sl.cw_dec rfl (fun hc262 => ?_) (fun hc262 => ?_)
            (exfalso; omega)
            refine Go.Sl.cw_skip ?_
            refine Go.Sl.xw_block ?_
            exact xw_joint (⟨i + 1, o, x258, ao, cap, cl, ao2, cap2, cr⟩ : Ox) ⟨rfl, hmo, ⟨hq258, hsd.later, hL, hR⟩⟩ (by first | exact Go.Sl.Cov.refl _ | (intro p; simp only [List.flatten_cons, List.flatten_nil, List.flatten_append, List.append_nil, List.nil_append, Go.Sl.cnt_append, Go.Sl.cnt_cons, Go.Sl.cnt_nil, List.set_cons_zero, List.set_cons_succ, List.length_nil, List.length_cons, Nat.zero_add, List.append]; omega)) (by repeat (first | exact True.intro | refine And.intro rfl ?_))
          · simp only [ha] at hadd
            subst hw1
            have hcap := capLe hLk
            refine Go.Sl.cw_seq ?_
            refine Go.Sl.cw_seq ?_
            refine Go.Sl.cw_region ?_
            refine Go.Sl.ow_val rfl rfl (Go.Sl.v_move rfl) ?_
            refine Go.Sl.ow_val rfl rfl (Go.Sl.v_load rfl (Go.Sl.Var.atN Ty.ag30 (.there (.there .here)) Go.Sl.GetN.all (by first | rfl | assumption))) ?_
            refine Go.Sl.ow_val rfl rfl (Go.Sl.v_move rfl) ?_
            (refine Go.Sl.ow_call rfl rfl rfl rfl (hadd (by repeat (first | exact Go.Sl.Sel.here | apply Go.Sl.Sel.there))) ?_; rintro _ _ ⟨x258, rfl, hq258, rfl⟩)
            refine Go.Sl.ow_val rfl rfl (Go.Sl.v_move rfl) ?_
            refine Go.Sl.ow_val rfl rfl (Go.Sl.v_neq rfl rfl) ?_
            refine Go.Sl.ow_nil ?_
            refine Go.Sl.xw_then ?_
            refine Go.Sl.cw_false rfl ?_
            refine Go.Sl.cw_skip ?_
            refine Go.Sl.xw_then ?_
            refine Go.Sl.cw_seq ?_
            refine Go.Sl.cw_region ?_
            refine Go.Sl.ow_val rfl rfl (Go.Sl.v_move rfl) ?_
            refine Go.Sl.ow_val rfl rfl (Go.Sl.v_eql rfl rfl) ?_
            refine Go.Sl.ow_nil ?_
            refine Go.Sl.xw_then ?_
            refine Go.Sl.cw_true rfl ?_
            refine Go.Sl.cw_seq ?_
            refine Go.Sl.cw_mix [] [6, 7] [0, 1, 2, 3, 4, 5] Ty.mixed rfl rfl rfl rfl (by decide +kernel) ?_
            refine Go.Sl.hw_pure rfl rfl (Go.Sl.v_move rfl) rfl ?_
            refine Go.Sl.hw_read rfl rfl rfl (Go.Sl.v_load rfl (Go.Sl.Var.get1 Ty.sc32 .here (.head _) (Go.Sl.GetN.lit rfl))) ?_
            refine Go.Sl.hw_pure rfl rfl (Go.Sl.v_move rfl) rfl ?_
            refine Go.Sl.hw_pure rfl rfl (Go.Sl.v_move rfl) rfl ?_
            refine Go.Sl.hw_pure rfl rfl (Go.Sl.v_max rfl rfl) rfl ?_
            refine Go.Sl.hw_pure rfl rfl (Go.Sl.v_assign rfl) rfl ?_
            refine Go.Sl.hw_nil ?_
            refine Go.Sl.sw_nil ?_
            refine Go.Sl.ow_store1 rfl rfl rfl rfl Ty.sc32 (.there (.there (.there (.there .here)))) (Go.Sl.SetN.one (by first | decide | exact Nat.le_of_ble_eq_true rfl)) ?_
            refine Go.Sl.ow_val rfl rfl (Go.Sl.v_assign rfl) ?_
            refine Go.Sl.ow_nil ?_
            refine Go.Sl.xw_np ?_
            refine Go.Sl.xw_then ?_
            refine Go.Sl.cw_seq ?_
            refine Go.Sl.cw_region ?_
            refine Go.Sl.ow_val rfl rfl (Go.Sl.v_move rfl) ?_
            refine Go.Sl.ow_val rfl rfl (Go.Sl.v_move rfl) ?_
            refine Go.Sl.ow_val rfl rfl (Go.Sl.v_lss rfl rfl) ?_
            refine Go.Sl.ow_val rfl rfl (Go.Sl.v_move rfl) ?_
            refine Go.Sl.ow_dec 271 rfl (fun hc271 => ?_) (fun hc271 => ?_)
            refine Go.Sl.ow_val rfl rfl (Go.Sl.v_move rfl) ?_
            refine Go.Sl.ow_val rfl rfl (Go.Sl.v_len rfl Try.underlying31 rfl) ?_
            refine Go.Sl.ow_val rfl rfl (Go.Sl.v_gtr rfl rfl) ?_
            refine Go.Sl.ow_val rfl rfl (Go.Sl.v_pick_true rfl rfl) ?_
            refine Go.Sl.ow_nil ?_
            refine Go.Sl.xw_then ?_
            refine Go.Sl.cw_dec rfl (fun hc275 => ?_) (fun hc275 => ?_)
            refine Go.Sl.cw_region ?_
            refine Go.Sl.ow_val rfl rfl (Go.Sl.v_move rfl) ?_
            refine Go.Sl.ow_val rfl rfl (Go.Sl.v_indexAddr_ls (i := 0) Try.underlying31 (eTy) rfl rfl (by assumption) rfl (by omega)) ?_
            refine Go.Sl.ow_val rfl rfl (Go.Sl.v_fieldAddr Ty.fd30_0 rfl) ?_
            refine Go.Sl.ow_val rfl rfl (Go.Sl.v_load rfl (Go.Sl.Vw.fld1 (eTy) Ty.sc27 ((hLk.vw (by repeat (first | exact Go.Sl.Sub.here | assumption | refine Go.Sl.Sub.there ?_)))) (by omega) rfl)) ?_
            refine Go.Sl.ow_val rfl rfl (Go.Sl.v_assign rfl) ?_
            refine Go.Sl.ow_nil ?_
            refine Go.Sl.xw_block ?_
            rotate_left
            refine Go.Sl.cw_skip ?_
            refine Go.Sl.xw_block ?_
            rotate_left
            refine Go.Sl.ow_skip rfl rfl ?_
            refine Go.Sl.ow_skip rfl rfl ?_
            refine Go.Sl.ow_skip rfl rfl ?_
            refine Go.Sl.ow_val rfl rfl (Go.Sl.v_pick_false rfl rfl) ?_
            refine Go.Sl.ow_nil ?_
            refine Go.Sl.xw_then ?_
            refine Go.Sl.cw_false rfl ?_
            refine Go.Sl.cw_skip ?_
            refine Go.Sl.xw_block ?_
            rotate_left
            · rw [if_pos ⟨hc271, hc275⟩, getElem!_pos kept 0 (by omega)] at hnow
              exact xw_joint (⟨i + 1, ⟨o.most, kept, now, max o.prior p, ret⟩, x258, aoK, capK, ck, aoR, capR, crR⟩ : Ox) ⟨rfl, hmo, ⟨hq258, hsd2, hLk, hLr⟩⟩ (by first | exact Go.Sl.Cov.refl _ | (intro p; simp only [List.flatten_cons, List.flatten_nil, List.flatten_append, List.append_nil, List.nil_append, Go.Sl.cnt_append, Go.Sl.cnt_cons, Go.Sl.cnt_nil, List.set_cons_zero, List.set_cons_succ, List.length_nil, List.length_cons, Nat.zero_add, List.append]; omega)) ⟨rfl, by rw [hnow]; rfl, (by repeat (first | exact True.intro | refine And.intro rfl ?_))⟩
            · rw [if_neg (fun h => hc275 h.2)] at hnow
              exact xw_joint (⟨i + 1, ⟨o.most, kept, now, max o.prior p, ret⟩, x258, aoK, capK, ck, aoR, capR, crR⟩ : Ox) ⟨rfl, hmo, ⟨hq258, hsd2, hLk, hLr⟩⟩ (by first | exact Go.Sl.Cov.refl _ | (intro p; simp only [List.flatten_cons, List.flatten_nil, List.flatten_append, List.append_nil, List.nil_append, Go.Sl.cnt_append, Go.Sl.cnt_cons, Go.Sl.cnt_nil, List.set_cons_zero, List.set_cons_succ, List.length_nil, List.length_cons, Nat.zero_add, List.append]; omega)) ⟨rfl, by rw [hnow]; rfl, (by repeat (first | exact True.intro | refine And.intro rfl ?_))⟩
            · rw [if_neg (fun h => hc271 h.1)] at hnow
              exact xw_joint (⟨i + 1, ⟨o.most, kept, now, max o.prior p, ret⟩, x258, aoK, capK, ck, aoR, capR, crR⟩ : Ox) ⟨rfl, hmo, ⟨hq258, hsd2, hLk, hLr⟩⟩ (by first | exact Go.Sl.Cov.refl _ | (intro p; simp only [List.flatten_cons, List.flatten_nil, List.flatten_append, List.append_nil, List.nil_append, Go.Sl.cnt_append, Go.Sl.cnt_cons, Go.Sl.cnt_nil, List.set_cons_zero, List.set_cons_succ, List.length_nil, List.length_cons, Nat.zero_add, List.append]; omega)) ⟨rfl, by rw [hnow]; rfl, (by repeat (first | exact True.intro | refine And.intro rfl ?_))⟩
        ·
          refine Go.Sl.cw_seq ?_
          refine Go.Sl.cw_region ?_
          refine Go.Sl.ow_val rfl rfl (Go.Sl.v_assign rfl) ?_
          refine Go.Sl.ow_nil ?_
          refine Go.Sl.xw_then ?_
          refine Go.Sl.cw_seq ?_
          refine Go.Sl.cw_seq ?_
          refine Go.Sl.cw_region ?_
          refine Go.Sl.ow_val rfl rfl (Go.Sl.v_move rfl) ?_
          refine Go.Sl.ow_val rfl rfl (Go.Sl.v_len rfl Try.underlying31 rfl) ?_
          refine Go.Sl.ow_val rfl rfl (Go.Sl.v_sub rfl rfl (Go.Sl.nw_i64 (by omega) (by omega))) ?_
          refine Go.Sl.ow_val rfl rfl (Go.Sl.v_assign rfl) ?_
          refine Go.Sl.ow_nil ?_
          refine Go.Sl.xw_then ?_
          refine Go.Sl.cw_block ?_
          refine Go.Sl.cw_loop2 (ι := ((Nat × Int))) [(0, _), (1, _), (2, _), (7, _), (8, _), (9, _), (10, _), (11, _), (12, _), (60, _), (61, _), (62, _)] ⟨rfl, rfl, rfl, rfl, rfl, rfl, rfl, rfl, rfl, rfl, rfl, rfl, trivial⟩ ((fun x => [(31, .int .i64 x.2), (32, .int .i64 ((x.1 : Int) - 1))])) ((fun x => x.1 ≤ o.l.length ∧ SwAt o.now o.l x.1 x.2)) ((fun x => x.1)) ((fun x => [(b15, .cells e.cells.toArray 30 (0, 0))] :: [(b14, .cells (enD.f acts[i]).toArray 35 (0, 0))] :: [(b11, .cells [Value.slice ao2 o.retired.length cap2].toArray 32 (0, 0))] :: cr :: cl :: d :: F)) (((o.l.length, -1) : Nat × Int)) (by repeat (first | exact True.intro | refine And.intro rfl ?_)) (by first | exact Go.Sl.Cov.refl _ | (intro p; simp only [List.flatten_cons, List.flatten_nil, List.flatten_append, List.append_nil, List.nil_append, Go.Sl.cnt_append, Go.Sl.cnt_cons, Go.Sl.cnt_nil, List.set_cons_zero, List.set_cons_succ, List.length_nil, List.length_cons, Nat.zero_add, List.append]; omega)) ?_ ?_
          · exact ⟨Nat.le_refl _, .inl ⟨rfl, fun j h1 h2 => absurd h1 (by omega)⟩⟩
          rintro ⟨k, a⟩ ⟨hk, hsw⟩
          dsimp only at hk hsw ⊢
          refine Go.Sl.cw_seq ?_
          refine Go.Sl.cw_seq ?_
          refine Go.Sl.cw_region ?_
          refine Go.Sl.ow_val rfl rfl (Go.Sl.v_move rfl) ?_
          refine Go.Sl.ow_val rfl rfl (Go.Sl.v_geq rfl rfl) ?_
          refine Go.Sl.ow_nil ?_
          refine Go.Sl.xw_then ?_
          refine Go.Sl.cw_dec rfl (fun hc287 => ?_) (fun hc287 => ?_)
          refine Go.Sl.cw_skip ?_
          refine Go.Sl.xw_then ?_
          refine Go.Sl.cw_seq ?_
          refine Go.Sl.cw_block ?_
          refine Go.Sl.cw_seq ?_
          refine Go.Sl.cw_region ?_
          refine Go.Sl.ow_val rfl rfl (Go.Sl.v_move rfl) ?_
          refine Go.Sl.ow_val rfl rfl (Go.Sl.v_move rfl) ?_
          rotate_left
          refine Go.Sl.cw_exit ?_
          refine Go.Sl.xw_then_exit ?_
          refine Go.Sl.xw_round_exit ?_
          refine Go.Sl.xw_block_exit ?_
          refine Go.Sl.xw_then ?_
          refine Go.Sl.cw_seq ?_
          refine Go.Sl.cw_seq ?_
          refine Go.Sl.cw_region ?_
          refine Go.Sl.ow_val rfl rfl (Go.Sl.v_move rfl) ?_
          rotate_left
          · obtain ⟨k, rfl⟩ : ∃ k' : Nat, k = k' + 1 := ⟨k - 1, by omega⟩
            have hk2 : k < o.l.length := by omega
            have hkk : ((k + 1 : Nat) : Int) - 1 = (k : Int) := by omega
            have hokk := hL.ok _ (List.getElem_mem hk2)
            rw [hkk]
            refine Go.Sl.ow_val rfl rfl (Go.Sl.v_indexAddr_ls Try.underlying31 (eTy) rfl rfl (by assumption) rfl (by omega)) ?_
            refine Go.Sl.ow_val rfl rfl (Go.Sl.v_fieldAddr Ty.fd30_0 rfl) ?_
            refine Go.Sl.ow_val rfl rfl (Go.Sl.v_load rfl (Go.Sl.Vw.fld1 (eTy) Ty.sc27 ((hL.vw (by repeat (first | exact Go.Sl.Sub.here | assumption | refine Go.Sl.Sub.there ?_)))) (by omega) rfl)) ?_
            refine Go.Sl.ow_val rfl rfl (Go.Sl.v_move rfl) ?_
            refine Go.Sl.ow_val rfl rfl (Go.Sl.v_gtr rfl rfl) ?_
            refine Go.Sl.ow_nil ?_
            refine Go.Sl.xw_then ?_
            refine Go.Sl.cw_dec rfl (fun hc296 => ?_) (fun hc296 => ?_)
            refine Go.Sl.cw_region ?_
            refine Go.Sl.ow_val rfl rfl (Go.Sl.v_move rfl) ?_
            refine Go.Sl.ow_val rfl rfl (Go.Sl.v_assign rfl) ?_
            refine Go.Sl.ow_nil ?_
            refine Go.Sl.xw_block ?_
            refine Go.Sl.xw_then ?_
            refine Go.Sl.cw_region ?_
            refine Go.Sl.ow_val rfl rfl (Go.Sl.v_move rfl) ?_
            refine Go.Sl.ow_val rfl rfl (Go.Sl.v_sub rfl rfl (Go.Sl.nw_i64 (by omega) (by omega))) ?_
            refine Go.Sl.ow_val rfl rfl (Go.Sl.v_assign rfl) ?_
            refine Go.Sl.ow_nil ?_
            rotate_left
            refine Go.Sl.cw_skip ?_
            refine Go.Sl.xw_block ?_
            refine Go.Sl.xw_then ?_
            refine Go.Sl.cw_region ?_
            refine Go.Sl.ow_val rfl rfl (Go.Sl.v_move rfl) ?_
            refine Go.Sl.ow_val rfl rfl (Go.Sl.v_sub rfl rfl (Go.Sl.nw_i64 (by omega) (by omega))) ?_
            refine Go.Sl.ow_val rfl rfl (Go.Sl.v_assign rfl) ?_
            refine Go.Sl.ow_nil ?_
            rotate_left
            · exact xw_round ((k, (k : Int)) : Nat × Int) ⟨by omega, SwAt.yes hk2 hc296⟩ (by dsimp only; omega) (by first | exact Go.Sl.Cov.refl _ | (intro p; simp only [List.flatten_cons, List.flatten_nil, List.flatten_append, List.append_nil, List.nil_append, Go.Sl.cnt_append, Go.Sl.cnt_cons, Go.Sl.cnt_nil, List.set_cons_zero, List.set_cons_succ, List.length_nil, List.length_cons, Nat.zero_add, List.append]; omega)) (by repeat (first | exact True.intro | refine And.intro rfl ?_))
            · exact xw_round ((k, a) : Nat × Int) ⟨by omega, SwAt.no hk2 hc296 hsw⟩ (by dsimp only; omega) (by first | exact Go.Sl.Cov.refl _ | (intro p; simp only [List.flatten_cons, List.flatten_nil, List.flatten_append, List.append_nil, List.nil_append, Go.Sl.cnt_append, Go.Sl.cnt_cons, Go.Sl.cnt_nil, List.set_cons_zero, List.set_cons_succ, List.length_nil, List.length_cons, Nat.zero_add, List.append]; omega)) (by repeat (first | exact True.intro | refine And.intro rfl ?_))
          · obtain rfl : k = 0 := by omega
            rcases hsw with ⟨rfl, hno⟩ | ⟨n, hn, rfl, _, hgt, hno⟩
            · have hsw := hsd.switchNo fun j hj => hno j hj (by omega)
              have hswc : ∀ {G : List Hp} {R : Hp → List Hp}, Sel G d R → Go.Sl.Fn Try.prog 13 #[.pointer (some ⟨x55.1, 0, none⟩)] B w0 G fun u G' => ∃ c' : Hp, u = .bool false ∧ OtherAt o x55.1 c' ∧ G' = R c' := fun hsel => by
                have h := switch_c (B := B) (w0 := w0) hsel hO hwo
                rw [hsw] at h
                exact h
              (refine Go.Sl.ow_call rfl rfl rfl rfl (hswc (by repeat (first | exact Go.Sl.Sel.here | apply Go.Sl.Sel.there))) ?_; rintro _ _ ⟨x299, rfl, hq299, rfl⟩)
              refine Go.Sl.ow_val rfl rfl (Go.Sl.v_move rfl) ?_
              refine Go.Sl.ow_val rfl rfl (Go.Sl.v_geq rfl rfl) ?_
              refine Go.Sl.ow_val rfl rfl (Go.Sl.v_neqB Try.underlying4 rfl rfl) ?_
              refine Go.Sl.ow_nil ?_
              refine Go.Sl.xw_then ?_
              refine Go.Sl.cw_false rfl ?_
              refine Go.Sl.cw_skip ?_
              refine Go.Sl.xw_then ?_
              refine Go.Sl.cw_seq ?_
              refine Go.Sl.cw_region ?_
              refine Go.Sl.ow_val rfl rfl (Go.Sl.v_move rfl) ?_
              refine Go.Sl.ow_val rfl rfl (Go.Sl.v_geq rfl rfl) ?_
              refine Go.Sl.ow_nil ?_
              refine Go.Sl.xw_then ?_
              refine Go.Sl.cw_false rfl ?_
              refine Go.Sl.cw_skip ?_
              refine Go.Sl.xw_block ?_
              exact xw_joint (⟨i + 1, o, x299, ao, cap, cl, ao2, cap2, cr⟩ : Ox) ⟨rfl, hmo, ⟨hq299, hsd.later, hL, hR⟩⟩ (by first | exact Go.Sl.Cov.refl _ | (intro p; simp only [List.flatten_cons, List.flatten_nil, List.flatten_append, List.append_nil, List.nil_append, Go.Sl.cnt_append, Go.Sl.cnt_cons, Go.Sl.cnt_nil, List.set_cons_zero, List.set_cons_succ, List.length_nil, List.length_cons, Nat.zero_add, List.append]; omega)) (by repeat (first | exact True.intro | refine And.intro rfl ?_))
            · obtain ⟨hs1, hs2⟩ := hsd.switchYes hn hgt (fun j hj hji => hno j hj (Nat.zero_le _) hji)
              have hswc : ∀ {G : List Hp} {R : Hp → List Hp}, Sel G d R → Go.Sl.Fn Try.prog 13 #[.pointer (some ⟨x55.1, 0, none⟩)] B w0 G fun u G' => ∃ c' : Hp, u = .bool true ∧ OtherAt ⟨o.most, o.l.filter (fun e => decide (e.seq ≠ o.now)), o.l[n].seq, o.prior, o.retired ++ [o.now]⟩ x55.1 c' ∧ G' = R c' := fun hsel => by
                have h := switch_c (B := B) (w0 := w0) hsel hO hwo
                rw [hs1] at h
                exact h
              have hokn := hL.ok _ (List.getElem_mem hn)
              have hqn : enU.ok o.now := hwo.now
              (refine Go.Sl.ow_call rfl rfl rfl rfl (hswc (by repeat (first | exact Go.Sl.Sel.here | apply Go.Sl.Sel.there))) ?_; rintro _ _ ⟨x299, rfl, hq299, rfl⟩)
              refine Go.Sl.ow_val rfl rfl (Go.Sl.v_move rfl) ?_
              refine Go.Sl.ow_val rfl rfl (Go.Sl.v_geq rfl rfl) ?_
              refine Go.Sl.ow_val rfl rfl (Go.Sl.v_neqB Try.underlying4 rfl rfl) ?_
              refine Go.Sl.ow_nil ?_
              refine Go.Sl.xw_then ?_
              refine Go.Sl.cw_false rfl ?_
              refine Go.Sl.cw_skip ?_
              refine Go.Sl.xw_then ?_
              refine Go.Sl.cw_seq ?_
              refine Go.Sl.cw_region ?_
              refine Go.Sl.ow_val rfl rfl (Go.Sl.v_move rfl) ?_
              refine Go.Sl.ow_val rfl rfl (Go.Sl.v_geq rfl rfl) ?_
              refine Go.Sl.ow_nil ?_
              refine Go.Sl.xw_then ?_
              refine Go.Sl.cw_true rfl ?_
              refine Go.Sl.cw_seq ?_
              refine Go.Sl.cw_region ?_
              refine Go.Sl.ow_val rfl rfl (Go.Sl.v_move rfl) ?_
              refine Go.Sl.ow_val rfl rfl (Go.Sl.v_assign rfl) ?_
              refine Go.Sl.ow_nil ?_
              refine Go.Sl.xw_then ?_
              refine Go.Sl.cw_seq ?_
              refine Go.Sl.cw_region ?_
              refine Go.Sl.ow_val rfl rfl (Go.Sl.v_move rfl) ?_
              refine Go.Sl.ow_val rfl rfl (Go.Sl.v_move rfl) ?_
              refine Go.Sl.ow_val rfl rfl (Go.Sl.v_indexAddr_ls Try.underlying31 (eTy) rfl rfl (by assumption) rfl (by omega)) ?_
              refine Go.Sl.ow_val rfl rfl (Go.Sl.v_fieldAddr Ty.fd30_0 rfl) ?_
              refine Go.Sl.ow_val rfl rfl (Go.Sl.v_load rfl (Go.Sl.Vw.fld1 (eTy) Ty.sc27 ((hL.vw (by repeat (first | exact Go.Sl.Sub.here | assumption | refine Go.Sl.Sub.there ?_)))) (by omega) rfl)) ?_
              refine Go.Sl.ow_val rfl rfl (Go.Sl.v_assign rfl) ?_
              refine Go.Sl.ow_nil ?_
              refine Go.Sl.xw_then ?_
              refine Go.Sl.cw_seq ?_
              refine Go.Sl.cw_region ?_
              refine Go.Sl.ow_val rfl rfl (Go.Sl.v_assign rfl) ?_
              refine Go.Sl.ow_nil ?_
              refine Go.Sl.xw_then ?_
              refine Go.Sl.cw_seq ?_
              refine Go.Sl.cw_seq ?_
              refine Go.Sl.cw_region ?_
              refine Go.Sl.ow_val rfl rfl (Go.Sl.v_move rfl) ?_
              refine Go.Sl.ow_val rfl rfl (Go.Sl.v_len rfl Try.underlying31 rfl) ?_
              refine Go.Sl.ow_val rfl rfl (Go.Sl.v_move rfl) ?_
              refine Go.Sl.ow_nil ?_
              refine Go.Sl.xw_then ?_
              refine Go.Sl.cw_block ?_
              refine Go.Sl.cw_loop2 (ι := ((LI Entry))) [(0, _), (1, _), (2, _), (7, _), (8, _), (9, _), (10, _), (11, _), (12, _), (33, _), (60, _), (61, _), (62, _), (311, _), (312, _)] ⟨rfl, rfl, rfl, rfl, rfl, rfl, rfl, rfl, rfl, rfl, rfl, rfl, rfl, rfl, rfl, trivial⟩ ((fun x => [(34, .slice x.ao x.l.length x.cap), (313, .int .i64 x.j)])) ((fun x => x.j ≤ o.l.length ∧ x.l = (o.l.take x.j).filter (fun e => decide (e.seq ≠ o.now)) ∧ x.l.length ≤ x.j ∧ Ls enE 30 (.slice x.ao x.l.length x.cap) x.c x.l)) ((fun x => o.l.length - x.j)) ((fun x => x.c :: [(b15, .cells e.cells.toArray 30 (0, 0))] :: [(b14, .cells (enD.f acts[i]).toArray 35 (0, 0))] :: [(b11, .cells [Value.slice ao2 o.retired.length cap2].toArray 32 (0, 0))] :: cr :: cl :: x299 :: F)) ((⟨0, [], none, 0, []⟩ : LI Entry)) (by repeat (first | exact True.intro | refine And.intro rfl ?_)) (by first | exact Go.Sl.Cov.refl _ | (intro p; simp only [List.flatten_cons, List.flatten_nil, List.flatten_append, List.append_nil, List.nil_append, Go.Sl.cnt_append, Go.Sl.cnt_cons, Go.Sl.cnt_nil, List.set_cons_zero, List.set_cons_succ, List.length_nil, List.length_cons, Nat.zero_add, List.append]; omega)) ?_ ?_
              · exact ⟨Nat.zero_le _, by simp, by simp, Ls.nil⟩
              rintro ⟨j, lt, aoT, capT, ct⟩ ⟨hj, hlt, hltl, hLt⟩
              dsimp only at hj hlt hltl hLt ⊢
              refine Go.Sl.cw_seq ?_
              refine Go.Sl.cw_region ?_
              refine Go.Sl.ow_val rfl rfl (Go.Sl.v_lss rfl rfl) ?_
              refine Go.Sl.ow_nil ?_
              refine Go.Sl.xw_then ?_
              refine Go.Sl.cw_seq ?_
              refine Go.Sl.cw_dec rfl (fun hc314 => ?_) (fun hc314 => ?_)
              refine Go.Sl.cw_skip ?_
              refine Go.Sl.xw_then ?_
              refine Go.Sl.cw_seq ?_
              refine Go.Sl.cw_block ?_
              refine Go.Sl.cw_seq ?_
              refine Go.Sl.cw_region ?_
              rotate_left
              refine Go.Sl.cw_exit ?_
              refine Go.Sl.xw_then_exit ?_
              refine Go.Sl.xw_round_exit ?_
              refine Go.Sl.xw_block_exit ?_
              refine Go.Sl.xw_then ?_
              refine Go.Sl.cw_region ?_
              refine Go.Sl.ow_val rfl rfl (Go.Sl.v_move rfl) ?_
              refine Go.Sl.ow_val rfl rfl (Go.Sl.v_load rfl (Go.Sl.Var.at1 Ty.sc32 (.there (.there (.there .here))) (Go.Sl.GetN.lit rfl))) ?_
              refine Go.Sl.ow_val rfl rfl (Go.Sl.v_move rfl) ?_
              rotate_left
              · have hj2 : j < o.l.length := by omega
                have hokj := hL.ok _ (List.getElem_mem hj2)
                have hfs := filt_succ (p := fun e : Entry => decide (e.seq ≠ o.now)) hj2
                rw [← hlt] at hfs
                refine Go.Sl.ow_val rfl rfl (Go.Sl.v_indexAddr_ls Try.underlying31 (eTy) rfl rfl (by assumption) rfl (by omega)) ?_
                refine Go.Sl.ow_val rfl rfl (Go.Sl.v_load rfl (Go.Sl.Vw.var (eTy) ((hL.vw (by repeat (first | exact Go.Sl.Sub.here | assumption | refine Go.Sl.Sub.there ?_)))) (by omega))) ?_
                (refine Go.Sl.ow_alloc rfl rfl Ty.ze30 ?_; intro b36)
                refine Go.Sl.ow_storeE rfl (eTy) rfl rfl .here (by first | rfl | assumption) (by assumption) ?_
                refine Go.Sl.ow_nil ?_
                refine Go.Sl.xw_then ?_
                refine Go.Sl.cw_seq ?_
                refine Go.Sl.cw_region ?_
                refine Go.Sl.ow_val rfl rfl (Go.Sl.v_fieldAddr0 Ty.fd30_0 rfl) ?_
                refine Go.Sl.ow_val rfl rfl (Go.Sl.v_load rfl (Go.Sl.Var.at1 Ty.sc27 .here (Go.Sl.GetN.lit rfl))) ?_
                refine Go.Sl.ow_val rfl rfl (Go.Sl.v_move rfl) ?_
                refine Go.Sl.ow_val rfl rfl (Go.Sl.v_neq rfl rfl) ?_
                refine Go.Sl.ow_nil ?_
                refine Go.Sl.xw_then ?_
                refine Go.Sl.cw_dec rfl (fun hc320 => ?_) (fun hc320 => ?_)
                refine Go.Sl.cw_region ?_
                refine Go.Sl.ow_val rfl rfl (Go.Sl.v_move rfl) ?_
                refine Go.Sl.ow_val rfl rfl (Go.Sl.v_load rfl (Go.Sl.Var.atE (eTy) .here (by assumption))) ?_
                (refine Go.Sl.ow_buildL (es := [(o.l[j])]) rfl rfl Try.underlying31 Ty.em31 (eTy) rfl rfl (by simp [*]) (by simp only [List.length_cons, List.length_nil]; decide) ?_; intro ao323 c323 hL323)
                (refine Go.Sl.ow_appendL rfl rfl Try.underlying31 Try.underlying31 Ty.em31 (eTy) rfl rfl (by assumption) (by repeat (first | exact Go.Sl.Sel.here | apply Go.Sl.Sel.there)) (Go.Sl.Ls.vw (by assumption) (by repeat (first | exact Go.Sl.Sub.here | assumption | refine Go.Sl.Sub.there ?_))) (by first | omega | (simp only [List.length_append, List.length_take, List.length_drop, List.length_nil, List.length_cons]; omega)) (by first | omega | (simp only [List.length_append, List.length_take, List.length_drop, List.length_nil, List.length_cons]; omega)) ?_; intro ao324 cap324 c324 hL324)
                refine Go.Sl.ow_val rfl rfl (Go.Sl.v_assign rfl) ?_
                refine Go.Sl.ow_nil ?_
                refine Go.Sl.xw_block ?_
                refine Go.Sl.xw_then ?_
                refine Go.Sl.cw_region ?_
                refine Go.Sl.ow_val rfl rfl (Go.Sl.v_add rfl rfl (Go.Sl.nw_i64 (by omega) (by omega))) ?_
                refine Go.Sl.ow_val rfl rfl (Go.Sl.v_move rfl) ?_
                refine Go.Sl.ow_nil ?_
                rotate_left
                refine Go.Sl.cw_skip ?_
                refine Go.Sl.xw_block ?_
                refine Go.Sl.xw_then ?_
                refine Go.Sl.cw_region ?_
                refine Go.Sl.ow_val rfl rfl (Go.Sl.v_add rfl rfl (Go.Sl.nw_i64 (by omega) (by omega))) ?_
                refine Go.Sl.ow_val rfl rfl (Go.Sl.v_move rfl) ?_
                refine Go.Sl.ow_nil ?_
                rotate_left
                · rw [if_pos (by simpa using hc320)] at hfs
                  exact xw_round (⟨j + 1, lt ++ [o.l[j]], ao324, cap324, c324⟩ : LI Entry) ⟨by dsimp only; omega, hfs.symm, by simp; omega, hL324⟩ (by dsimp only; omega) (by first | exact Go.Sl.Cov.refl _ | (intro p; simp only [List.flatten_cons, List.flatten_nil, List.flatten_append, List.append_nil, List.nil_append, Go.Sl.cnt_append, Go.Sl.cnt_cons, Go.Sl.cnt_nil, List.set_cons_zero, List.set_cons_succ, List.length_nil, List.length_cons, Nat.zero_add, List.append]; omega)) (by repeat (first | exact True.intro | refine And.intro rfl ?_))
                · rw [if_neg (by simpa using hc320)] at hfs
                  exact xw_round (⟨j + 1, lt, aoT, capT, ct⟩ : LI Entry) ⟨by dsimp only; omega, hfs.symm, by dsimp only; omega, hLt⟩ (by dsimp only; omega) (by first | exact Go.Sl.Cov.refl _ | (intro p; simp only [List.flatten_cons, List.flatten_nil, List.flatten_append, List.append_nil, List.nil_append, Go.Sl.cnt_append, Go.Sl.cnt_cons, Go.Sl.cnt_nil, List.set_cons_zero, List.set_cons_succ, List.length_nil, List.length_cons, Nat.zero_add, List.append]; omega)) (by repeat (first | exact True.intro | refine And.intro rfl ?_))
              · have hx : o.l.take j = o.l := List.take_of_length_le (by omega)
                rw [hx] at hlt
                have hcR := capLe hR
                (refine Go.Sl.ow_buildL (es := [(o.now)]) rfl rfl Try.underlying32 Ty.em32 (uTy) rfl rfl (by simp [*]) (by simp only [List.length_cons, List.length_nil]; decide) ?_; intro ao329 c329 hL329)
                (refine Go.Sl.ow_appendL rfl rfl Try.underlying32 Try.underlying32 Ty.em32 (uTy) rfl rfl (by assumption) (by repeat (first | exact Go.Sl.Sel.here | apply Go.Sl.Sel.there)) (Go.Sl.Ls.vw (by assumption) (by repeat (first | exact Go.Sl.Sub.here | assumption | refine Go.Sl.Sub.there ?_))) (by first | omega | (simp only [List.length_append, List.length_take, List.length_drop, List.length_nil, List.length_cons]; omega)) (by first | omega | (simp only [List.length_append, List.length_take, List.length_drop, List.length_nil, List.length_cons]; omega)) ?_; intro ao330 cap330 c330 hL330)
                refine Go.Sl.ow_val rfl rfl (Go.Sl.v_assign rfl) ?_
                refine Go.Sl.ow_store1 rfl rfl rfl rfl Ty.sc32 (.there (.there (.there (.there .here)))) (Go.Sl.SetN.one (by first | decide | exact Nat.le_of_ble_eq_true rfl)) ?_
                refine Go.Sl.ow_nil ?_
                refine Go.Sl.xw_block ?_
                rw [← hlt] at hq299 hs2
                exact xw_joint (⟨i + 1, ⟨o.most, lt, o.l[n].seq, o.prior, o.retired ++ [o.now]⟩, x299, aoT, capT, ct, ao330, cap330, c330⟩ : Ox) ⟨rfl, hmo, ⟨hq299, hs2, hLt, hL330⟩⟩ (by first | exact Go.Sl.Cov.refl _ | (intro p; simp only [List.flatten_cons, List.flatten_nil, List.flatten_append, List.append_nil, List.nil_append, Go.Sl.cnt_append, Go.Sl.cnt_cons, Go.Sl.cnt_nil, List.set_cons_zero, List.set_cons_succ, List.length_nil, List.length_cons, Nat.zero_add, List.append]; omega)) (by repeat (first | exact True.intro | refine And.intro rfl ?_))
        ·
          refine Go.Sl.cw_seq ?_
          refine Go.Sl.cw_region ?_
          refine Go.Sl.ow_val rfl rfl (Go.Sl.v_fieldAddr0 Ty.fd35_1 rfl) ?_
          refine Go.Sl.ow_val rfl rfl (Go.Sl.v_load rfl (Go.Sl.Var.at1 Ty.sc5 (.there .here) (Go.Sl.GetN.lit rfl))) ?_
          refine Go.Sl.ow_val rfl rfl (Go.Sl.v_rem rfl rfl (by decide)) ?_
          refine Go.Sl.ow_val rfl rfl (Go.Sl.v_convert Try.underlying5 Try.underlying27 rfl (Go.Sl.nw_u64 (by omega) (by omega))) ?_
          refine Go.Sl.ow_val rfl rfl (Go.Sl.v_assign rfl) ?_
          refine Go.Sl.ow_nil ?_
          refine Go.Sl.xw_then ?_
          refine Go.Sl.cw_seq ?_
          refine Go.Sl.cw_region ?_
          refine Go.Sl.ow_val rfl rfl (Go.Sl.v_move rfl) ?_
          refine Go.Sl.ow_val rfl rfl (Go.Sl.v_move rfl) ?_
          (refine Go.Sl.ow_call rfl rfl rfl rfl (told_c (by repeat (first | exact Go.Sl.Sel.here | apply Go.Sl.Sel.there)) hO hwo) ?_; rintro _ _ ⟨x340, rfl, hq340, rfl⟩)
          refine Go.Sl.ow_nil ?_
          refine Go.Sl.xw_then ?_
          refine Go.Sl.cw_seq ?_
          refine Go.Sl.cw_region ?_
          refine Go.Sl.ow_val rfl rfl (Go.Sl.v_assign rfl) ?_
          refine Go.Sl.ow_nil ?_
          refine Go.Sl.xw_then ?_
          refine Go.Sl.cw_seq ?_
          refine Go.Sl.cw_seq ?_
          refine Go.Sl.cw_region ?_
          refine Go.Sl.ow_val rfl rfl (Go.Sl.v_load rfl (Go.Sl.Var.at1 Ty.sc32 (.there (.there .here)) (Go.Sl.GetN.lit rfl))) ?_
          refine Go.Sl.ow_val rfl rfl (Go.Sl.v_len rfl Try.underlying32 rfl) ?_
          refine Go.Sl.ow_val rfl rfl (Go.Sl.v_move rfl) ?_
          refine Go.Sl.ow_nil ?_
          refine Go.Sl.xw_then ?_
          refine Go.Sl.cw_block ?_
          refine Go.Sl.cw_loop2 (ι := ((LI Int))) [(0, _), (1, _), (2, _), (7, _), (8, _), (9, _), (10, _), (11, _), (12, _), (37, _), (60, _), (61, _), (62, _), (341, _), (342, _)] ⟨rfl, rfl, rfl, rfl, rfl, rfl, rfl, rfl, rfl, rfl, rfl, rfl, rfl, rfl, rfl, trivial⟩ ((fun x => [(38, .slice x.ao x.l.length x.cap), (343, .int .i64 x.j)])) ((fun x => x.j ≤ o.retired.length ∧ x.l = (o.retired.take x.j).filter (fun m => !decide (m = acts[i].seq.tmod 12)) ∧ x.l.length ≤ x.j ∧ Ls enU 27 (.slice x.ao x.l.length x.cap) x.c x.l)) ((fun x => o.retired.length - x.j)) ((fun x => x.c :: [(b15, .cells e.cells.toArray 30 (0, 0))] :: [(b14, .cells (enD.f acts[i]).toArray 35 (0, 0))] :: [(b11, .cells [Value.slice ao2 o.retired.length cap2].toArray 32 (0, 0))] :: cr :: cl :: x340 :: F)) ((⟨0, [], none, 0, []⟩ : LI Int)) (by repeat (first | exact True.intro | refine And.intro rfl ?_)) (by first | exact Go.Sl.Cov.refl _ | (intro p; simp only [List.flatten_cons, List.flatten_nil, List.flatten_append, List.append_nil, List.nil_append, Go.Sl.cnt_append, Go.Sl.cnt_cons, Go.Sl.cnt_nil, List.set_cons_zero, List.set_cons_succ, List.length_nil, List.length_cons, Nat.zero_add, List.append]; omega)) ?_ ?_
          · exact ⟨Nat.zero_le _, by simp, by simp, Ls.nil⟩
          rintro ⟨j, lt, aoT, capT, ct⟩ ⟨hj, hlt, hltl, hLt⟩
          dsimp only at hj hlt hltl hLt ⊢
          refine Go.Sl.cw_seq ?_
          refine Go.Sl.cw_region ?_
          refine Go.Sl.ow_val rfl rfl (Go.Sl.v_lss rfl rfl) ?_
          refine Go.Sl.ow_nil ?_
          refine Go.Sl.xw_then ?_
          refine Go.Sl.cw_seq ?_
          refine Go.Sl.cw_dec rfl (fun hc344 => ?_) (fun hc344 => ?_)
          refine Go.Sl.cw_skip ?_
          refine Go.Sl.xw_then ?_
          refine Go.Sl.cw_seq ?_
          refine Go.Sl.cw_block ?_
          refine Go.Sl.cw_seq ?_
          refine Go.Sl.cw_region ?_
          rotate_left
          refine Go.Sl.cw_exit ?_
          refine Go.Sl.xw_then_exit ?_
          refine Go.Sl.xw_round_exit ?_
          refine Go.Sl.xw_block_exit ?_
          refine Go.Sl.xw_then ?_
          refine Go.Sl.cw_region ?_
          refine Go.Sl.ow_val rfl rfl (Go.Sl.v_move rfl) ?_
          refine Go.Sl.ow_store1 rfl rfl rfl rfl Ty.sc32 (.there (.there (.there .here))) (Go.Sl.SetN.one (by first | decide | exact Nat.le_of_ble_eq_true rfl)) ?_
          refine Go.Sl.ow_nil ?_
          refine Go.Sl.xw_block ?_
          rotate_left
          · have hj2 : j < o.retired.length := by omega
            have hokj := hR.ok _ (List.getElem_mem hj2)
            have hfs := filt_succ (p := fun m : Int => !decide (m = acts[i].seq.tmod 12)) hj2
            rw [← hlt] at hfs
            refine Go.Sl.ow_val rfl rfl (Go.Sl.v_indexAddr_ls Try.underlying32 (uTy) rfl rfl (by assumption) rfl (by omega)) ?_
            refine Go.Sl.ow_val rfl rfl (Go.Sl.v_load rfl (Go.Sl.Vw.var (uTy) ((hR.vw (by repeat (first | exact Go.Sl.Sub.here | assumption | refine Go.Sl.Sub.there ?_)))) (by omega))) ?_
            refine Go.Sl.ow_val rfl rfl (Go.Sl.v_assign rfl) ?_
            refine Go.Sl.ow_nil ?_
            refine Go.Sl.xw_then ?_
            refine Go.Sl.cw_seq ?_
            refine Go.Sl.cw_region ?_
            refine Go.Sl.ow_val rfl rfl (Go.Sl.v_move rfl) ?_
            refine Go.Sl.ow_val rfl rfl (Go.Sl.v_move rfl) ?_
            refine Go.Sl.ow_val rfl rfl (Go.Sl.v_neq rfl rfl) ?_
            refine Go.Sl.ow_nil ?_
            refine Go.Sl.xw_then ?_
            refine Go.Sl.cw_dec rfl (fun hc349 => ?_) (fun hc349 => ?_)
            refine Go.Sl.cw_region ?_
            refine Go.Sl.ow_val rfl rfl (Go.Sl.v_move rfl) ?_
            refine Go.Sl.ow_val rfl rfl (Go.Sl.v_move rfl) ?_
            (refine Go.Sl.ow_buildL (es := [(o.retired[j])]) rfl rfl Try.underlying32 Ty.em32 (uTy) rfl rfl (by simp [*]) (by simp only [List.length_cons, List.length_nil]; decide) ?_; intro ao352 c352 hL352)
            (refine Go.Sl.ow_appendL rfl rfl Try.underlying32 Try.underlying32 Ty.em32 (uTy) rfl rfl (by assumption) (by repeat (first | exact Go.Sl.Sel.here | apply Go.Sl.Sel.there)) (Go.Sl.Ls.vw (by assumption) (by repeat (first | exact Go.Sl.Sub.here | assumption | refine Go.Sl.Sub.there ?_))) (by first | omega | (simp only [List.length_append, List.length_take, List.length_drop, List.length_nil, List.length_cons]; omega)) (by first | omega | (simp only [List.length_append, List.length_take, List.length_drop, List.length_nil, List.length_cons]; omega)) ?_; intro ao353 cap353 c353 hL353)
            refine Go.Sl.ow_val rfl rfl (Go.Sl.v_assign rfl) ?_
            refine Go.Sl.ow_nil ?_
            refine Go.Sl.xw_block ?_
            refine Go.Sl.xw_then ?_
            refine Go.Sl.cw_region ?_
            refine Go.Sl.ow_val rfl rfl (Go.Sl.v_add rfl rfl (Go.Sl.nw_i64 (by omega) (by omega))) ?_
            refine Go.Sl.ow_val rfl rfl (Go.Sl.v_move rfl) ?_
            refine Go.Sl.ow_nil ?_
            rotate_left
            refine Go.Sl.cw_skip ?_
            refine Go.Sl.xw_block ?_
            refine Go.Sl.xw_then ?_
            refine Go.Sl.cw_region ?_
            refine Go.Sl.ow_val rfl rfl (Go.Sl.v_add rfl rfl (Go.Sl.nw_i64 (by omega) (by omega))) ?_
            refine Go.Sl.ow_val rfl rfl (Go.Sl.v_move rfl) ?_
            refine Go.Sl.ow_nil ?_
            rotate_left
            · rw [if_pos (by simpa using hc349)] at hfs
              exact xw_round (⟨j + 1, lt ++ [o.retired[j]], ao353, cap353, c353⟩ : LI Int) ⟨by dsimp only; omega, hfs.symm, by simp; omega, hL353⟩ (by dsimp only; omega) (by first | exact Go.Sl.Cov.refl _ | (intro p; simp only [List.flatten_cons, List.flatten_nil, List.flatten_append, List.append_nil, List.nil_append, Go.Sl.cnt_append, Go.Sl.cnt_cons, Go.Sl.cnt_nil, List.set_cons_zero, List.set_cons_succ, List.length_nil, List.length_cons, Nat.zero_add, List.append]; omega)) (by repeat (first | exact True.intro | refine And.intro rfl ?_))
            · rw [if_neg (by simpa using hc349)] at hfs
              exact xw_round (⟨j + 1, lt, aoT, capT, ct⟩ : LI Int) ⟨by dsimp only; omega, hfs.symm, by dsimp only; omega, hLt⟩ (by dsimp only; omega) (by first | exact Go.Sl.Cov.refl _ | (intro p; simp only [List.flatten_cons, List.flatten_nil, List.flatten_append, List.append_nil, List.nil_append, Go.Sl.cnt_append, Go.Sl.cnt_cons, Go.Sl.cnt_nil, List.set_cons_zero, List.set_cons_succ, List.length_nil, List.length_cons, Nat.zero_add, List.append]; omega)) (by repeat (first | exact True.intro | refine And.intro rfl ?_))
          · have hx : o.retired.take j = o.retired := List.take_of_length_le (by omega)
            rw [hx] at hlt
            have hto : o.told (acts[i].seq.tmod 12) = ⟨o.most, o.l, o.now, o.prior, lt⟩ := by rw [OtherM.told, hlt]
            have hst := hsd.told (acts[i].seq.tmod 12)
            rw [hto] at hq340 hst
            skip
            exact xw_joint (⟨i + 1, ⟨o.most, o.l, o.now, o.prior, lt⟩, x340, ao, cap, cl, aoT, capT, ct⟩ : Ox) ⟨rfl, hmo, ⟨hq340, hst, hL, hLt⟩⟩ (by first | exact Go.Sl.Cov.refl _ | (intro p; simp only [List.flatten_cons, List.flatten_nil, List.flatten_append, List.append_nil, List.nil_append, Go.Sl.cnt_append, Go.Sl.cnt_cons, Go.Sl.cnt_nil, List.set_cons_zero, List.set_cons_succ, List.length_nil, List.length_cons, Nat.zero_add, List.append]; omega)) (by repeat (first | exact True.intro | refine And.intro rfl ?_))
        ·
          have hqn : enU.ok (acts[i].seq.tmod 12) := ⟨by omega, by omega⟩
          refine Go.Sl.cw_seq ?_
          refine Go.Sl.cw_region ?_
          refine Go.Sl.ow_val rfl rfl (Go.Sl.v_fieldAddr0 Ty.fd35_1 rfl) ?_
          refine Go.Sl.ow_val rfl rfl (Go.Sl.v_load rfl (Go.Sl.Var.at1 Ty.sc5 (.there .here) (Go.Sl.GetN.lit rfl))) ?_
          refine Go.Sl.ow_val rfl rfl (Go.Sl.v_rem rfl rfl (by decide)) ?_
          refine Go.Sl.ow_val rfl rfl (Go.Sl.v_convert Try.underlying5 Try.underlying27 rfl (Go.Sl.nw_u64 (by omega) (by omega))) ?_
          refine Go.Sl.ow_val rfl rfl (Go.Sl.v_assign rfl) ?_
          refine Go.Sl.ow_nil ?_
          refine Go.Sl.xw_then ?_
          refine Go.Sl.cw_seq ?_
          refine Go.Sl.cw_region ?_
          refine Go.Sl.ow_val rfl rfl (Go.Sl.v_move rfl) ?_
          refine Go.Sl.ow_val rfl rfl (Go.Sl.v_move rfl) ?_
          (refine Go.Sl.ow_call rfl rfl rfl rfl (lost_c (by repeat (first | exact Go.Sl.Sel.here | apply Go.Sl.Sel.there)) hO hwo hqn) ?_; rintro _ _ ⟨x108, rfl, hq108, rfl⟩)
          refine Go.Sl.ow_nil ?_
          refine Go.Sl.xw_then ?_
          refine Go.Sl.cw_seq ?_
          refine Go.Sl.cw_region ?_
          refine Go.Sl.ow_val rfl rfl (Go.Sl.v_move rfl) ?_
          refine Go.Sl.ow_val rfl rfl (Go.Sl.v_move rfl) ?_
          refine Go.Sl.ow_val rfl rfl (Go.Sl.v_call rfl rfl (oHas_c (by repeat (first | exact Go.Sl.Sub.here | assumption | refine Go.Sl.Sub.there ?_)) (hR.vw (by repeat (first | exact Go.Sl.Sub.here | assumption | refine Go.Sl.Sub.there ?_))) (by omega))) ?_
          refine Go.Sl.ow_val rfl rfl (Go.Sl.v_not_bool rfl) ?_
          refine Go.Sl.ow_nil ?_
          refine Go.Sl.xw_then ?_
          refine Go.Sl.cw_bool rfl (fun hc112 => ?_) (fun hc112 => ?_)
          refine Go.Sl.cw_region ?_
          refine Go.Sl.ow_val rfl rfl (Go.Sl.v_load rfl (Go.Sl.Var.at1 Ty.sc32 (.there (.there .here)) (Go.Sl.GetN.lit rfl))) ?_
          refine Go.Sl.ow_val rfl rfl (Go.Sl.v_move rfl) ?_
          (refine Go.Sl.ow_buildL (es := [(acts[i].seq.tmod 12)]) rfl rfl Try.underlying32 Ty.em32 (uTy) rfl rfl (by simp [*]) (by simp only [List.length_cons, List.length_nil]; decide) ?_; intro ao115 c115 hL115)
          (refine Go.Sl.ow_appendL rfl rfl Try.underlying32 Try.underlying32 Ty.em32 (uTy) rfl rfl (by assumption) (by repeat (first | exact Go.Sl.Sel.here | apply Go.Sl.Sel.there)) (Go.Sl.Ls.vw (by assumption) (by repeat (first | exact Go.Sl.Sub.here | assumption | refine Go.Sl.Sub.there ?_))) (by first | omega | (simp only [List.length_append, List.length_take, List.length_drop, List.length_nil, List.length_cons]; omega)) (by first | omega | (simp only [List.length_append, List.length_take, List.length_drop, List.length_nil, List.length_cons]; omega)) ?_; intro ao116 cap116 c116 hL116)
          refine Go.Sl.ow_store1 rfl rfl rfl rfl Ty.sc32 (.there (.there (.there .here))) (Go.Sl.SetN.one (by first | decide | exact Nat.le_of_ble_eq_true rfl)) ?_
          refine Go.Sl.ow_nil ?_
          refine Go.Sl.xw_block ?_
          rotate_left
          refine Go.Sl.cw_skip ?_
          refine Go.Sl.xw_block ?_
          rotate_left
          · have hlo : o.lost (acts[i].seq.tmod 12) = ⟨o.most, o.l, o.now, o.prior, o.retired ++ [acts[i].seq.tmod 12]⟩ := by rw [OtherM.lost, if_neg (nb1 hc112)]
            have hst := hsd.lost (acts[i].seq.tmod 12)
            rw [hlo] at hq108 hst
            exact xw_joint (⟨i + 1, ⟨o.most, o.l, o.now, o.prior, o.retired ++ [acts[i].seq.tmod 12]⟩, x108, ao, cap, cl, ao116, cap116, c116⟩ : Ox) ⟨rfl, hmo, ⟨hq108, hst, hL, hL116⟩⟩ (by first | exact Go.Sl.Cov.refl _ | (intro p; simp only [List.flatten_cons, List.flatten_nil, List.flatten_append, List.append_nil, List.nil_append, Go.Sl.cnt_append, Go.Sl.cnt_cons, Go.Sl.cnt_nil, List.set_cons_zero, List.set_cons_succ, List.length_nil, List.length_cons, Nat.zero_add, List.append]; omega)) (by repeat (first | exact True.intro | refine And.intro rfl ?_))
          · have hlo : o.lost (acts[i].seq.tmod 12) = o := by rw [OtherM.lost, if_pos (nb2 hc112)]
            have hst := hsd.lost (acts[i].seq.tmod 12)
            rw [hlo] at hq108 hst
            exact xw_joint (⟨i + 1, o, x108, ao, cap, cl, ao2, cap2, cr⟩ : Ox) ⟨rfl, hmo, ⟨hq108, hst, hL, hR⟩⟩ (by first | exact Go.Sl.Cov.refl _ | (intro p; simp only [List.flatten_cons, List.flatten_nil, List.flatten_append, List.append_nil, List.nil_append, Go.Sl.cnt_append, Go.Sl.cnt_cons, Go.Sl.cnt_nil, List.set_cons_zero, List.set_cons_succ, List.length_nil, List.length_cons, Nat.zero_add, List.append]; omega)) (by repeat (first | exact True.intro | refine And.intro rfl ?_))
      · 
        rintro ⟨i', o', d', ao', cap', cl', aoR', capR', cr'⟩ ⟨hi', hmo', hI'⟩
        dsimp only at hi' hmo' hI' ⊢
        subst hi'
        have hO' := hI'.at_
        have hsd' := hI'.sd
        have hL' := hI'.l
        have hR' := hI'.r
        dsimp only at hO' hsd' hL' hR'
        have hw' := hsd'.wf (by omega)
        have hm1 := hsd'.most
        have hm2 := hsd'.len
        have hm3 := hsd'.ret
        have hfo' := findE_okM hL'.ok o'.now
        refine Go.Sl.cw_seq ?_
        refine Go.Sl.cw_region ?_
        (refine Go.Sl.ow_alloc rfl rfl Ty.ze30 ?_; intro b42)
        refine Go.Sl.ow_nil ?_
        refine Go.Sl.xw_then ?_
        refine Go.Sl.cw_seq ?_
        refine Go.Sl.cw_seq ?_
        refine Go.Sl.cw_region ?_
        refine Go.Sl.ow_val rfl rfl (Go.Sl.v_move rfl) ?_
        refine Go.Sl.ow_val rfl rfl (Go.Sl.v_len rfl Try.underlying31 rfl) ?_
        refine Go.Sl.ow_val rfl rfl (Go.Sl.v_move rfl) ?_
        refine Go.Sl.ow_nil ?_
        refine Go.Sl.xw_then ?_
        refine Go.Sl.cw_block ?_
        refine Go.Sl.cw_loop2 (ι := (Nat)) [(0, _), (1, _), (2, _), (7, _), (8, _), (9, _), (10, _), (11, _), (12, _), (42, _), (60, _), (61, _), (62, _), (356, _), (357, _)] ⟨rfl, rfl, rfl, rfl, rfl, rfl, rfl, rfl, rfl, rfl, rfl, rfl, rfl, rfl, rfl, trivial⟩ ((fun j => [(358, .int .i64 j)])) ((fun j => j ≤ o'.l.length)) ((fun j => o'.l.length - j)) ((fun j => [(b42, .cells (enE.f (findE o'.now (o'.l.take j))).toArray 30 (0, 0))] :: [(b11, .cells [Value.slice aoR' o'.retired.length capR'].toArray 32 (0, 0))] :: cr' :: cl' :: d' :: F)) (0) (by repeat (first | exact True.intro | refine And.intro rfl ?_)) (by first | exact Go.Sl.Cov.refl _ | (intro p; simp only [List.flatten_cons, List.flatten_nil, List.flatten_append, List.append_nil, List.nil_append, Go.Sl.cnt_append, Go.Sl.cnt_cons, Go.Sl.cnt_nil, List.set_cons_zero, List.set_cons_succ, List.length_nil, List.length_cons, Nat.zero_add, List.append]; omega)) ?_ ?_
        · exact Nat.zero_le _
        rintro j hj
        refine Go.Sl.cw_seq ?_
        refine Go.Sl.cw_region ?_
        refine Go.Sl.ow_val rfl rfl (Go.Sl.v_lss rfl rfl) ?_
        refine Go.Sl.ow_nil ?_
        refine Go.Sl.xw_then ?_
        refine Go.Sl.cw_seq ?_
        refine Go.Sl.cw_dec rfl (fun hc359 => ?_) (fun hc359 => ?_)
        refine Go.Sl.cw_skip ?_
        refine Go.Sl.xw_then ?_
        refine Go.Sl.cw_seq ?_
        refine Go.Sl.cw_block ?_
        refine Go.Sl.cw_seq ?_
        refine Go.Sl.cw_region ?_
        rotate_left
        refine Go.Sl.cw_exit ?_
        refine Go.Sl.xw_then_exit ?_
        refine Go.Sl.xw_round_exit ?_
        refine Go.Sl.xw_block_exit ?_
        refine Go.Sl.xw_then ?_
        refine Go.Sl.cw_seq ?_
        refine Go.Sl.cw_region ?_
        refine Go.Sl.ow_val rfl rfl (Go.Sl.v_move rfl) ?_
        rotate_left
        · have hj2 : j < o'.l.length := by omega
          have hokj := hL'.ok _ (List.getElem_mem hj2)
          have hfs := findE_succ hsd'.rise (n := o'.now) hj2
          have hfj := findE_okM (l := o'.l.take j) (fun e he => hL'.ok e (List.mem_of_mem_take he)) o'.now
          have hfl := len18 _ hfj
          have hfl2 := len18 _ hokj
          refine Go.Sl.ow_val rfl rfl (Go.Sl.v_indexAddr_ls Try.underlying31 (eTy) rfl rfl (by assumption) rfl (by omega)) ?_
          refine Go.Sl.ow_val rfl rfl (Go.Sl.v_load rfl (Go.Sl.Vw.var (eTy) (Go.Sl.Ls.vw (by assumption) (by repeat (first | exact Go.Sl.Sub.here | assumption | refine Go.Sl.Sub.there ?_))) (by omega))) ?_
          (refine Go.Sl.ow_alloc rfl rfl Ty.ze30 ?_; intro b44)
          refine Go.Sl.ow_storeE rfl (eTy) rfl rfl .here (by first | rfl | assumption) (by assumption) ?_
          refine Go.Sl.ow_nil ?_
          refine Go.Sl.xw_then ?_
          refine Go.Sl.cw_seq ?_
          refine Go.Sl.cw_region ?_
          refine Go.Sl.ow_val rfl rfl (Go.Sl.v_fieldAddr0 Ty.fd30_0 rfl) ?_
          refine Go.Sl.ow_val rfl rfl (Go.Sl.v_load rfl (Go.Sl.Var.at1 Ty.sc27 .here (Go.Sl.GetN.lit rfl))) ?_
          refine Go.Sl.ow_val rfl rfl (Go.Sl.v_move rfl) ?_
          refine Go.Sl.ow_val rfl rfl (Go.Sl.v_eql rfl rfl) ?_
          refine Go.Sl.ow_nil ?_
          refine Go.Sl.xw_then ?_
          refine Go.Sl.cw_dec rfl (fun hc365 => ?_) (fun hc365 => ?_)
          refine Go.Sl.cw_region ?_
          refine Go.Sl.ow_val rfl rfl (Go.Sl.v_load rfl (Go.Sl.Var.atN Ty.ag30 .here Go.Sl.GetN.all (by first | rfl | assumption))) ?_
          refine Go.Sl.ow_storeE rfl (eTy) rfl rfl (.there .here) (by first | rfl | assumption) (by assumption) ?_
          refine Go.Sl.ow_nil ?_
          refine Go.Sl.xw_block ?_
          refine Go.Sl.xw_then ?_
          refine Go.Sl.cw_region ?_
          refine Go.Sl.ow_val rfl rfl (Go.Sl.v_add rfl rfl (Go.Sl.nw_i64 (by omega) (by omega))) ?_
          refine Go.Sl.ow_val rfl rfl (Go.Sl.v_move rfl) ?_
          refine Go.Sl.ow_nil ?_
          rotate_left
          refine Go.Sl.cw_skip ?_
          refine Go.Sl.xw_block ?_
          refine Go.Sl.xw_then ?_
          refine Go.Sl.cw_region ?_
          refine Go.Sl.ow_val rfl rfl (Go.Sl.v_add rfl rfl (Go.Sl.nw_i64 (by omega) (by omega))) ?_
          refine Go.Sl.ow_val rfl rfl (Go.Sl.v_move rfl) ?_
          refine Go.Sl.ow_nil ?_
          rotate_left
          · rw [if_pos hc365] at hfs
            exact xw_round (j + 1) (by omega) (by omega) (by rw [hfs]; exact (by first | exact Go.Sl.Cov.refl _ | (intro p; simp only [List.flatten_cons, List.flatten_nil, List.flatten_append, List.append_nil, List.nil_append, Go.Sl.cnt_append, Go.Sl.cnt_cons, Go.Sl.cnt_nil, List.set_cons_zero, List.set_cons_succ, List.length_nil, List.length_cons, Nat.zero_add, List.append]; omega))) (by repeat (first | exact True.intro | refine And.intro rfl ?_))
          · rw [if_neg hc365] at hfs
            exact xw_round (j + 1) (by omega) (by omega) (by rw [hfs]; exact (by first | exact Go.Sl.Cov.refl _ | (intro p; simp only [List.flatten_cons, List.flatten_nil, List.flatten_append, List.append_nil, List.nil_append, Go.Sl.cnt_append, Go.Sl.cnt_cons, Go.Sl.cnt_nil, List.set_cons_zero, List.set_cons_succ, List.length_nil, List.length_cons, Nat.zero_add, List.append]; omega))) (by repeat (first | exact True.intro | refine And.intro rfl ?_))
        · have hx : o'.l.take j = o'.l := List.take_of_length_le (by omega)
          rw [hx]
          (refine Go.Sl.ow_call rfl rfl rfl rfl (retired_c hO' (by repeat (first | exact Go.Sl.Sub.here | assumption | refine Go.Sl.Sub.there ?_)) hw') ?_; rintro _ _ ⟨x369, rfl, hq369, rfl⟩)
          refine Go.Sl.ow_val rfl rfl (Go.Sl.v_assign rfl) ?_
          refine Go.Sl.ow_nil ?_
          refine Go.Sl.xw_then ?_
          refine Go.Sl.cw_cut2 (ι := (Unit)) [(0, _), (1, _), (2, _), (7, _), (8, _), (9, _), (10, _), (11, _), (12, _), (45, _), (60, _), (61, _), (62, _)] ⟨rfl, rfl, rfl, rfl, rfl, rfl, rfl, rfl, rfl, rfl, rfl, rfl, rfl, trivial⟩ ((fun _ => [])) ((fun _ => True)) ((fun _ => x369.2.2 :: [(b11, .cells [Value.slice aoR' o'.retired.length capR'].toArray 32 (0, 0))] :: cr' :: cl' :: d' :: F)) ?_ ?_
          · refine Go.Sl.cw_seq ?_
            refine Go.Sl.cw_any Ty.mixed ?_
            refine Go.Sl.aw_pure 0 rfl (by decide +kernel) rfl rfl (Go.Sl.v_move rfl) rfl ?_
            refine Go.Sl.aw_pure 2 rfl (by decide +kernel) rfl rfl (Go.Sl.v_move rfl) rfl ?_
            refine Go.Sl.aw_step1 1 (by decide +kernel) rfl ?_
            (refine Go.Sl.ow_call rfl rfl rfl rfl (otherList_c hO' (by repeat (first | exact Go.Sl.Sub.here | assumption | refine Go.Sl.Sub.there ?_)) hw') ?_; rintro _ _ ⟨x371, rfl, hq371, rfl⟩)
            refine Go.Sl.ow_nil ?_
            refine Go.Sl.xw_nx ?_
            refine Go.Sl.aw_step1 3 (by decide +kernel) rfl ?_
            refine Go.Sl.ow_val rfl rfl (Go.Sl.v_call rfl rfl (same_c (hq371.vw (by repeat (first | exact Go.Sl.Sub.here | assumption | refine Go.Sl.Sub.there ?_))) (hL'.vw (by repeat (first | exact Go.Sl.Sub.here | assumption | refine Go.Sl.Sub.there ?_))) (by omega))) ?_
            refine Go.Sl.ow_nil ?_
            refine Go.Sl.xw_nx ?_
            refine Go.Sl.aw_pure 4 rfl (by decide +kernel) rfl rfl (Go.Sl.v_not rfl) rfl ?_
            refine Go.Sl.aw_pure 5 rfl (by decide +kernel) rfl rfl (Go.Sl.v_move rfl) rfl ?_
            refine Go.Sl.aw_step2 6 8 (by decide +kernel) rfl rfl ?_ ?_
            refine Go.Sl.ow_dec 375 rfl (fun hc375 => ?_) (fun hc375 => ?_)
            refine Go.Sl.ow_skip rfl rfl ?_
            refine Go.Sl.ow_nil ?_
            refine Go.Sl.xw_nx ?_
            refine Go.Sl.aw_step2 7 8 (by decide +kernel) rfl rfl ?_ ?_
            refine Go.Sl.ow_skip rfl rfl ?_
            refine Go.Sl.ow_nil ?_
            refine Go.Sl.xw_nx ?_
            refine Go.Sl.aw_step1 8 (by decide +kernel) rfl ?_
            refine Go.Sl.ow_skip rfl rfl ?_
            refine Go.Sl.ow_nil ?_
            refine Go.Sl.xw_nx ?_
            refine Go.Sl.aw_step1 9 (by decide +kernel) rfl ?_
            refine Go.Sl.ow_skip rfl rfl ?_
            refine Go.Sl.ow_nil ?_
            refine Go.Sl.xw_nx ?_
            refine Go.Sl.aw_pure 10 rfl (by decide +kernel) rfl rfl (Go.Sl.v_pick_true rfl rfl) rfl ?_
            refine Go.Sl.aw_pure 11 rfl (by decide +kernel) rfl rfl (Go.Sl.v_move rfl) rfl ?_
            refine Go.Sl.aw_step2 12 14 (by decide +kernel) rfl rfl ?_ ?_
            refine Go.Sl.ow_skip rfl rfl ?_
            refine Go.Sl.ow_nil ?_
            refine Go.Sl.xw_nx ?_
            refine Go.Sl.aw_step2 13 14 (by decide +kernel) rfl rfl ?_ ?_
            refine Go.Sl.ow_skip rfl rfl ?_
            refine Go.Sl.ow_nil ?_
            refine Go.Sl.xw_nx ?_
            refine Go.Sl.aw_step1 14 (by decide +kernel) rfl ?_
            refine Go.Sl.ow_skip rfl rfl ?_
            refine Go.Sl.ow_nil ?_
            refine Go.Sl.xw_nx ?_
            refine Go.Sl.aw_step1 15 (by decide +kernel) rfl ?_
            refine Go.Sl.ow_skip rfl rfl ?_
            refine Go.Sl.ow_nil ?_
            refine Go.Sl.xw_nx ?_
            refine Go.Sl.aw_step1 16 (by decide +kernel) rfl ?_
            refine Go.Sl.ow_skip rfl rfl ?_
            refine Go.Sl.ow_nil ?_
            refine Go.Sl.xw_nx ?_
            refine Go.Sl.aw_pure 17 rfl (by decide +kernel) rfl rfl (Go.Sl.v_pick_true rfl rfl) rfl ?_
            refine Go.Sl.aw_end (by decide +kernel) ?_
            refine Go.Sl.xw_np ?_
            refine Go.Sl.xw_then ?_
            refine Go.Sl.cw_true rfl ?_
            refine Go.Sl.cw_seq ?_
            refine Go.Sl.cw_region ?_
            refine Go.Sl.ow_val rfl rfl (Go.Sl.v_assign rfl) ?_
            refine Go.Sl.ow_nil ?_
            refine Go.Sl.xw_then ?_
            refine Go.Sl.cw_ret ?_
            refine Go.Sl.xw_joint_ret ?_
            refine Go.Sl.xw_block_ret ?_
            refine Go.Sl.xw_then_ret ?_
            refine Go.Sl.xw_round_ret ?_
            refine Go.Sl.xw_block_ret ?_
            refine Go.Sl.xw_then_ret ?_
            refine Go.Sl.ret1 rfl (Go.Sl.res_tmp rfl) ?_
            rotate_left
            refine Go.Sl.ow_skip rfl rfl ?_
            refine Go.Sl.ow_nil ?_
            refine Go.Sl.xw_nx ?_
            refine Go.Sl.aw_step2 13 15 (by decide +kernel) rfl rfl ?_ ?_
            refine Go.Sl.ow_skip rfl rfl ?_
            refine Go.Sl.ow_nil ?_
            refine Go.Sl.xw_nx ?_
            refine Go.Sl.aw_step1 15 (by decide +kernel) rfl ?_
            refine Go.Sl.ow_skip rfl rfl ?_
            refine Go.Sl.ow_nil ?_
            refine Go.Sl.xw_nx ?_
            refine Go.Sl.aw_step1 16 (by decide +kernel) rfl ?_
            refine Go.Sl.ow_skip rfl rfl ?_
            refine Go.Sl.ow_nil ?_
            refine Go.Sl.xw_nx ?_
            refine Go.Sl.aw_pure 17 rfl (by decide +kernel) rfl rfl (Go.Sl.v_pick_true rfl rfl) rfl ?_
            refine Go.Sl.aw_end (by decide +kernel) ?_
            refine Go.Sl.xw_np ?_
            refine Go.Sl.xw_then ?_
            refine Go.Sl.cw_true rfl ?_
            refine Go.Sl.cw_seq ?_
            refine Go.Sl.cw_region ?_
            refine Go.Sl.ow_val rfl rfl (Go.Sl.v_assign rfl) ?_
            refine Go.Sl.ow_nil ?_
            refine Go.Sl.xw_then ?_
            refine Go.Sl.cw_ret ?_
            refine Go.Sl.xw_joint_ret ?_
            refine Go.Sl.xw_block_ret ?_
            refine Go.Sl.xw_then_ret ?_
            refine Go.Sl.xw_round_ret ?_
            refine Go.Sl.xw_block_ret ?_
            refine Go.Sl.xw_then_ret ?_
            refine Go.Sl.ret1 rfl (Go.Sl.res_tmp rfl) ?_
            rotate_left
            refine Go.Sl.ow_skip rfl rfl ?_
            refine Go.Sl.ow_nil ?_
            refine Go.Sl.xw_nx ?_
            refine Go.Sl.aw_step1 13 (by decide +kernel) rfl ?_
            refine Go.Sl.ow_skip rfl rfl ?_
            refine Go.Sl.ow_nil ?_
            refine Go.Sl.xw_nx ?_
            refine Go.Sl.aw_step1 16 (by decide +kernel) rfl ?_
            refine Go.Sl.ow_skip rfl rfl ?_
            refine Go.Sl.ow_nil ?_
            refine Go.Sl.xw_nx ?_
            refine Go.Sl.aw_pure 17 rfl (by decide +kernel) rfl rfl (Go.Sl.v_pick_true rfl rfl) rfl ?_
            refine Go.Sl.aw_end (by decide +kernel) ?_
            refine Go.Sl.xw_np ?_
            refine Go.Sl.xw_then ?_
            refine Go.Sl.cw_true rfl ?_
            refine Go.Sl.cw_seq ?_
            refine Go.Sl.cw_region ?_
            refine Go.Sl.ow_val rfl rfl (Go.Sl.v_assign rfl) ?_
            refine Go.Sl.ow_nil ?_
            refine Go.Sl.xw_then ?_
            refine Go.Sl.cw_ret ?_
            refine Go.Sl.xw_joint_ret ?_
            refine Go.Sl.xw_block_ret ?_
            refine Go.Sl.xw_then_ret ?_
            refine Go.Sl.xw_round_ret ?_
            refine Go.Sl.xw_block_ret ?_
            refine Go.Sl.xw_then_ret ?_
            refine Go.Sl.ret1 rfl (Go.Sl.res_tmp rfl) ?_
            rotate_left
            refine Go.Sl.ow_skip rfl rfl ?_
            refine Go.Sl.ow_nil ?_
            refine Go.Sl.xw_nx ?_
            refine Go.Sl.aw_step2 12 15 (by decide +kernel) rfl rfl ?_ ?_
            refine Go.Sl.ow_skip rfl rfl ?_
            refine Go.Sl.ow_nil ?_
            refine Go.Sl.xw_nx ?_
            refine Go.Sl.aw_step2 13 15 (by decide +kernel) rfl rfl ?_ ?_
            refine Go.Sl.ow_skip rfl rfl ?_
            refine Go.Sl.ow_nil ?_
            refine Go.Sl.xw_nx ?_
            refine Go.Sl.aw_step1 15 (by decide +kernel) rfl ?_
            refine Go.Sl.ow_skip rfl rfl ?_
            refine Go.Sl.ow_nil ?_
            refine Go.Sl.xw_nx ?_
            refine Go.Sl.aw_step1 16 (by decide +kernel) rfl ?_
            refine Go.Sl.ow_skip rfl rfl ?_
            refine Go.Sl.ow_nil ?_
            refine Go.Sl.xw_nx ?_
            refine Go.Sl.aw_pure 17 rfl (by decide +kernel) rfl rfl (Go.Sl.v_pick_true rfl rfl) rfl ?_
            refine Go.Sl.aw_end (by decide +kernel) ?_
            refine Go.Sl.xw_np ?_
            refine Go.Sl.xw_then ?_
            refine Go.Sl.cw_true rfl ?_
            refine Go.Sl.cw_seq ?_
            refine Go.Sl.cw_region ?_
            refine Go.Sl.ow_val rfl rfl (Go.Sl.v_assign rfl) ?_
            refine Go.Sl.ow_nil ?_
            refine Go.Sl.xw_then ?_
            refine Go.Sl.cw_ret ?_
            refine Go.Sl.xw_joint_ret ?_
            refine Go.Sl.xw_block_ret ?_
            refine Go.Sl.xw_then_ret ?_
            refine Go.Sl.xw_round_ret ?_
            refine Go.Sl.xw_block_ret ?_
            refine Go.Sl.xw_then_ret ?_
            refine Go.Sl.ret1 rfl (Go.Sl.res_tmp rfl) ?_
            rotate_left
            refine Go.Sl.ow_skip rfl rfl ?_
            refine Go.Sl.ow_nil ?_
            refine Go.Sl.xw_nx ?_
            refine Go.Sl.aw_step1 13 (by decide +kernel) rfl ?_
            refine Go.Sl.ow_skip rfl rfl ?_
            refine Go.Sl.ow_nil ?_
            refine Go.Sl.xw_nx ?_
            refine Go.Sl.aw_step1 16 (by decide +kernel) rfl ?_
            refine Go.Sl.ow_skip rfl rfl ?_
            refine Go.Sl.ow_nil ?_
            refine Go.Sl.xw_nx ?_
            refine Go.Sl.aw_pure 17 rfl (by decide +kernel) rfl rfl (Go.Sl.v_pick_true rfl rfl) rfl ?_
            refine Go.Sl.aw_end (by decide +kernel) ?_
            refine Go.Sl.xw_np ?_
            refine Go.Sl.xw_then ?_
            refine Go.Sl.cw_true rfl ?_
            refine Go.Sl.cw_seq ?_
            refine Go.Sl.cw_region ?_
            refine Go.Sl.ow_val rfl rfl (Go.Sl.v_assign rfl) ?_
            refine Go.Sl.ow_nil ?_
            refine Go.Sl.xw_then ?_
            refine Go.Sl.cw_ret ?_
            refine Go.Sl.xw_joint_ret ?_
            refine Go.Sl.xw_block_ret ?_
            refine Go.Sl.xw_then_ret ?_
            refine Go.Sl.xw_round_ret ?_
            refine Go.Sl.xw_block_ret ?_
            refine Go.Sl.xw_then_ret ?_
            refine Go.Sl.ret1 rfl (Go.Sl.res_tmp rfl) ?_
            rotate_left
            refine Go.Sl.ow_skip rfl rfl ?_
            refine Go.Sl.ow_nil ?_
            refine Go.Sl.xw_nx ?_
            refine Go.Sl.aw_step1 12 (by decide +kernel) rfl ?_
            refine Go.Sl.ow_skip rfl rfl ?_
            refine Go.Sl.ow_nil ?_
            refine Go.Sl.xw_nx ?_
            refine Go.Sl.aw_step1 13 (by decide +kernel) rfl ?_
            refine Go.Sl.ow_skip rfl rfl ?_
            refine Go.Sl.ow_nil ?_
            refine Go.Sl.xw_nx ?_
            refine Go.Sl.aw_step1 16 (by decide +kernel) rfl ?_
            refine Go.Sl.ow_skip rfl rfl ?_
            refine Go.Sl.ow_nil ?_
            refine Go.Sl.xw_nx ?_
            refine Go.Sl.aw_pure 17 rfl (by decide +kernel) rfl rfl (Go.Sl.v_pick_true rfl rfl) rfl ?_
            refine Go.Sl.aw_end (by decide +kernel) ?_
            refine Go.Sl.xw_np ?_
            refine Go.Sl.xw_then ?_
            refine Go.Sl.cw_true rfl ?_
            refine Go.Sl.cw_seq ?_
            refine Go.Sl.cw_region ?_
            refine Go.Sl.ow_val rfl rfl (Go.Sl.v_assign rfl) ?_
            refine Go.Sl.ow_nil ?_
            refine Go.Sl.xw_then ?_
            refine Go.Sl.cw_ret ?_
            refine Go.Sl.xw_joint_ret ?_
            refine Go.Sl.xw_block_ret ?_
            refine Go.Sl.xw_then_ret ?_
            refine Go.Sl.xw_round_ret ?_
            refine Go.Sl.xw_block_ret ?_
            refine Go.Sl.xw_then_ret ?_
            refine Go.Sl.ret1 rfl (Go.Sl.res_tmp rfl) ?_
            rotate_left
            refine Go.Sl.ow_skip rfl rfl ?_
            refine Go.Sl.ow_nil ?_
            refine Go.Sl.xw_nx ?_
            refine Go.Sl.aw_step1 7 (by decide +kernel) rfl ?_
            refine Go.Sl.ow_skip rfl rfl ?_
            refine Go.Sl.ow_nil ?_
            refine Go.Sl.xw_nx ?_
            refine Go.Sl.aw_step1 9 (by decide +kernel) rfl ?_
            refine Go.Sl.ow_skip rfl rfl ?_
            refine Go.Sl.ow_nil ?_
            refine Go.Sl.xw_nx ?_
            refine Go.Sl.aw_pure 10 rfl (by decide +kernel) rfl rfl (Go.Sl.v_pick_true rfl rfl) rfl ?_
            refine Go.Sl.aw_pure 11 rfl (by decide +kernel) rfl rfl (Go.Sl.v_move rfl) rfl ?_
            refine Go.Sl.aw_step2 12 14 (by decide +kernel) rfl rfl ?_ ?_
            refine Go.Sl.ow_skip rfl rfl ?_
            refine Go.Sl.ow_nil ?_
            refine Go.Sl.xw_nx ?_
            refine Go.Sl.aw_step2 13 14 (by decide +kernel) rfl rfl ?_ ?_
            refine Go.Sl.ow_skip rfl rfl ?_
            refine Go.Sl.ow_nil ?_
            refine Go.Sl.xw_nx ?_
            refine Go.Sl.aw_step1 14 (by decide +kernel) rfl ?_
            refine Go.Sl.ow_skip rfl rfl ?_
            refine Go.Sl.ow_nil ?_
            refine Go.Sl.xw_nx ?_
            refine Go.Sl.aw_step1 15 (by decide +kernel) rfl ?_
            refine Go.Sl.ow_skip rfl rfl ?_
            refine Go.Sl.ow_nil ?_
            refine Go.Sl.xw_nx ?_
            refine Go.Sl.aw_step1 16 (by decide +kernel) rfl ?_
            refine Go.Sl.ow_skip rfl rfl ?_
            refine Go.Sl.ow_nil ?_
            refine Go.Sl.xw_nx ?_
            refine Go.Sl.aw_pure 17 rfl (by decide +kernel) rfl rfl (Go.Sl.v_pick_true rfl rfl) rfl ?_
            refine Go.Sl.aw_end (by decide +kernel) ?_
            refine Go.Sl.xw_np ?_
            refine Go.Sl.xw_then ?_
            refine Go.Sl.cw_true rfl ?_
            refine Go.Sl.cw_seq ?_
            refine Go.Sl.cw_region ?_
            refine Go.Sl.ow_val rfl rfl (Go.Sl.v_assign rfl) ?_
            refine Go.Sl.ow_nil ?_
            refine Go.Sl.xw_then ?_
            refine Go.Sl.cw_ret ?_
            refine Go.Sl.xw_joint_ret ?_
            refine Go.Sl.xw_block_ret ?_
            refine Go.Sl.xw_then_ret ?_
            refine Go.Sl.xw_round_ret ?_
            refine Go.Sl.xw_block_ret ?_
            refine Go.Sl.xw_then_ret ?_
            refine Go.Sl.ret1 rfl (Go.Sl.res_tmp rfl) ?_
            rotate_left
            refine Go.Sl.ow_skip rfl rfl ?_
            refine Go.Sl.ow_nil ?_
            refine Go.Sl.xw_nx ?_
            refine Go.Sl.aw_step2 13 15 (by decide +kernel) rfl rfl ?_ ?_
            refine Go.Sl.ow_skip rfl rfl ?_
            refine Go.Sl.ow_nil ?_
            refine Go.Sl.xw_nx ?_
            refine Go.Sl.aw_step1 15 (by decide +kernel) rfl ?_
            refine Go.Sl.ow_skip rfl rfl ?_
            refine Go.Sl.ow_nil ?_
            refine Go.Sl.xw_nx ?_
            refine Go.Sl.aw_step1 16 (by decide +kernel) rfl ?_
            refine Go.Sl.ow_skip rfl rfl ?_
            refine Go.Sl.ow_nil ?_
            refine Go.Sl.xw_nx ?_
            refine Go.Sl.aw_pure 17 rfl (by decide +kernel) rfl rfl (Go.Sl.v_pick_true rfl rfl) rfl ?_
            refine Go.Sl.aw_end (by decide +kernel) ?_
            refine Go.Sl.xw_np ?_
            refine Go.Sl.xw_then ?_
            refine Go.Sl.cw_true rfl ?_
            refine Go.Sl.cw_seq ?_
            refine Go.Sl.cw_region ?_
            refine Go.Sl.ow_val rfl rfl (Go.Sl.v_assign rfl) ?_
            refine Go.Sl.ow_nil ?_
            refine Go.Sl.xw_then ?_
            refine Go.Sl.cw_ret ?_
            refine Go.Sl.xw_joint_ret ?_
            refine Go.Sl.xw_block_ret ?_
            refine Go.Sl.xw_then_ret ?_
            refine Go.Sl.xw_round_ret ?_
            refine Go.Sl.xw_block_ret ?_
            refine Go.Sl.xw_then_ret ?_
            refine Go.Sl.ret1 rfl (Go.Sl.res_tmp rfl) ?_
            rotate_left
            refine Go.Sl.ow_skip rfl rfl ?_
            refine Go.Sl.ow_nil ?_
            refine Go.Sl.xw_nx ?_
            refine Go.Sl.aw_step1 13 (by decide +kernel) rfl ?_
            refine Go.Sl.ow_skip rfl rfl ?_
            refine Go.Sl.ow_nil ?_
            refine Go.Sl.xw_nx ?_
            refine Go.Sl.aw_step1 16 (by decide +kernel) rfl ?_
            refine Go.Sl.ow_skip rfl rfl ?_
            refine Go.Sl.ow_nil ?_
            refine Go.Sl.xw_nx ?_
            refine Go.Sl.aw_pure 17 rfl (by decide +kernel) rfl rfl (Go.Sl.v_pick_true rfl rfl) rfl ?_
            refine Go.Sl.aw_end (by decide +kernel) ?_
            refine Go.Sl.xw_np ?_
            refine Go.Sl.xw_then ?_
            refine Go.Sl.cw_true rfl ?_
            refine Go.Sl.cw_seq ?_
            refine Go.Sl.cw_region ?_
            refine Go.Sl.ow_val rfl rfl (Go.Sl.v_assign rfl) ?_
            refine Go.Sl.ow_nil ?_
            refine Go.Sl.xw_then ?_
            refine Go.Sl.cw_ret ?_
            refine Go.Sl.xw_joint_ret ?_
            refine Go.Sl.xw_block_ret ?_
            refine Go.Sl.xw_then_ret ?_
            refine Go.Sl.xw_round_ret ?_
            refine Go.Sl.xw_block_ret ?_
            refine Go.Sl.xw_then_ret ?_
            refine Go.Sl.ret1 rfl (Go.Sl.res_tmp rfl) ?_
            rotate_left
            refine Go.Sl.ow_skip rfl rfl ?_
            refine Go.Sl.ow_nil ?_
            refine Go.Sl.xw_nx ?_
            refine Go.Sl.aw_step2 12 15 (by decide +kernel) rfl rfl ?_ ?_
            refine Go.Sl.ow_skip rfl rfl ?_
            refine Go.Sl.ow_nil ?_
            refine Go.Sl.xw_nx ?_
            refine Go.Sl.aw_step2 13 15 (by decide +kernel) rfl rfl ?_ ?_
            refine Go.Sl.ow_skip rfl rfl ?_
            refine Go.Sl.ow_nil ?_
            refine Go.Sl.xw_nx ?_
            refine Go.Sl.aw_step1 15 (by decide +kernel) rfl ?_
            refine Go.Sl.ow_skip rfl rfl ?_
            refine Go.Sl.ow_nil ?_
            refine Go.Sl.xw_nx ?_
            refine Go.Sl.aw_step1 16 (by decide +kernel) rfl ?_
            refine Go.Sl.ow_skip rfl rfl ?_
            refine Go.Sl.ow_nil ?_
            refine Go.Sl.xw_nx ?_
            refine Go.Sl.aw_pure 17 rfl (by decide +kernel) rfl rfl (Go.Sl.v_pick_true rfl rfl) rfl ?_
            refine Go.Sl.aw_end (by decide +kernel) ?_
            refine Go.Sl.xw_np ?_
            refine Go.Sl.xw_then ?_
            refine Go.Sl.cw_true rfl ?_
            refine Go.Sl.cw_seq ?_
            refine Go.Sl.cw_region ?_
            refine Go.Sl.ow_val rfl rfl (Go.Sl.v_assign rfl) ?_
            refine Go.Sl.ow_nil ?_
            refine Go.Sl.xw_then ?_
            refine Go.Sl.cw_ret ?_
            refine Go.Sl.xw_joint_ret ?_
            refine Go.Sl.xw_block_ret ?_
            refine Go.Sl.xw_then_ret ?_
            refine Go.Sl.xw_round_ret ?_
            refine Go.Sl.xw_block_ret ?_
            refine Go.Sl.xw_then_ret ?_
            refine Go.Sl.ret1 rfl (Go.Sl.res_tmp rfl) ?_
            rotate_left
            refine Go.Sl.ow_skip rfl rfl ?_
            refine Go.Sl.ow_nil ?_
            refine Go.Sl.xw_nx ?_
            refine Go.Sl.aw_step1 13 (by decide +kernel) rfl ?_
            refine Go.Sl.ow_skip rfl rfl ?_
            refine Go.Sl.ow_nil ?_
            refine Go.Sl.xw_nx ?_
            refine Go.Sl.aw_step1 16 (by decide +kernel) rfl ?_
            refine Go.Sl.ow_skip rfl rfl ?_
            refine Go.Sl.ow_nil ?_
            refine Go.Sl.xw_nx ?_
            refine Go.Sl.aw_pure 17 rfl (by decide +kernel) rfl rfl (Go.Sl.v_pick_true rfl rfl) rfl ?_
            refine Go.Sl.aw_end (by decide +kernel) ?_
            refine Go.Sl.xw_np ?_
            refine Go.Sl.xw_then ?_
            refine Go.Sl.cw_true rfl ?_
            refine Go.Sl.cw_seq ?_
            refine Go.Sl.cw_region ?_
            refine Go.Sl.ow_val rfl rfl (Go.Sl.v_assign rfl) ?_
            refine Go.Sl.ow_nil ?_
            refine Go.Sl.xw_then ?_
            refine Go.Sl.cw_ret ?_
            refine Go.Sl.xw_joint_ret ?_
            refine Go.Sl.xw_block_ret ?_
            refine Go.Sl.xw_then_ret ?_
            refine Go.Sl.xw_round_ret ?_
            refine Go.Sl.xw_block_ret ?_
            refine Go.Sl.xw_then_ret ?_
            refine Go.Sl.ret1 rfl (Go.Sl.res_tmp rfl) ?_
            rotate_left
            refine Go.Sl.ow_skip rfl rfl ?_
            refine Go.Sl.ow_nil ?_
            refine Go.Sl.xw_nx ?_
            refine Go.Sl.aw_step1 12 (by decide +kernel) rfl ?_
            refine Go.Sl.ow_skip rfl rfl ?_
            refine Go.Sl.ow_nil ?_
            refine Go.Sl.xw_nx ?_
            refine Go.Sl.aw_step1 13 (by decide +kernel) rfl ?_
            refine Go.Sl.ow_skip rfl rfl ?_
            refine Go.Sl.ow_nil ?_
            refine Go.Sl.xw_nx ?_
            refine Go.Sl.aw_step1 16 (by decide +kernel) rfl ?_
            refine Go.Sl.ow_skip rfl rfl ?_
            refine Go.Sl.ow_nil ?_
            refine Go.Sl.xw_nx ?_
            refine Go.Sl.aw_pure 17 rfl (by decide +kernel) rfl rfl (Go.Sl.v_pick_true rfl rfl) rfl ?_
            refine Go.Sl.aw_end (by decide +kernel) ?_
            refine Go.Sl.xw_np ?_
            refine Go.Sl.xw_then ?_
            refine Go.Sl.cw_true rfl ?_
            refine Go.Sl.cw_seq ?_
            refine Go.Sl.cw_region ?_
            refine Go.Sl.ow_val rfl rfl (Go.Sl.v_assign rfl) ?_
            refine Go.Sl.ow_nil ?_
            refine Go.Sl.xw_then ?_
            refine Go.Sl.cw_ret ?_
            refine Go.Sl.xw_joint_ret ?_
            refine Go.Sl.xw_block_ret ?_
            refine Go.Sl.xw_then_ret ?_
            refine Go.Sl.xw_round_ret ?_
            refine Go.Sl.xw_block_ret ?_
            refine Go.Sl.xw_then_ret ?_
            refine Go.Sl.ret1 rfl (Go.Sl.res_tmp rfl) ?_
            rotate_left
            refine Go.Sl.ow_val rfl rfl (Go.Sl.v_move rfl) ?_
            refine Go.Sl.ow_nil ?_
            refine Go.Sl.xw_nx ?_
            refine Go.Sl.aw_step2 7 8 (by decide +kernel) rfl rfl ?_ ?_
            refine Go.Sl.ow_val rfl rfl (Go.Sl.v_call rfl rfl (now_c hO' (by repeat (first | exact Go.Sl.Sub.here | assumption | refine Go.Sl.Sub.there ?_)) hw')) ?_
            refine Go.Sl.ow_nil ?_
            refine Go.Sl.xw_nx ?_
            refine Go.Sl.aw_step1 8 (by decide +kernel) rfl ?_
            refine Go.Sl.ow_val rfl rfl (Go.Sl.v_load rfl (Go.Sl.Var.atE (eTy) (.there (.there .here)) (by assumption))) ?_
            refine Go.Sl.ow_nil ?_
            refine Go.Sl.xw_nx ?_
            refine Go.Sl.aw_pure 9 rfl (by decide +kernel) rfl rfl (Go.Sl.v_neqA rfl rfl Ty.gt30 (eqE hfo' hfo')) rfl ?_
            refine Go.Sl.aw_pure 10 rfl (by decide +kernel) rfl rfl (Go.Sl.v_pick_false rfl rfl) rfl ?_
            refine Go.Sl.aw_pure 11 rfl (by decide +kernel) rfl rfl (Go.Sl.v_move rfl) rfl ?_
            refine Go.Sl.aw_step2 12 14 (by decide +kernel) rfl rfl ?_ ?_
            refine Go.Sl.ow_dec 381 rfl (fun hc381 => ?_) (fun hc381 => ?_)
            refine Go.Sl.ow_skip rfl rfl ?_
            refine Go.Sl.ow_nil ?_
            refine Go.Sl.xw_nx ?_
            refine Go.Sl.aw_step2 13 14 (by decide +kernel) rfl rfl ?_ ?_
            refine Go.Sl.ow_skip rfl rfl ?_
            refine Go.Sl.ow_nil ?_
            refine Go.Sl.xw_nx ?_
            refine Go.Sl.aw_step1 14 (by decide +kernel) rfl ?_
            refine Go.Sl.ow_skip rfl rfl ?_
            refine Go.Sl.ow_nil ?_
            refine Go.Sl.xw_nx ?_
            refine Go.Sl.aw_step1 15 (by decide +kernel) rfl ?_
            refine Go.Sl.ow_skip rfl rfl ?_
            refine Go.Sl.ow_nil ?_
            refine Go.Sl.xw_nx ?_
            refine Go.Sl.aw_step1 16 (by decide +kernel) rfl ?_
            refine Go.Sl.ow_skip rfl rfl ?_
            refine Go.Sl.ow_nil ?_
            refine Go.Sl.xw_nx ?_
            refine Go.Sl.aw_pure 17 rfl (by decide +kernel) rfl rfl (Go.Sl.v_pick_true rfl rfl) rfl ?_
            refine Go.Sl.aw_end (by decide +kernel) ?_
            refine Go.Sl.xw_np ?_
            refine Go.Sl.xw_then ?_
            refine Go.Sl.cw_true rfl ?_
            refine Go.Sl.cw_seq ?_
            refine Go.Sl.cw_region ?_
            refine Go.Sl.ow_val rfl rfl (Go.Sl.v_assign rfl) ?_
            refine Go.Sl.ow_nil ?_
            refine Go.Sl.xw_then ?_
            refine Go.Sl.cw_ret ?_
            refine Go.Sl.xw_joint_ret ?_
            refine Go.Sl.xw_block_ret ?_
            refine Go.Sl.xw_then_ret ?_
            refine Go.Sl.xw_round_ret ?_
            refine Go.Sl.xw_block_ret ?_
            refine Go.Sl.xw_then_ret ?_
            refine Go.Sl.ret1 rfl (Go.Sl.res_tmp rfl) ?_
            rotate_left
            refine Go.Sl.ow_skip rfl rfl ?_
            refine Go.Sl.ow_nil ?_
            refine Go.Sl.xw_nx ?_
            refine Go.Sl.aw_step2 13 15 (by decide +kernel) rfl rfl ?_ ?_
            refine Go.Sl.ow_skip rfl rfl ?_
            refine Go.Sl.ow_nil ?_
            refine Go.Sl.xw_nx ?_
            refine Go.Sl.aw_step1 15 (by decide +kernel) rfl ?_
            refine Go.Sl.ow_skip rfl rfl ?_
            refine Go.Sl.ow_nil ?_
            refine Go.Sl.xw_nx ?_
            refine Go.Sl.aw_step1 16 (by decide +kernel) rfl ?_
            refine Go.Sl.ow_skip rfl rfl ?_
            refine Go.Sl.ow_nil ?_
            refine Go.Sl.xw_nx ?_
            refine Go.Sl.aw_pure 17 rfl (by decide +kernel) rfl rfl (Go.Sl.v_pick_true rfl rfl) rfl ?_
            refine Go.Sl.aw_end (by decide +kernel) ?_
            refine Go.Sl.xw_np ?_
            refine Go.Sl.xw_then ?_
            refine Go.Sl.cw_true rfl ?_
            refine Go.Sl.cw_seq ?_
            refine Go.Sl.cw_region ?_
            refine Go.Sl.ow_val rfl rfl (Go.Sl.v_assign rfl) ?_
            refine Go.Sl.ow_nil ?_
            refine Go.Sl.xw_then ?_
            refine Go.Sl.cw_ret ?_
            refine Go.Sl.xw_joint_ret ?_
            refine Go.Sl.xw_block_ret ?_
            refine Go.Sl.xw_then_ret ?_
            refine Go.Sl.xw_round_ret ?_
            refine Go.Sl.xw_block_ret ?_
            refine Go.Sl.xw_then_ret ?_
            refine Go.Sl.ret1 rfl (Go.Sl.res_tmp rfl) ?_
            rotate_left
            refine Go.Sl.ow_skip rfl rfl ?_
            refine Go.Sl.ow_nil ?_
            refine Go.Sl.xw_nx ?_
            refine Go.Sl.aw_step1 13 (by decide +kernel) rfl ?_
            refine Go.Sl.ow_skip rfl rfl ?_
            refine Go.Sl.ow_nil ?_
            refine Go.Sl.xw_nx ?_
            refine Go.Sl.aw_step1 16 (by decide +kernel) rfl ?_
            refine Go.Sl.ow_skip rfl rfl ?_
            refine Go.Sl.ow_nil ?_
            refine Go.Sl.xw_nx ?_
            refine Go.Sl.aw_pure 17 rfl (by decide +kernel) rfl rfl (Go.Sl.v_pick_true rfl rfl) rfl ?_
            refine Go.Sl.aw_end (by decide +kernel) ?_
            refine Go.Sl.xw_np ?_
            refine Go.Sl.xw_then ?_
            refine Go.Sl.cw_true rfl ?_
            refine Go.Sl.cw_seq ?_
            refine Go.Sl.cw_region ?_
            refine Go.Sl.ow_val rfl rfl (Go.Sl.v_assign rfl) ?_
            refine Go.Sl.ow_nil ?_
            refine Go.Sl.xw_then ?_
            refine Go.Sl.cw_ret ?_
            refine Go.Sl.xw_joint_ret ?_
            refine Go.Sl.xw_block_ret ?_
            refine Go.Sl.xw_then_ret ?_
            refine Go.Sl.xw_round_ret ?_
            refine Go.Sl.xw_block_ret ?_
            refine Go.Sl.xw_then_ret ?_
            refine Go.Sl.ret1 rfl (Go.Sl.res_tmp rfl) ?_
            rotate_left
            refine Go.Sl.ow_val rfl rfl (Go.Sl.v_move rfl) ?_
            refine Go.Sl.ow_nil ?_
            refine Go.Sl.xw_nx ?_
            refine Go.Sl.aw_pure 13 rfl (by decide +kernel) rfl rfl (Go.Sl.v_len rfl Try.underlying32 rfl) rfl ?_
            refine Go.Sl.aw_step1 14 (by decide +kernel) rfl ?_
            refine Go.Sl.ow_val rfl rfl (Go.Sl.v_load rfl (Go.Sl.Var.at1 Ty.sc32 (.there (.there (.there .here))) (Go.Sl.GetN.lit rfl))) ?_
            refine Go.Sl.ow_nil ?_
            refine Go.Sl.xw_nx ?_
            refine Go.Sl.aw_pure 15 rfl (by decide +kernel) rfl rfl (Go.Sl.v_len rfl Try.underlying32 rfl) rfl ?_
            refine Go.Sl.aw_pure 16 rfl (by decide +kernel) rfl rfl (Go.Sl.v_neq rfl rfl) rfl ?_
            refine Go.Sl.aw_pure 17 rfl (by decide +kernel) rfl rfl (Go.Sl.v_pick_false rfl rfl) rfl ?_
            refine Go.Sl.aw_end (by decide +kernel) ?_
            refine Go.Sl.xw_np ?_
            refine Go.Sl.xw_then ?_
            refine Go.Sl.cw_dec rfl (fun hc387 => ?_) (fun hc387 => ?_)
            (exfalso; omega)
            refine Go.Sl.cw_skip ?_
            rotate_left
            refine Go.Sl.ow_dec 381 rfl (fun hc381 => ?_) (fun hc381 => ?_)
            refine Go.Sl.ow_skip rfl rfl ?_
            refine Go.Sl.ow_nil ?_
            refine Go.Sl.xw_nx ?_
            refine Go.Sl.aw_step2 12 15 (by decide +kernel) rfl rfl ?_ ?_
            refine Go.Sl.ow_skip rfl rfl ?_
            refine Go.Sl.ow_nil ?_
            refine Go.Sl.xw_nx ?_
            refine Go.Sl.aw_step2 13 15 (by decide +kernel) rfl rfl ?_ ?_
            refine Go.Sl.ow_skip rfl rfl ?_
            refine Go.Sl.ow_nil ?_
            refine Go.Sl.xw_nx ?_
            refine Go.Sl.aw_step1 15 (by decide +kernel) rfl ?_
            refine Go.Sl.ow_skip rfl rfl ?_
            refine Go.Sl.ow_nil ?_
            refine Go.Sl.xw_nx ?_
            refine Go.Sl.aw_step1 16 (by decide +kernel) rfl ?_
            refine Go.Sl.ow_skip rfl rfl ?_
            refine Go.Sl.ow_nil ?_
            refine Go.Sl.xw_nx ?_
            refine Go.Sl.aw_pure 17 rfl (by decide +kernel) rfl rfl (Go.Sl.v_pick_true rfl rfl) rfl ?_
            refine Go.Sl.aw_end (by decide +kernel) ?_
            refine Go.Sl.xw_np ?_
            refine Go.Sl.xw_then ?_
            refine Go.Sl.cw_true rfl ?_
            refine Go.Sl.cw_seq ?_
            refine Go.Sl.cw_region ?_
            refine Go.Sl.ow_val rfl rfl (Go.Sl.v_assign rfl) ?_
            refine Go.Sl.ow_nil ?_
            refine Go.Sl.xw_then ?_
            refine Go.Sl.cw_ret ?_
            refine Go.Sl.xw_joint_ret ?_
            refine Go.Sl.xw_block_ret ?_
            refine Go.Sl.xw_then_ret ?_
            refine Go.Sl.xw_round_ret ?_
            refine Go.Sl.xw_block_ret ?_
            refine Go.Sl.xw_then_ret ?_
            refine Go.Sl.ret1 rfl (Go.Sl.res_tmp rfl) ?_
            rotate_left
            refine Go.Sl.ow_skip rfl rfl ?_
            refine Go.Sl.ow_nil ?_
            refine Go.Sl.xw_nx ?_
            refine Go.Sl.aw_step1 13 (by decide +kernel) rfl ?_
            refine Go.Sl.ow_skip rfl rfl ?_
            refine Go.Sl.ow_nil ?_
            refine Go.Sl.xw_nx ?_
            refine Go.Sl.aw_step1 16 (by decide +kernel) rfl ?_
            refine Go.Sl.ow_skip rfl rfl ?_
            refine Go.Sl.ow_nil ?_
            refine Go.Sl.xw_nx ?_
            refine Go.Sl.aw_pure 17 rfl (by decide +kernel) rfl rfl (Go.Sl.v_pick_true rfl rfl) rfl ?_
            refine Go.Sl.aw_end (by decide +kernel) ?_
            refine Go.Sl.xw_np ?_
            refine Go.Sl.xw_then ?_
            refine Go.Sl.cw_true rfl ?_
            refine Go.Sl.cw_seq ?_
            refine Go.Sl.cw_region ?_
            refine Go.Sl.ow_val rfl rfl (Go.Sl.v_assign rfl) ?_
            refine Go.Sl.ow_nil ?_
            refine Go.Sl.xw_then ?_
            refine Go.Sl.cw_ret ?_
            refine Go.Sl.xw_joint_ret ?_
            refine Go.Sl.xw_block_ret ?_
            refine Go.Sl.xw_then_ret ?_
            refine Go.Sl.xw_round_ret ?_
            refine Go.Sl.xw_block_ret ?_
            refine Go.Sl.xw_then_ret ?_
            refine Go.Sl.ret1 rfl (Go.Sl.res_tmp rfl) ?_
            rotate_left
            refine Go.Sl.ow_skip rfl rfl ?_
            refine Go.Sl.ow_nil ?_
            refine Go.Sl.xw_nx ?_
            refine Go.Sl.aw_step1 12 (by decide +kernel) rfl ?_
            refine Go.Sl.ow_skip rfl rfl ?_
            refine Go.Sl.ow_nil ?_
            refine Go.Sl.xw_nx ?_
            refine Go.Sl.aw_step1 13 (by decide +kernel) rfl ?_
            refine Go.Sl.ow_skip rfl rfl ?_
            refine Go.Sl.ow_nil ?_
            refine Go.Sl.xw_nx ?_
            refine Go.Sl.aw_step1 16 (by decide +kernel) rfl ?_
            refine Go.Sl.ow_skip rfl rfl ?_
            refine Go.Sl.ow_nil ?_
            refine Go.Sl.xw_nx ?_
            refine Go.Sl.aw_pure 17 rfl (by decide +kernel) rfl rfl (Go.Sl.v_pick_true rfl rfl) rfl ?_
            refine Go.Sl.aw_end (by decide +kernel) ?_
            refine Go.Sl.xw_np ?_
            refine Go.Sl.xw_then ?_
            refine Go.Sl.cw_true rfl ?_
            refine Go.Sl.cw_seq ?_
            refine Go.Sl.cw_region ?_
            refine Go.Sl.ow_val rfl rfl (Go.Sl.v_assign rfl) ?_
            refine Go.Sl.ow_nil ?_
            refine Go.Sl.xw_then ?_
            refine Go.Sl.cw_ret ?_
            refine Go.Sl.xw_joint_ret ?_
            refine Go.Sl.xw_block_ret ?_
            refine Go.Sl.xw_then_ret ?_
            refine Go.Sl.xw_round_ret ?_
            refine Go.Sl.xw_block_ret ?_
            refine Go.Sl.xw_then_ret ?_
            refine Go.Sl.ret1 rfl (Go.Sl.res_tmp rfl) ?_
            rotate_left
            refine Go.Sl.ow_val rfl rfl (Go.Sl.v_load rfl (Go.Sl.Var.at1 Ty.sc32 (.there (.there (.there .here))) (Go.Sl.GetN.lit rfl))) ?_
            refine Go.Sl.ow_nil ?_
            refine Go.Sl.xw_nx ?_
            refine Go.Sl.aw_pure 12 rfl (by decide +kernel) rfl rfl (Go.Sl.v_move rfl) rfl ?_
            refine Go.Sl.aw_pure 13 rfl (by decide +kernel) rfl rfl (Go.Sl.v_len rfl Try.underlying32 rfl) rfl ?_
            refine Go.Sl.aw_pure 15 rfl (by decide +kernel) rfl rfl (Go.Sl.v_len rfl Try.underlying32 rfl) rfl ?_
            refine Go.Sl.aw_pure 16 rfl (by decide +kernel) rfl rfl (Go.Sl.v_neq rfl rfl) rfl ?_
            refine Go.Sl.aw_pure 17 rfl (by decide +kernel) rfl rfl (Go.Sl.v_pick_false rfl rfl) rfl ?_
            refine Go.Sl.aw_end (by decide +kernel) ?_
            refine Go.Sl.xw_np ?_
            refine Go.Sl.xw_then ?_
            refine Go.Sl.cw_dec rfl (fun hc387 => ?_) (fun hc387 => ?_)
            (exfalso; omega)
            refine Go.Sl.cw_skip ?_
            rotate_left
            refine Go.Sl.ow_val rfl rfl (Go.Sl.v_load rfl (Go.Sl.Var.atE (eTy) (.there (.there .here)) (by assumption))) ?_
            refine Go.Sl.ow_nil ?_
            refine Go.Sl.xw_nx ?_
            refine Go.Sl.aw_step1 7 (by decide +kernel) rfl ?_
            refine Go.Sl.ow_val rfl rfl (Go.Sl.v_call rfl rfl (now_c hO' (by repeat (first | exact Go.Sl.Sub.here | assumption | refine Go.Sl.Sub.there ?_)) hw')) ?_
            refine Go.Sl.ow_nil ?_
            refine Go.Sl.xw_nx ?_
            refine Go.Sl.aw_pure 9 rfl (by decide +kernel) rfl rfl (Go.Sl.v_neqA rfl rfl Ty.gt30 (eqE hfo' hfo')) rfl ?_
            refine Go.Sl.aw_pure 10 rfl (by decide +kernel) rfl rfl (Go.Sl.v_pick_false rfl rfl) rfl ?_
            refine Go.Sl.aw_pure 11 rfl (by decide +kernel) rfl rfl (Go.Sl.v_move rfl) rfl ?_
            refine Go.Sl.aw_step2 12 14 (by decide +kernel) rfl rfl ?_ ?_
            refine Go.Sl.ow_dec 381 rfl (fun hc381 => ?_) (fun hc381 => ?_)
            refine Go.Sl.ow_skip rfl rfl ?_
            refine Go.Sl.ow_nil ?_
            refine Go.Sl.xw_nx ?_
            refine Go.Sl.aw_step2 13 14 (by decide +kernel) rfl rfl ?_ ?_
            refine Go.Sl.ow_skip rfl rfl ?_
            refine Go.Sl.ow_nil ?_
            refine Go.Sl.xw_nx ?_
            refine Go.Sl.aw_step1 14 (by decide +kernel) rfl ?_
            refine Go.Sl.ow_skip rfl rfl ?_
            refine Go.Sl.ow_nil ?_
            refine Go.Sl.xw_nx ?_
            refine Go.Sl.aw_step1 15 (by decide +kernel) rfl ?_
            refine Go.Sl.ow_skip rfl rfl ?_
            refine Go.Sl.ow_nil ?_
            refine Go.Sl.xw_nx ?_
            refine Go.Sl.aw_step1 16 (by decide +kernel) rfl ?_
            refine Go.Sl.ow_skip rfl rfl ?_
            refine Go.Sl.ow_nil ?_
            refine Go.Sl.xw_nx ?_
            refine Go.Sl.aw_pure 17 rfl (by decide +kernel) rfl rfl (Go.Sl.v_pick_true rfl rfl) rfl ?_
            refine Go.Sl.aw_end (by decide +kernel) ?_
            refine Go.Sl.xw_np ?_
            refine Go.Sl.xw_then ?_
            refine Go.Sl.cw_true rfl ?_
            refine Go.Sl.cw_seq ?_
            refine Go.Sl.cw_region ?_
            refine Go.Sl.ow_val rfl rfl (Go.Sl.v_assign rfl) ?_
            refine Go.Sl.ow_nil ?_
            refine Go.Sl.xw_then ?_
            refine Go.Sl.cw_ret ?_
            refine Go.Sl.xw_joint_ret ?_
            refine Go.Sl.xw_block_ret ?_
            refine Go.Sl.xw_then_ret ?_
            refine Go.Sl.xw_round_ret ?_
            refine Go.Sl.xw_block_ret ?_
            refine Go.Sl.xw_then_ret ?_
            refine Go.Sl.ret1 rfl (Go.Sl.res_tmp rfl) ?_
            rotate_left
            refine Go.Sl.ow_skip rfl rfl ?_
            refine Go.Sl.ow_nil ?_
            refine Go.Sl.xw_nx ?_
            refine Go.Sl.aw_step2 13 15 (by decide +kernel) rfl rfl ?_ ?_
            refine Go.Sl.ow_skip rfl rfl ?_
            refine Go.Sl.ow_nil ?_
            refine Go.Sl.xw_nx ?_
            refine Go.Sl.aw_step1 15 (by decide +kernel) rfl ?_
            refine Go.Sl.ow_skip rfl rfl ?_
            refine Go.Sl.ow_nil ?_
            refine Go.Sl.xw_nx ?_
            refine Go.Sl.aw_step1 16 (by decide +kernel) rfl ?_
            refine Go.Sl.ow_skip rfl rfl ?_
            refine Go.Sl.ow_nil ?_
            refine Go.Sl.xw_nx ?_
            refine Go.Sl.aw_pure 17 rfl (by decide +kernel) rfl rfl (Go.Sl.v_pick_true rfl rfl) rfl ?_
            refine Go.Sl.aw_end (by decide +kernel) ?_
            refine Go.Sl.xw_np ?_
            refine Go.Sl.xw_then ?_
            refine Go.Sl.cw_true rfl ?_
            refine Go.Sl.cw_seq ?_
            refine Go.Sl.cw_region ?_
            refine Go.Sl.ow_val rfl rfl (Go.Sl.v_assign rfl) ?_
            refine Go.Sl.ow_nil ?_
            refine Go.Sl.xw_then ?_
            refine Go.Sl.cw_ret ?_
            refine Go.Sl.xw_joint_ret ?_
            refine Go.Sl.xw_block_ret ?_
            refine Go.Sl.xw_then_ret ?_
            refine Go.Sl.xw_round_ret ?_
            refine Go.Sl.xw_block_ret ?_
            refine Go.Sl.xw_then_ret ?_
            refine Go.Sl.ret1 rfl (Go.Sl.res_tmp rfl) ?_
            rotate_left
            refine Go.Sl.ow_skip rfl rfl ?_
            refine Go.Sl.ow_nil ?_
            refine Go.Sl.xw_nx ?_
            refine Go.Sl.aw_step1 13 (by decide +kernel) rfl ?_
            refine Go.Sl.ow_skip rfl rfl ?_
            refine Go.Sl.ow_nil ?_
            refine Go.Sl.xw_nx ?_
            refine Go.Sl.aw_step1 16 (by decide +kernel) rfl ?_
            refine Go.Sl.ow_skip rfl rfl ?_
            refine Go.Sl.ow_nil ?_
            refine Go.Sl.xw_nx ?_
            refine Go.Sl.aw_pure 17 rfl (by decide +kernel) rfl rfl (Go.Sl.v_pick_true rfl rfl) rfl ?_
            refine Go.Sl.aw_end (by decide +kernel) ?_
            refine Go.Sl.xw_np ?_
            refine Go.Sl.xw_then ?_
            refine Go.Sl.cw_true rfl ?_
            refine Go.Sl.cw_seq ?_
            refine Go.Sl.cw_region ?_
            refine Go.Sl.ow_val rfl rfl (Go.Sl.v_assign rfl) ?_
            refine Go.Sl.ow_nil ?_
            refine Go.Sl.xw_then ?_
            refine Go.Sl.cw_ret ?_
            refine Go.Sl.xw_joint_ret ?_
            refine Go.Sl.xw_block_ret ?_
            refine Go.Sl.xw_then_ret ?_
            refine Go.Sl.xw_round_ret ?_
            refine Go.Sl.xw_block_ret ?_
            refine Go.Sl.xw_then_ret ?_
            refine Go.Sl.ret1 rfl (Go.Sl.res_tmp rfl) ?_
            rotate_left
            refine Go.Sl.ow_val rfl rfl (Go.Sl.v_move rfl) ?_
            refine Go.Sl.ow_nil ?_
            refine Go.Sl.xw_nx ?_
            refine Go.Sl.aw_pure 13 rfl (by decide +kernel) rfl rfl (Go.Sl.v_len rfl Try.underlying32 rfl) rfl ?_
            refine Go.Sl.aw_step1 14 (by decide +kernel) rfl ?_
            refine Go.Sl.ow_val rfl rfl (Go.Sl.v_load rfl (Go.Sl.Var.at1 Ty.sc32 (.there (.there (.there .here))) (Go.Sl.GetN.lit rfl))) ?_
            refine Go.Sl.ow_nil ?_
            refine Go.Sl.xw_nx ?_
            refine Go.Sl.aw_pure 15 rfl (by decide +kernel) rfl rfl (Go.Sl.v_len rfl Try.underlying32 rfl) rfl ?_
            refine Go.Sl.aw_pure 16 rfl (by decide +kernel) rfl rfl (Go.Sl.v_neq rfl rfl) rfl ?_
            refine Go.Sl.aw_pure 17 rfl (by decide +kernel) rfl rfl (Go.Sl.v_pick_false rfl rfl) rfl ?_
            refine Go.Sl.aw_end (by decide +kernel) ?_
            refine Go.Sl.xw_np ?_
            refine Go.Sl.xw_then ?_
            refine Go.Sl.cw_dec rfl (fun hc387 => ?_) (fun hc387 => ?_)
            (exfalso; omega)
            refine Go.Sl.cw_skip ?_
            rotate_left
            refine Go.Sl.ow_dec 381 rfl (fun hc381 => ?_) (fun hc381 => ?_)
            refine Go.Sl.ow_skip rfl rfl ?_
            refine Go.Sl.ow_nil ?_
            refine Go.Sl.xw_nx ?_
            refine Go.Sl.aw_step2 12 15 (by decide +kernel) rfl rfl ?_ ?_
            refine Go.Sl.ow_skip rfl rfl ?_
            refine Go.Sl.ow_nil ?_
            refine Go.Sl.xw_nx ?_
            refine Go.Sl.aw_step2 13 15 (by decide +kernel) rfl rfl ?_ ?_
            refine Go.Sl.ow_skip rfl rfl ?_
            refine Go.Sl.ow_nil ?_
            refine Go.Sl.xw_nx ?_
            refine Go.Sl.aw_step1 15 (by decide +kernel) rfl ?_
            refine Go.Sl.ow_skip rfl rfl ?_
            refine Go.Sl.ow_nil ?_
            refine Go.Sl.xw_nx ?_
            refine Go.Sl.aw_step1 16 (by decide +kernel) rfl ?_
            refine Go.Sl.ow_skip rfl rfl ?_
            refine Go.Sl.ow_nil ?_
            refine Go.Sl.xw_nx ?_
            refine Go.Sl.aw_pure 17 rfl (by decide +kernel) rfl rfl (Go.Sl.v_pick_true rfl rfl) rfl ?_
            refine Go.Sl.aw_end (by decide +kernel) ?_
            refine Go.Sl.xw_np ?_
            refine Go.Sl.xw_then ?_
            refine Go.Sl.cw_true rfl ?_
            refine Go.Sl.cw_seq ?_
            refine Go.Sl.cw_region ?_
            refine Go.Sl.ow_val rfl rfl (Go.Sl.v_assign rfl) ?_
            refine Go.Sl.ow_nil ?_
            refine Go.Sl.xw_then ?_
            refine Go.Sl.cw_ret ?_
            refine Go.Sl.xw_joint_ret ?_
            refine Go.Sl.xw_block_ret ?_
            refine Go.Sl.xw_then_ret ?_
            refine Go.Sl.xw_round_ret ?_
            refine Go.Sl.xw_block_ret ?_
            refine Go.Sl.xw_then_ret ?_
            refine Go.Sl.ret1 rfl (Go.Sl.res_tmp rfl) ?_
            rotate_left
            refine Go.Sl.ow_skip rfl rfl ?_
            refine Go.Sl.ow_nil ?_
            refine Go.Sl.xw_nx ?_
            refine Go.Sl.aw_step1 13 (by decide +kernel) rfl ?_
            refine Go.Sl.ow_skip rfl rfl ?_
            refine Go.Sl.ow_nil ?_
            refine Go.Sl.xw_nx ?_
            refine Go.Sl.aw_step1 16 (by decide +kernel) rfl ?_
            refine Go.Sl.ow_skip rfl rfl ?_
            refine Go.Sl.ow_nil ?_
            refine Go.Sl.xw_nx ?_
            refine Go.Sl.aw_pure 17 rfl (by decide +kernel) rfl rfl (Go.Sl.v_pick_true rfl rfl) rfl ?_
            refine Go.Sl.aw_end (by decide +kernel) ?_
            refine Go.Sl.xw_np ?_
            refine Go.Sl.xw_then ?_
            refine Go.Sl.cw_true rfl ?_
            refine Go.Sl.cw_seq ?_
            refine Go.Sl.cw_region ?_
            refine Go.Sl.ow_val rfl rfl (Go.Sl.v_assign rfl) ?_
            refine Go.Sl.ow_nil ?_
            refine Go.Sl.xw_then ?_
            refine Go.Sl.cw_ret ?_
            refine Go.Sl.xw_joint_ret ?_
            refine Go.Sl.xw_block_ret ?_
            refine Go.Sl.xw_then_ret ?_
            refine Go.Sl.xw_round_ret ?_
            refine Go.Sl.xw_block_ret ?_
            refine Go.Sl.xw_then_ret ?_
            refine Go.Sl.ret1 rfl (Go.Sl.res_tmp rfl) ?_
            rotate_left
            refine Go.Sl.ow_skip rfl rfl ?_
            refine Go.Sl.ow_nil ?_
            refine Go.Sl.xw_nx ?_
            refine Go.Sl.aw_step1 12 (by decide +kernel) rfl ?_
            refine Go.Sl.ow_skip rfl rfl ?_
            refine Go.Sl.ow_nil ?_
            refine Go.Sl.xw_nx ?_
            refine Go.Sl.aw_step1 13 (by decide +kernel) rfl ?_
            refine Go.Sl.ow_skip rfl rfl ?_
            refine Go.Sl.ow_nil ?_
            refine Go.Sl.xw_nx ?_
            refine Go.Sl.aw_step1 16 (by decide +kernel) rfl ?_
            refine Go.Sl.ow_skip rfl rfl ?_
            refine Go.Sl.ow_nil ?_
            refine Go.Sl.xw_nx ?_
            refine Go.Sl.aw_pure 17 rfl (by decide +kernel) rfl rfl (Go.Sl.v_pick_true rfl rfl) rfl ?_
            refine Go.Sl.aw_end (by decide +kernel) ?_
            refine Go.Sl.xw_np ?_
            refine Go.Sl.xw_then ?_
            refine Go.Sl.cw_true rfl ?_
            refine Go.Sl.cw_seq ?_
            refine Go.Sl.cw_region ?_
            refine Go.Sl.ow_val rfl rfl (Go.Sl.v_assign rfl) ?_
            refine Go.Sl.ow_nil ?_
            refine Go.Sl.xw_then ?_
            refine Go.Sl.cw_ret ?_
            refine Go.Sl.xw_joint_ret ?_
            refine Go.Sl.xw_block_ret ?_
            refine Go.Sl.xw_then_ret ?_
            refine Go.Sl.xw_round_ret ?_
            refine Go.Sl.xw_block_ret ?_
            refine Go.Sl.xw_then_ret ?_
            refine Go.Sl.ret1 rfl (Go.Sl.res_tmp rfl) ?_
            rotate_left
            refine Go.Sl.ow_val rfl rfl (Go.Sl.v_load rfl (Go.Sl.Var.at1 Ty.sc32 (.there (.there (.there .here))) (Go.Sl.GetN.lit rfl))) ?_
            refine Go.Sl.ow_nil ?_
            refine Go.Sl.xw_nx ?_
            refine Go.Sl.aw_pure 12 rfl (by decide +kernel) rfl rfl (Go.Sl.v_move rfl) rfl ?_
            refine Go.Sl.aw_pure 13 rfl (by decide +kernel) rfl rfl (Go.Sl.v_len rfl Try.underlying32 rfl) rfl ?_
            refine Go.Sl.aw_pure 15 rfl (by decide +kernel) rfl rfl (Go.Sl.v_len rfl Try.underlying32 rfl) rfl ?_
            refine Go.Sl.aw_pure 16 rfl (by decide +kernel) rfl rfl (Go.Sl.v_neq rfl rfl) rfl ?_
            refine Go.Sl.aw_pure 17 rfl (by decide +kernel) rfl rfl (Go.Sl.v_pick_false rfl rfl) rfl ?_
            refine Go.Sl.aw_end (by decide +kernel) ?_
            refine Go.Sl.xw_np ?_
            refine Go.Sl.xw_then ?_
            refine Go.Sl.cw_dec rfl (fun hc387 => ?_) (fun hc387 => ?_)
            (exfalso; omega)
            refine Go.Sl.cw_skip ?_
            rotate_left
            refine Go.Sl.ow_dec 375 rfl (fun hc375 => ?_) (fun hc375 => ?_)
            refine Go.Sl.ow_skip rfl rfl ?_
            refine Go.Sl.ow_nil ?_
            refine Go.Sl.xw_nx ?_
            refine Go.Sl.aw_step1 6 (by decide +kernel) rfl ?_
            refine Go.Sl.ow_skip rfl rfl ?_
            refine Go.Sl.ow_nil ?_
            refine Go.Sl.xw_nx ?_
            refine Go.Sl.aw_step1 7 (by decide +kernel) rfl ?_
            refine Go.Sl.ow_skip rfl rfl ?_
            refine Go.Sl.ow_nil ?_
            refine Go.Sl.xw_nx ?_
            refine Go.Sl.aw_step1 9 (by decide +kernel) rfl ?_
            refine Go.Sl.ow_skip rfl rfl ?_
            refine Go.Sl.ow_nil ?_
            refine Go.Sl.xw_nx ?_
            refine Go.Sl.aw_pure 10 rfl (by decide +kernel) rfl rfl (Go.Sl.v_pick_true rfl rfl) rfl ?_
            refine Go.Sl.aw_pure 11 rfl (by decide +kernel) rfl rfl (Go.Sl.v_move rfl) rfl ?_
            refine Go.Sl.aw_step2 12 14 (by decide +kernel) rfl rfl ?_ ?_
            refine Go.Sl.ow_skip rfl rfl ?_
            refine Go.Sl.ow_nil ?_
            refine Go.Sl.xw_nx ?_
            refine Go.Sl.aw_step2 13 14 (by decide +kernel) rfl rfl ?_ ?_
            refine Go.Sl.ow_skip rfl rfl ?_
            refine Go.Sl.ow_nil ?_
            refine Go.Sl.xw_nx ?_
            refine Go.Sl.aw_step1 14 (by decide +kernel) rfl ?_
            refine Go.Sl.ow_skip rfl rfl ?_
            refine Go.Sl.ow_nil ?_
            refine Go.Sl.xw_nx ?_
            refine Go.Sl.aw_step1 15 (by decide +kernel) rfl ?_
            refine Go.Sl.ow_skip rfl rfl ?_
            refine Go.Sl.ow_nil ?_
            refine Go.Sl.xw_nx ?_
            refine Go.Sl.aw_step1 16 (by decide +kernel) rfl ?_
            refine Go.Sl.ow_skip rfl rfl ?_
            refine Go.Sl.ow_nil ?_
            refine Go.Sl.xw_nx ?_
            refine Go.Sl.aw_pure 17 rfl (by decide +kernel) rfl rfl (Go.Sl.v_pick_true rfl rfl) rfl ?_
            refine Go.Sl.aw_end (by decide +kernel) ?_
            refine Go.Sl.xw_np ?_
            refine Go.Sl.xw_then ?_
            refine Go.Sl.cw_true rfl ?_
            refine Go.Sl.cw_seq ?_
            refine Go.Sl.cw_region ?_
            refine Go.Sl.ow_val rfl rfl (Go.Sl.v_assign rfl) ?_
            refine Go.Sl.ow_nil ?_
            refine Go.Sl.xw_then ?_
            refine Go.Sl.cw_ret ?_
            refine Go.Sl.xw_joint_ret ?_
            refine Go.Sl.xw_block_ret ?_
            refine Go.Sl.xw_then_ret ?_
            refine Go.Sl.xw_round_ret ?_
            refine Go.Sl.xw_block_ret ?_
            refine Go.Sl.xw_then_ret ?_
            refine Go.Sl.ret1 rfl (Go.Sl.res_tmp rfl) ?_
            rotate_left
            refine Go.Sl.ow_skip rfl rfl ?_
            refine Go.Sl.ow_nil ?_
            refine Go.Sl.xw_nx ?_
            refine Go.Sl.aw_step2 13 15 (by decide +kernel) rfl rfl ?_ ?_
            refine Go.Sl.ow_skip rfl rfl ?_
            refine Go.Sl.ow_nil ?_
            refine Go.Sl.xw_nx ?_
            refine Go.Sl.aw_step1 15 (by decide +kernel) rfl ?_
            refine Go.Sl.ow_skip rfl rfl ?_
            refine Go.Sl.ow_nil ?_
            refine Go.Sl.xw_nx ?_
            refine Go.Sl.aw_step1 16 (by decide +kernel) rfl ?_
            refine Go.Sl.ow_skip rfl rfl ?_
            refine Go.Sl.ow_nil ?_
            refine Go.Sl.xw_nx ?_
            refine Go.Sl.aw_pure 17 rfl (by decide +kernel) rfl rfl (Go.Sl.v_pick_true rfl rfl) rfl ?_
            refine Go.Sl.aw_end (by decide +kernel) ?_
            refine Go.Sl.xw_np ?_
            refine Go.Sl.xw_then ?_
            refine Go.Sl.cw_true rfl ?_
            refine Go.Sl.cw_seq ?_
            refine Go.Sl.cw_region ?_
            refine Go.Sl.ow_val rfl rfl (Go.Sl.v_assign rfl) ?_
            refine Go.Sl.ow_nil ?_
            refine Go.Sl.xw_then ?_
            refine Go.Sl.cw_ret ?_
            refine Go.Sl.xw_joint_ret ?_
            refine Go.Sl.xw_block_ret ?_
            refine Go.Sl.xw_then_ret ?_
            refine Go.Sl.xw_round_ret ?_
            refine Go.Sl.xw_block_ret ?_
            refine Go.Sl.xw_then_ret ?_
            refine Go.Sl.ret1 rfl (Go.Sl.res_tmp rfl) ?_
            rotate_left
            refine Go.Sl.ow_skip rfl rfl ?_
            refine Go.Sl.ow_nil ?_
            refine Go.Sl.xw_nx ?_
            refine Go.Sl.aw_step1 13 (by decide +kernel) rfl ?_
            refine Go.Sl.ow_skip rfl rfl ?_
            refine Go.Sl.ow_nil ?_
            refine Go.Sl.xw_nx ?_
            refine Go.Sl.aw_step1 16 (by decide +kernel) rfl ?_
            refine Go.Sl.ow_skip rfl rfl ?_
            refine Go.Sl.ow_nil ?_
            refine Go.Sl.xw_nx ?_
            refine Go.Sl.aw_pure 17 rfl (by decide +kernel) rfl rfl (Go.Sl.v_pick_true rfl rfl) rfl ?_
            refine Go.Sl.aw_end (by decide +kernel) ?_
            refine Go.Sl.xw_np ?_
            refine Go.Sl.xw_then ?_
            refine Go.Sl.cw_true rfl ?_
            refine Go.Sl.cw_seq ?_
            refine Go.Sl.cw_region ?_
            refine Go.Sl.ow_val rfl rfl (Go.Sl.v_assign rfl) ?_
            refine Go.Sl.ow_nil ?_
            refine Go.Sl.xw_then ?_
            refine Go.Sl.cw_ret ?_
            refine Go.Sl.xw_joint_ret ?_
            refine Go.Sl.xw_block_ret ?_
            refine Go.Sl.xw_then_ret ?_
            refine Go.Sl.xw_round_ret ?_
            refine Go.Sl.xw_block_ret ?_
            refine Go.Sl.xw_then_ret ?_
            refine Go.Sl.ret1 rfl (Go.Sl.res_tmp rfl) ?_
            rotate_left
            refine Go.Sl.ow_skip rfl rfl ?_
            refine Go.Sl.ow_nil ?_
            refine Go.Sl.xw_nx ?_
            refine Go.Sl.aw_step2 12 15 (by decide +kernel) rfl rfl ?_ ?_
            refine Go.Sl.ow_skip rfl rfl ?_
            refine Go.Sl.ow_nil ?_
            refine Go.Sl.xw_nx ?_
            refine Go.Sl.aw_step2 13 15 (by decide +kernel) rfl rfl ?_ ?_
            refine Go.Sl.ow_skip rfl rfl ?_
            refine Go.Sl.ow_nil ?_
            refine Go.Sl.xw_nx ?_
            refine Go.Sl.aw_step1 15 (by decide +kernel) rfl ?_
            refine Go.Sl.ow_skip rfl rfl ?_
            refine Go.Sl.ow_nil ?_
            refine Go.Sl.xw_nx ?_
            refine Go.Sl.aw_step1 16 (by decide +kernel) rfl ?_
            refine Go.Sl.ow_skip rfl rfl ?_
            refine Go.Sl.ow_nil ?_
            refine Go.Sl.xw_nx ?_
            refine Go.Sl.aw_pure 17 rfl (by decide +kernel) rfl rfl (Go.Sl.v_pick_true rfl rfl) rfl ?_
            refine Go.Sl.aw_end (by decide +kernel) ?_
            refine Go.Sl.xw_np ?_
            refine Go.Sl.xw_then ?_
            refine Go.Sl.cw_true rfl ?_
            refine Go.Sl.cw_seq ?_
            refine Go.Sl.cw_region ?_
            refine Go.Sl.ow_val rfl rfl (Go.Sl.v_assign rfl) ?_
            refine Go.Sl.ow_nil ?_
            refine Go.Sl.xw_then ?_
            refine Go.Sl.cw_ret ?_
            refine Go.Sl.xw_joint_ret ?_
            refine Go.Sl.xw_block_ret ?_
            refine Go.Sl.xw_then_ret ?_
            refine Go.Sl.xw_round_ret ?_
            refine Go.Sl.xw_block_ret ?_
            refine Go.Sl.xw_then_ret ?_
            refine Go.Sl.ret1 rfl (Go.Sl.res_tmp rfl) ?_
            rotate_left
            refine Go.Sl.ow_skip rfl rfl ?_
            refine Go.Sl.ow_nil ?_
            refine Go.Sl.xw_nx ?_
            refine Go.Sl.aw_step1 13 (by decide +kernel) rfl ?_
            refine Go.Sl.ow_skip rfl rfl ?_
            refine Go.Sl.ow_nil ?_
            refine Go.Sl.xw_nx ?_
            refine Go.Sl.aw_step1 16 (by decide +kernel) rfl ?_
            refine Go.Sl.ow_skip rfl rfl ?_
            refine Go.Sl.ow_nil ?_
            refine Go.Sl.xw_nx ?_
            refine Go.Sl.aw_pure 17 rfl (by decide +kernel) rfl rfl (Go.Sl.v_pick_true rfl rfl) rfl ?_
            refine Go.Sl.aw_end (by decide +kernel) ?_
            refine Go.Sl.xw_np ?_
            refine Go.Sl.xw_then ?_
            refine Go.Sl.cw_true rfl ?_
            refine Go.Sl.cw_seq ?_
            refine Go.Sl.cw_region ?_
            refine Go.Sl.ow_val rfl rfl (Go.Sl.v_assign rfl) ?_
            refine Go.Sl.ow_nil ?_
            refine Go.Sl.xw_then ?_
            refine Go.Sl.cw_ret ?_
            refine Go.Sl.xw_joint_ret ?_
            refine Go.Sl.xw_block_ret ?_
            refine Go.Sl.xw_then_ret ?_
            refine Go.Sl.xw_round_ret ?_
            refine Go.Sl.xw_block_ret ?_
            refine Go.Sl.xw_then_ret ?_
            refine Go.Sl.ret1 rfl (Go.Sl.res_tmp rfl) ?_
            rotate_left
            refine Go.Sl.ow_skip rfl rfl ?_
            refine Go.Sl.ow_nil ?_
            refine Go.Sl.xw_nx ?_
            refine Go.Sl.aw_step1 12 (by decide +kernel) rfl ?_
            refine Go.Sl.ow_skip rfl rfl ?_
            refine Go.Sl.ow_nil ?_
            refine Go.Sl.xw_nx ?_
            refine Go.Sl.aw_step1 13 (by decide +kernel) rfl ?_
            refine Go.Sl.ow_skip rfl rfl ?_
            refine Go.Sl.ow_nil ?_
            refine Go.Sl.xw_nx ?_
            refine Go.Sl.aw_step1 16 (by decide +kernel) rfl ?_
            refine Go.Sl.ow_skip rfl rfl ?_
            refine Go.Sl.ow_nil ?_
            refine Go.Sl.xw_nx ?_
            refine Go.Sl.aw_pure 17 rfl (by decide +kernel) rfl rfl (Go.Sl.v_pick_true rfl rfl) rfl ?_
            refine Go.Sl.aw_end (by decide +kernel) ?_
            refine Go.Sl.xw_np ?_
            refine Go.Sl.xw_then ?_
            refine Go.Sl.cw_true rfl ?_
            refine Go.Sl.cw_seq ?_
            refine Go.Sl.cw_region ?_
            refine Go.Sl.ow_val rfl rfl (Go.Sl.v_assign rfl) ?_
            refine Go.Sl.ow_nil ?_
            refine Go.Sl.xw_then ?_
            refine Go.Sl.cw_ret ?_
            refine Go.Sl.xw_joint_ret ?_
            refine Go.Sl.xw_block_ret ?_
            refine Go.Sl.xw_then_ret ?_
            refine Go.Sl.xw_round_ret ?_
            refine Go.Sl.xw_block_ret ?_
            refine Go.Sl.xw_then_ret ?_
            refine Go.Sl.ret1 rfl (Go.Sl.res_tmp rfl) ?_
            rotate_left
            refine Go.Sl.ow_val rfl rfl (Go.Sl.v_load rfl (Go.Sl.Var.atE (eTy) (.there (.there .here)) (by assumption))) ?_
            refine Go.Sl.ow_nil ?_
            refine Go.Sl.xw_nx ?_
            refine Go.Sl.aw_pure 6 rfl (by decide +kernel) rfl rfl (Go.Sl.v_move rfl) rfl ?_
            refine Go.Sl.aw_step1 7 (by decide +kernel) rfl ?_
            refine Go.Sl.ow_val rfl rfl (Go.Sl.v_call rfl rfl (now_c hO' (by repeat (first | exact Go.Sl.Sub.here | assumption | refine Go.Sl.Sub.there ?_)) hw')) ?_
            refine Go.Sl.ow_nil ?_
            refine Go.Sl.xw_nx ?_
            refine Go.Sl.aw_pure 9 rfl (by decide +kernel) rfl rfl (Go.Sl.v_neqA rfl rfl Ty.gt30 (eqE hfo' hfo')) rfl ?_
            refine Go.Sl.aw_pure 10 rfl (by decide +kernel) rfl rfl (Go.Sl.v_pick_false rfl rfl) rfl ?_
            refine Go.Sl.aw_pure 11 rfl (by decide +kernel) rfl rfl (Go.Sl.v_move rfl) rfl ?_
            refine Go.Sl.aw_step2 12 14 (by decide +kernel) rfl rfl ?_ ?_
            refine Go.Sl.ow_dec 381 rfl (fun hc381 => ?_) (fun hc381 => ?_)
            refine Go.Sl.ow_skip rfl rfl ?_
            refine Go.Sl.ow_nil ?_
            refine Go.Sl.xw_nx ?_
            refine Go.Sl.aw_step2 13 14 (by decide +kernel) rfl rfl ?_ ?_
            refine Go.Sl.ow_skip rfl rfl ?_
            refine Go.Sl.ow_nil ?_
            refine Go.Sl.xw_nx ?_
            refine Go.Sl.aw_step1 14 (by decide +kernel) rfl ?_
            refine Go.Sl.ow_skip rfl rfl ?_
            refine Go.Sl.ow_nil ?_
            refine Go.Sl.xw_nx ?_
            refine Go.Sl.aw_step1 15 (by decide +kernel) rfl ?_
            refine Go.Sl.ow_skip rfl rfl ?_
            refine Go.Sl.ow_nil ?_
            refine Go.Sl.xw_nx ?_
            refine Go.Sl.aw_step1 16 (by decide +kernel) rfl ?_
            refine Go.Sl.ow_skip rfl rfl ?_
            refine Go.Sl.ow_nil ?_
            refine Go.Sl.xw_nx ?_
            refine Go.Sl.aw_pure 17 rfl (by decide +kernel) rfl rfl (Go.Sl.v_pick_true rfl rfl) rfl ?_
            refine Go.Sl.aw_end (by decide +kernel) ?_
            refine Go.Sl.xw_np ?_
            refine Go.Sl.xw_then ?_
            refine Go.Sl.cw_true rfl ?_
            refine Go.Sl.cw_seq ?_
            refine Go.Sl.cw_region ?_
            refine Go.Sl.ow_val rfl rfl (Go.Sl.v_assign rfl) ?_
            refine Go.Sl.ow_nil ?_
            refine Go.Sl.xw_then ?_
            refine Go.Sl.cw_ret ?_
            refine Go.Sl.xw_joint_ret ?_
            refine Go.Sl.xw_block_ret ?_
            refine Go.Sl.xw_then_ret ?_
            refine Go.Sl.xw_round_ret ?_
            refine Go.Sl.xw_block_ret ?_
            refine Go.Sl.xw_then_ret ?_
            refine Go.Sl.ret1 rfl (Go.Sl.res_tmp rfl) ?_
            rotate_left
            refine Go.Sl.ow_skip rfl rfl ?_
            refine Go.Sl.ow_nil ?_
            refine Go.Sl.xw_nx ?_
            refine Go.Sl.aw_step2 13 15 (by decide +kernel) rfl rfl ?_ ?_
            refine Go.Sl.ow_skip rfl rfl ?_
            refine Go.Sl.ow_nil ?_
            refine Go.Sl.xw_nx ?_
            refine Go.Sl.aw_step1 15 (by decide +kernel) rfl ?_
            refine Go.Sl.ow_skip rfl rfl ?_
            refine Go.Sl.ow_nil ?_
            refine Go.Sl.xw_nx ?_
            refine Go.Sl.aw_step1 16 (by decide +kernel) rfl ?_
            refine Go.Sl.ow_skip rfl rfl ?_
            refine Go.Sl.ow_nil ?_
            refine Go.Sl.xw_nx ?_
            refine Go.Sl.aw_pure 17 rfl (by decide +kernel) rfl rfl (Go.Sl.v_pick_true rfl rfl) rfl ?_
            refine Go.Sl.aw_end (by decide +kernel) ?_
            refine Go.Sl.xw_np ?_
            refine Go.Sl.xw_then ?_
            refine Go.Sl.cw_true rfl ?_
            refine Go.Sl.cw_seq ?_
            refine Go.Sl.cw_region ?_
            refine Go.Sl.ow_val rfl rfl (Go.Sl.v_assign rfl) ?_
            refine Go.Sl.ow_nil ?_
            refine Go.Sl.xw_then ?_
            refine Go.Sl.cw_ret ?_
            refine Go.Sl.xw_joint_ret ?_
            refine Go.Sl.xw_block_ret ?_
            refine Go.Sl.xw_then_ret ?_
            refine Go.Sl.xw_round_ret ?_
            refine Go.Sl.xw_block_ret ?_
            refine Go.Sl.xw_then_ret ?_
            refine Go.Sl.ret1 rfl (Go.Sl.res_tmp rfl) ?_
            rotate_left
            refine Go.Sl.ow_skip rfl rfl ?_
            refine Go.Sl.ow_nil ?_
            refine Go.Sl.xw_nx ?_
            refine Go.Sl.aw_step1 13 (by decide +kernel) rfl ?_
            refine Go.Sl.ow_skip rfl rfl ?_
            refine Go.Sl.ow_nil ?_
            refine Go.Sl.xw_nx ?_
            refine Go.Sl.aw_step1 16 (by decide +kernel) rfl ?_
            refine Go.Sl.ow_skip rfl rfl ?_
            refine Go.Sl.ow_nil ?_
            refine Go.Sl.xw_nx ?_
            refine Go.Sl.aw_pure 17 rfl (by decide +kernel) rfl rfl (Go.Sl.v_pick_true rfl rfl) rfl ?_
            refine Go.Sl.aw_end (by decide +kernel) ?_
            refine Go.Sl.xw_np ?_
            refine Go.Sl.xw_then ?_
            refine Go.Sl.cw_true rfl ?_
            refine Go.Sl.cw_seq ?_
            refine Go.Sl.cw_region ?_
            refine Go.Sl.ow_val rfl rfl (Go.Sl.v_assign rfl) ?_
            refine Go.Sl.ow_nil ?_
            refine Go.Sl.xw_then ?_
            refine Go.Sl.cw_ret ?_
            refine Go.Sl.xw_joint_ret ?_
            refine Go.Sl.xw_block_ret ?_
            refine Go.Sl.xw_then_ret ?_
            refine Go.Sl.xw_round_ret ?_
            refine Go.Sl.xw_block_ret ?_
            refine Go.Sl.xw_then_ret ?_
            refine Go.Sl.ret1 rfl (Go.Sl.res_tmp rfl) ?_
            rotate_left
            refine Go.Sl.ow_val rfl rfl (Go.Sl.v_move rfl) ?_
            refine Go.Sl.ow_nil ?_
            refine Go.Sl.xw_nx ?_
            refine Go.Sl.aw_pure 13 rfl (by decide +kernel) rfl rfl (Go.Sl.v_len rfl Try.underlying32 rfl) rfl ?_
            refine Go.Sl.aw_step1 14 (by decide +kernel) rfl ?_
            refine Go.Sl.ow_val rfl rfl (Go.Sl.v_load rfl (Go.Sl.Var.at1 Ty.sc32 (.there (.there (.there .here))) (Go.Sl.GetN.lit rfl))) ?_
            refine Go.Sl.ow_nil ?_
            refine Go.Sl.xw_nx ?_
            refine Go.Sl.aw_pure 15 rfl (by decide +kernel) rfl rfl (Go.Sl.v_len rfl Try.underlying32 rfl) rfl ?_
            refine Go.Sl.aw_pure 16 rfl (by decide +kernel) rfl rfl (Go.Sl.v_neq rfl rfl) rfl ?_
            refine Go.Sl.aw_pure 17 rfl (by decide +kernel) rfl rfl (Go.Sl.v_pick_false rfl rfl) rfl ?_
            refine Go.Sl.aw_end (by decide +kernel) ?_
            refine Go.Sl.xw_np ?_
            refine Go.Sl.xw_then ?_
            refine Go.Sl.cw_dec rfl (fun hc387 => ?_) (fun hc387 => ?_)
            (exfalso; omega)
            refine Go.Sl.cw_skip ?_
            rotate_left
            refine Go.Sl.ow_dec 381 rfl (fun hc381 => ?_) (fun hc381 => ?_)
            refine Go.Sl.ow_skip rfl rfl ?_
            refine Go.Sl.ow_nil ?_
            refine Go.Sl.xw_nx ?_
            refine Go.Sl.aw_step2 12 15 (by decide +kernel) rfl rfl ?_ ?_
            refine Go.Sl.ow_skip rfl rfl ?_
            refine Go.Sl.ow_nil ?_
            refine Go.Sl.xw_nx ?_
            refine Go.Sl.aw_step2 13 15 (by decide +kernel) rfl rfl ?_ ?_
            refine Go.Sl.ow_skip rfl rfl ?_
            refine Go.Sl.ow_nil ?_
            refine Go.Sl.xw_nx ?_
            refine Go.Sl.aw_step1 15 (by decide +kernel) rfl ?_
            refine Go.Sl.ow_skip rfl rfl ?_
            refine Go.Sl.ow_nil ?_
            refine Go.Sl.xw_nx ?_
            refine Go.Sl.aw_step1 16 (by decide +kernel) rfl ?_
            refine Go.Sl.ow_skip rfl rfl ?_
            refine Go.Sl.ow_nil ?_
            refine Go.Sl.xw_nx ?_
            refine Go.Sl.aw_pure 17 rfl (by decide +kernel) rfl rfl (Go.Sl.v_pick_true rfl rfl) rfl ?_
            refine Go.Sl.aw_end (by decide +kernel) ?_
            refine Go.Sl.xw_np ?_
            refine Go.Sl.xw_then ?_
            refine Go.Sl.cw_true rfl ?_
            refine Go.Sl.cw_seq ?_
            refine Go.Sl.cw_region ?_
            refine Go.Sl.ow_val rfl rfl (Go.Sl.v_assign rfl) ?_
            refine Go.Sl.ow_nil ?_
            refine Go.Sl.xw_then ?_
            refine Go.Sl.cw_ret ?_
            refine Go.Sl.xw_joint_ret ?_
            refine Go.Sl.xw_block_ret ?_
            refine Go.Sl.xw_then_ret ?_
            refine Go.Sl.xw_round_ret ?_
            refine Go.Sl.xw_block_ret ?_
            refine Go.Sl.xw_then_ret ?_
            refine Go.Sl.ret1 rfl (Go.Sl.res_tmp rfl) ?_
            rotate_left
            refine Go.Sl.ow_skip rfl rfl ?_
            refine Go.Sl.ow_nil ?_
            refine Go.Sl.xw_nx ?_
            refine Go.Sl.aw_step1 13 (by decide +kernel) rfl ?_
            refine Go.Sl.ow_skip rfl rfl ?_
            refine Go.Sl.ow_nil ?_
            refine Go.Sl.xw_nx ?_
            refine Go.Sl.aw_step1 16 (by decide +kernel) rfl ?_
            refine Go.Sl.ow_skip rfl rfl ?_
            refine Go.Sl.ow_nil ?_
            refine Go.Sl.xw_nx ?_
            refine Go.Sl.aw_pure 17 rfl (by decide +kernel) rfl rfl (Go.Sl.v_pick_true rfl rfl) rfl ?_
            refine Go.Sl.aw_end (by decide +kernel) ?_
            refine Go.Sl.xw_np ?_
            refine Go.Sl.xw_then ?_
            refine Go.Sl.cw_true rfl ?_
            refine Go.Sl.cw_seq ?_
            refine Go.Sl.cw_region ?_
            refine Go.Sl.ow_val rfl rfl (Go.Sl.v_assign rfl) ?_
            refine Go.Sl.ow_nil ?_
            refine Go.Sl.xw_then ?_
            refine Go.Sl.cw_ret ?_
            refine Go.Sl.xw_joint_ret ?_
            refine Go.Sl.xw_block_ret ?_
            refine Go.Sl.xw_then_ret ?_
            refine Go.Sl.xw_round_ret ?_
            refine Go.Sl.xw_block_ret ?_
            refine Go.Sl.xw_then_ret ?_
            refine Go.Sl.ret1 rfl (Go.Sl.res_tmp rfl) ?_
            rotate_left
            refine Go.Sl.ow_skip rfl rfl ?_
            refine Go.Sl.ow_nil ?_
            refine Go.Sl.xw_nx ?_
            refine Go.Sl.aw_step1 12 (by decide +kernel) rfl ?_
            refine Go.Sl.ow_skip rfl rfl ?_
            refine Go.Sl.ow_nil ?_
            refine Go.Sl.xw_nx ?_
            refine Go.Sl.aw_step1 13 (by decide +kernel) rfl ?_
            refine Go.Sl.ow_skip rfl rfl ?_
            refine Go.Sl.ow_nil ?_
            refine Go.Sl.xw_nx ?_
            refine Go.Sl.aw_step1 16 (by decide +kernel) rfl ?_
            refine Go.Sl.ow_skip rfl rfl ?_
            refine Go.Sl.ow_nil ?_
            refine Go.Sl.xw_nx ?_
            refine Go.Sl.aw_pure 17 rfl (by decide +kernel) rfl rfl (Go.Sl.v_pick_true rfl rfl) rfl ?_
            refine Go.Sl.aw_end (by decide +kernel) ?_
            refine Go.Sl.xw_np ?_
            refine Go.Sl.xw_then ?_
            refine Go.Sl.cw_true rfl ?_
            refine Go.Sl.cw_seq ?_
            refine Go.Sl.cw_region ?_
            refine Go.Sl.ow_val rfl rfl (Go.Sl.v_assign rfl) ?_
            refine Go.Sl.ow_nil ?_
            refine Go.Sl.xw_then ?_
            refine Go.Sl.cw_ret ?_
            refine Go.Sl.xw_joint_ret ?_
            refine Go.Sl.xw_block_ret ?_
            refine Go.Sl.xw_then_ret ?_
            refine Go.Sl.xw_round_ret ?_
            refine Go.Sl.xw_block_ret ?_
            refine Go.Sl.xw_then_ret ?_
            refine Go.Sl.ret1 rfl (Go.Sl.res_tmp rfl) ?_
            rotate_left
            refine Go.Sl.ow_val rfl rfl (Go.Sl.v_load rfl (Go.Sl.Var.at1 Ty.sc32 (.there (.there (.there .here))) (Go.Sl.GetN.lit rfl))) ?_
            refine Go.Sl.ow_nil ?_
            refine Go.Sl.xw_nx ?_
            refine Go.Sl.aw_pure 12 rfl (by decide +kernel) rfl rfl (Go.Sl.v_move rfl) rfl ?_
            refine Go.Sl.aw_pure 13 rfl (by decide +kernel) rfl rfl (Go.Sl.v_len rfl Try.underlying32 rfl) rfl ?_
            refine Go.Sl.aw_pure 15 rfl (by decide +kernel) rfl rfl (Go.Sl.v_len rfl Try.underlying32 rfl) rfl ?_
            refine Go.Sl.aw_pure 16 rfl (by decide +kernel) rfl rfl (Go.Sl.v_neq rfl rfl) rfl ?_
            refine Go.Sl.aw_pure 17 rfl (by decide +kernel) rfl rfl (Go.Sl.v_pick_false rfl rfl) rfl ?_
            refine Go.Sl.aw_end (by decide +kernel) ?_
            refine Go.Sl.xw_np ?_
            refine Go.Sl.xw_then ?_
            refine Go.Sl.cw_dec rfl (fun hc387 => ?_) (fun hc387 => ?_)
            (exfalso; omega)
            refine Go.Sl.cw_skip ?_
            rotate_left
            all_goals first
              | exact absurd rfl hc375
              | exact absurd rfl hc381
              | exact absurd rfl hc386
              | exact xw_joint () trivial (by first | exact Go.Sl.Cov.refl _ | (intro p; simp only [List.flatten_cons, List.flatten_nil, List.flatten_append, List.append_nil, List.nil_append, Go.Sl.cnt_append, Go.Sl.cnt_cons, Go.Sl.cnt_nil, List.set_cons_zero, List.set_cons_succ, List.length_nil, List.length_cons, Nat.zero_add, List.append]; omega)) (by repeat (first | exact True.intro | refine And.intro rfl ?_))
          · rintro _ _
            refine Go.Sl.cw_seq ?_
            refine Go.Sl.cw_region ?_
            refine Go.Sl.ow_val rfl rfl (Go.Sl.v_move rfl) ?_
            refine Go.Sl.ow_val rfl rfl (Go.Sl.v_len rfl Try.underlying32 rfl) ?_
            refine Go.Sl.ow_val rfl rfl (Go.Sl.v_move rfl) ?_
            refine Go.Sl.ow_nil ?_
            refine Go.Sl.xw_then ?_
            refine Go.Sl.cw_block ?_
            refine Go.Sl.cw_loop2 (ι := (Nat)) [(0, _), (1, _), (2, _), (7, _), (8, _), (9, _), (10, _), (11, _), (12, _), (45, _), (60, _), (61, _), (62, _), (389, _)] ⟨rfl, rfl, rfl, rfl, rfl, rfl, rfl, rfl, rfl, rfl, rfl, rfl, rfl, rfl, trivial⟩ ((fun j => [(390, .int .i64 j)])) ((fun j => j ≤ o'.retired.length)) ((fun j => o'.retired.length - j)) ((fun j => x369.2.2 :: [(b11, .cells [Value.slice aoR' o'.retired.length capR'].toArray 32 (0, 0))] :: cr' :: cl' :: d' :: F)) (0) (by repeat (first | exact True.intro | refine And.intro rfl ?_)) (by first | exact Go.Sl.Cov.refl _ | (intro p; simp only [List.flatten_cons, List.flatten_nil, List.flatten_append, List.append_nil, List.nil_append, Go.Sl.cnt_append, Go.Sl.cnt_cons, Go.Sl.cnt_nil, List.set_cons_zero, List.set_cons_succ, List.length_nil, List.length_cons, Nat.zero_add, List.append]; omega)) ?_ ?_
            · exact Nat.zero_le _
            rintro j hj
            refine Go.Sl.cw_seq ?_
            refine Go.Sl.cw_region ?_
            refine Go.Sl.ow_val rfl rfl (Go.Sl.v_lss rfl rfl) ?_
            refine Go.Sl.ow_nil ?_
            refine Go.Sl.xw_then ?_
            refine Go.Sl.cw_seq ?_
            refine Go.Sl.cw_dec rfl (fun hc391 => ?_) (fun hc391 => ?_)
            refine Go.Sl.cw_skip ?_
            refine Go.Sl.xw_then ?_
            refine Go.Sl.cw_seq ?_
            refine Go.Sl.cw_block ?_
            refine Go.Sl.cw_seq ?_
            refine Go.Sl.cw_region ?_
            refine Go.Sl.ow_val rfl rfl (Go.Sl.v_move rfl) ?_
            refine Go.Sl.ow_val rfl rfl (Go.Sl.v_assign rfl) ?_
            refine Go.Sl.ow_nil ?_
            refine Go.Sl.xw_then ?_
            refine Go.Sl.cw_seq ?_
            refine Go.Sl.cw_quiet Ty.mixed (by decide +kernel) ?_
            refine Go.Sl.kw_val rfl rfl (Go.Sl.v_move rfl) ?_
            refine Go.Sl.kw_val rfl rfl (Go.Sl.v_move rfl) ?_
            rotate_left
            refine Go.Sl.cw_exit ?_
            refine Go.Sl.xw_then_exit ?_
            refine Go.Sl.xw_round_exit ?_
            refine Go.Sl.xw_block_exit ?_
            refine Go.Sl.xw_block ?_
            refine Go.Sl.xw_then ?_
            refine Go.Sl.cw_region ?_
            refine Go.Sl.ow_val rfl rfl (Go.Sl.v_add rfl rfl (Go.Sl.nw_i64 (by omega) (by omega))) ?_
            refine Go.Sl.ow_val rfl rfl (Go.Sl.v_move rfl) ?_
            refine Go.Sl.ow_nil ?_
            rotate_left
            · have hj2 : j < o'.retired.length := by omega
              have hokj := hR'.ok _ (List.getElem_mem hj2)
              refine Go.Sl.kw_val rfl rfl (Go.Sl.v_indexAddr_ls Try.underlying32 (uTy) rfl rfl (by assumption) rfl (by omega)) ?_
              refine Go.Sl.kw_val rfl rfl (Go.Sl.v_load rfl (Go.Sl.Vw.var (uTy) ((hq369.vw (by repeat (first | exact Go.Sl.Sub.here | assumption | refine Go.Sl.Sub.there ?_)))) (by omega))) ?_
              refine Go.Sl.kw_val rfl rfl (Go.Sl.v_load rfl (Go.Sl.Var.at1 Ty.sc32 (.there .here) (Go.Sl.GetN.lit rfl))) ?_
              refine Go.Sl.kw_val rfl rfl (Go.Sl.v_move rfl) ?_
              refine Go.Sl.kw_val rfl rfl (Go.Sl.v_indexAddr_ls Try.underlying32 (uTy) rfl rfl (by assumption) rfl (by omega)) ?_
              refine Go.Sl.kw_val rfl rfl (Go.Sl.v_load rfl (Go.Sl.Vw.var (uTy) (Go.Sl.Ls.vw (by assumption) (by repeat (first | exact Go.Sl.Sub.here | assumption | refine Go.Sl.Sub.there ?_))) (by omega))) ?_
              refine Go.Sl.kw_val rfl rfl (Go.Sl.v_neq rfl rfl) ?_
              refine Go.Sl.kw_nil ?_
              refine Go.Sl.xw_then ?_
              refine Go.Sl.cw_dec rfl (fun hc401 => ?_) (fun hc401 => ?_)
              (exfalso; omega)
              refine Go.Sl.cw_skip ?_
              refine Go.Sl.xw_block ?_
              refine Go.Sl.xw_then ?_
              refine Go.Sl.cw_region ?_
              refine Go.Sl.ow_val rfl rfl (Go.Sl.v_add rfl rfl (Go.Sl.nw_i64 (by omega) (by omega))) ?_
              refine Go.Sl.ow_val rfl rfl (Go.Sl.v_move rfl) ?_
              refine Go.Sl.ow_nil ?_
              all_goals first
                | exact absurd rfl hc401
                | exact xw_round (j + 1) (by omega) (by omega) (by first | exact Go.Sl.Cov.refl _ | (intro p; simp only [List.flatten_cons, List.flatten_nil, List.flatten_append, List.append_nil, List.nil_append, Go.Sl.cnt_append, Go.Sl.cnt_cons, Go.Sl.cnt_nil, List.set_cons_zero, List.set_cons_succ, List.length_nil, List.length_cons, Nat.zero_add, List.append]; omega)) (by repeat (first | exact True.intro | refine And.intro rfl ?_))
            · exact xw_round (⟨i + 1, o', d', ao', cap', cl', aoR', capR', cr'⟩ : Ox) ⟨by dsimp only; omega, by dsimp only; omega, hmo', hI'⟩ (by dsimp only; omega) (by first | exact Go.Sl.Cov.refl _ | (intro p; simp only [List.flatten_cons, List.flatten_nil, List.flatten_append, List.append_nil, List.nil_append, Go.Sl.cnt_append, Go.Sl.cnt_cons, Go.Sl.cnt_nil, List.set_cons_zero, List.set_cons_succ, List.length_nil, List.length_cons, Nat.zero_add, List.append]; omega)) (by repeat (first | exact True.intro | refine And.intro rfl ?_))
  · exact done0 rfl (by first | exact Go.Sl.Cov.refl _ | (intro p; simp only [List.flatten_cons, List.flatten_nil, List.flatten_append, List.append_nil, List.nil_append, Go.Sl.cnt_append, Go.Sl.cnt_cons, Go.Sl.cnt_nil, List.set_cons_zero, List.set_cons_succ, List.length_nil, List.length_cons, Nat.zero_add, List.append]; omega))
/-- a deed as it lies in memory -/
theorem form_deed {H : Type} {enc : TypeId × Value → H} {w : World} {fuel : Nat} {cs : List Value} {y : DataW H × List MemPlace} (h : DataW.trod enc Try.prog w 0 (fun _ => true) true fuel 35 cs = some y) : ∃ a : DeedM, cs = enD.f a ∧ enD.ok a := by
  obtain ⟨hl, fuel', hf⟩ := form_struct Try.underlying35 h
  have hc : Try.prog.cellsOf 35 = 24 := by kernel_rfl
  rw [hc] at hl
  have c1 : Try.prog.cellsOf 5 = 1 := by kernel_rfl
  have c2 : Try.prog.cellsOf 30 = 18 := by kernel_rfl
  have c4 : Try.prog.cellsOf 27 = 1 := by kernel_rfl
  have c5 : Try.prog.cellsOf 4 = 1 := by kernel_rfl
  have g0 : ∃ z, DataW.trod enc Try.prog w 0 (fun _ => true) true fuel' 5 ((cs.drop 0).take (Try.prog.cellsOf 5)) = some z := hf 0 _ rfl
  have g1 : ∃ z, DataW.trod enc Try.prog w 0 (fun _ => true) true fuel' 5 ((cs.drop 1).take (Try.prog.cellsOf 5)) = some z := hf 1 _ rfl
  have g2 : ∃ z, DataW.trod enc Try.prog w 0 (fun _ => true) true fuel' 5 ((cs.drop 2).take (Try.prog.cellsOf 5)) = some z := hf 2 _ rfl
  have g3 : ∃ z, DataW.trod enc Try.prog w 0 (fun _ => true) true fuel' 5 ((cs.drop 3).take (Try.prog.cellsOf 5)) = some z := hf 3 _ rfl
  have g4 : ∃ z, DataW.trod enc Try.prog w 0 (fun _ => true) true fuel' 30 ((cs.drop 4).take (Try.prog.cellsOf 30)) = some z := hf 4 _ rfl
  have g5 : ∃ z, DataW.trod enc Try.prog w 0 (fun _ => true) true fuel' 27 ((cs.drop 22).take (Try.prog.cellsOf 27)) = some z := hf 5 _ rfl
  have g6 : ∃ z, DataW.trod enc Try.prog w 0 (fun _ => true) true fuel' 4 ((cs.drop 23).take (Try.prog.cellsOf 4)) = some z := hf 6 _ rfl
  obtain ⟨_, h0⟩ := g0
  obtain ⟨_, h1⟩ := g1
  obtain ⟨_, h2⟩ := g2
  obtain ⟨_, h3⟩ := g3
  obtain ⟨_, h4⟩ := g4
  obtain ⟨_, h5⟩ := g5
  obtain ⟨_, h6⟩ := g6
  rw [c1] at h0 h1 h2 h3
  rw [c2] at h4
  rw [c4] at h5
  rw [c5] at h6
  obtain ⟨n0, e0, w0⟩ := form_int Try.underlying5 h0
  obtain ⟨n1, e1, w1⟩ := form_int Try.underlying5 h1
  obtain ⟨n2, e2, w2⟩ := form_int Try.underlying5 h2
  obtain ⟨n3, e3, w3⟩ := form_int Try.underlying5 h3
  obtain ⟨en, e4, w4⟩ := form_entry h4
  obtain ⟨n5, e5, w5⟩ := form_int Try.underlying27 h5
  obtain ⟨b, e6⟩ := form_bool Try.underlying4 h6
  refine ⟨⟨n0, n1, n2, n3, en, n5, b⟩, ?_, bounds_u8 w0, bounds_u8 w1, bounds_u8 w2, bounds_u8 w3, w4, bounds_u64 w5⟩
  have p : cs = (cs.drop 0).take 1 ++ ((cs.drop 1).take 1 ++ ((cs.drop 2).take 1 ++ ((cs.drop 3).take 1 ++ ((cs.drop 4).take 18 ++ ((cs.drop 22).take 1 ++ ((cs.drop 23).take 1 ++ cs.drop 24)))))) := by
    conv => lhs; rw [show cs = cs.drop 0 from rfl]
    rw [← drop_take_drop cs 23 1, ← drop_take_drop cs 22 1, ← drop_take_drop cs 4 18, ← drop_take_drop cs 3 1, ← drop_take_drop cs 2 1, ← drop_take_drop cs 1 1, ← drop_take_drop cs 0 1]
  rw [p, e0, e1, e2, e3, e4, e5, e6, List.drop_eq_nil_of_le (by omega)]
  simp [enD, enE, DeedM.cells]

theorem walk {H : Type} {enc : TypeId × Value → H} (W : World) (base : Nat) (args : Array Value) (ds : List (DataW H)) (p : List MemPlace)
    (hval : ∀ (j : Nat) t v, Try.f3.params[j]? = some t → args[j]? = some v → Value.okWide Try.prog W .any base t v)
    (hA : DataW.TrodAll enc Try.prog W 0 (fun _ => true) true Try.f3.params.toList args.toList ds p) :
    Calls Try.prog 3 args W fun e w' => e = .returned (.bool true) ∧ Below W.heap.size W w' := by
  rw [Try.params3] at hA hval
  obtain ⟨v0, vs0, d0, ds0, p0, q0, hargs, rfl, rfl, h0, r0⟩ := trodAll_cons hA
  obtain ⟨v1, vs1, d1, ds1, p1, q1, rfl, rfl, rfl, h1, r1⟩ := trodAll_cons r0
  obtain ⟨v2, vs2, d2, ds2, p2, q2, rfl, rfl, rfl, h2, r2⟩ := trodAll_cons r1
  obtain ⟨rfl, rfl, rfl⟩ := trodAll_nil r2
  obtain rfl : args = #[v0, v1, v2] := by cases args; simp_all
  obtain ⟨first, rfl⟩ := okWide_string Try.underlying9 (hval 0 9 v0 rfl rfl)
  obtain ⟨n, rfl, rfl, rfl, hn⟩ := open_int Try.underlying3 (hval 1 3 v1 rfl rfl) h1
  obtain ⟨ao, len, cap, rfl⟩ := okWide_slice Try.underlying22 (hval 2 22 v2 rfl rfl)
  obtain ⟨fu, h2⟩ := h2
  obtain ⟨hlc, hm, f, hf, o⟩ := oldSl (size := 24) Try.underlying22 (by kernel_rfl) (by decide) h2 enD.f enD.ok (fun fuel cs y h => form_deed h)
  unfold maxLen at hm
  have hv := oldVw dTy o hf hlc
  have hb : -9223372036854775808 ≤ n ∧ n ≤ 9223372036854775807 := by
    simp [Lit.wf, IntKind.min, IntKind.max, IntKind.signed, IntKind.bits] at hn
    omega
  have hlen : ((List.range len).map f).length = len := by simp
  have key := (law (first := first) (most := n) hb (by rw [hlen]; omega) hv []).call
  rw [hlen] at key
  exact key

theorem own : ownKnob Try.prog.godebug = none := by kernel_rfl
theorem laidOut : laidOutB Try.prog = true := by kernel_rfl
theorem reads : ∀ t ∈ Try.f3.params.toList, Try.prog.readableRec t = true ∧ t < Try.prog.types.size := by
  rw [Try.params3]
  intro t ht
  simp only [List.mem_cons, List.not_mem_nil, or_false] at ht
  rcases ht with rfl | rfl | rfl
  · exact ⟨by kernel_rfl, of_decide_eq_true (by kernel_rfl)⟩
  · exact ⟨by kernel_rfl, of_decide_eq_true (by kernel_rfl)⟩
  · exact ⟨by kernel_rfl, of_decide_eq_true (by kernel_rfl)⟩

set_option maxRecDepth 100000 in
theorem lifted (os : Os) (started : os.Started) (H : Type) (enc : TypeId × Value → H) :
    ReturnsInHanded {} Try.checked os 3 .any (Rows.idsOtherSpec.pre6 enc Try.prog Try.f3 Rows.idsOtherRow.domain false) (Rows.idsOtherSpec.post enc Try.prog Try.f3 false true false false) := by
  refine returnsInHanded_of_change (C := Try.checked) own started (by kernel_rfl) Try.func3
    (ChangeSpec.witness6 (enc := enc) (C := Try.checked) false ⟨#[], #[.string ⟨#[]⟩, .int .i64 0, .slice none 0 0], []⟩ 8 (by kernel_rfl) (by kernel_rfl) (by kernel_rfl) (by kernel_rfl)) ?_
  intro W base args ds gs before hval hW _ _
  have hW' := hW
  obtain ⟨p, q, hA0, hV, rfl, _, _⟩ := hW
  obtain ⟨rfl, rfl⟩ := trodVars_none hV
  have hA : DataW.TrodAll enc Try.prog W 0 (fun _ => true) true Try.f3.params.toList args.toList ds p := hA0
  have hlen := trodAll_len hA
  refine (walk W base args ds p hval hA).mono fun e W' ⟨he, bel⟩ => ?_
  subst he
  rw [Try.params3] at hlen
  match ds, hlen.2, hA, hW' with
  | [d0, d1, d2], _, hA, hW' => exact ⟨_, rfl, _, _, _, [], _, [], hW', trodAll_mk1 (shut_bool Try.underlying4 _), trodAll_stays laidOut bel reads hA, rfl, bel.frame _, fun h => by cases h⟩

theorem over : Rows.idsOtherRow.holds Try.pinned (OpenSpec.ofChange Rows.idsOtherSpec) :=
  OpenClaim.holds_of_wide 3 Try.f3 rfl rfl rfl rfl rfl rfl rfl ⟨rfl, rfl, rfl, rfl, rfl⟩ rfl rfl rfl rfl rfl (by kernel_rfl) Try.func3 (by kernel_rfl)
    (of_decide_eq_true (by kernel_rfl)) (by unfold Func.isWrapper; first | (rw [if_pos (by decide +kernel)]; kernel_rfl) | (rw [if_neg (by decide +kernel)]; exact ⟨rfl, rfl⟩))
    (fun os started H enc _ => lifted os started H enc)

theorem proved : Rows.IdsOtherSaid := over

end Go.Proofs.Ytfilpenkihdjiaa.lawIdsOther
