/- Frames are taken: one, and all. Conditions: not more than a hundred million bytes. -/
import Derived.Test.YtckdhelnafjddaaFrR4
namespace Go.Proofs.Ytckdhelnafjddaa
open Go Go.Sl Go.Proofs Go.RowKit Go.ChangeShapes Go.WideShapes Go.ChangeAt
set_option maxRecDepth 20000
set_option linter.unusedVariables false
set_option linter.unusedSimpArgs false

/-! ### What is taken fits its types -/
theorem inU0 : inU 0 := ⟨by decide, by decide⟩
theorem int_inU (s : Rs) : inU (pInt s).1 := by
  have := int_in s
  unfold inU
  omega
theorem pad_len {n : Nat} {b : List UInt8} : (pad n b).length = n := by
  unfold pad
  rw [List.length_append, List.length_take, List.length_replicate]
  omega
theorem one_in {s : Rs} {top less : Int} {acc : List Rg} (ha : ∀ r ∈ acc, RgIn r) (ht : 0 ≤ top ∧ top < 4611686018427387904) (hl : 0 ≤ less ∧ less < 4611686018427387904) : ∀ r ∈ (pOne top less acc s).1.2, RgIn r := by
  cases h : (pOne top less acc s).1.1 with
  | true =>
    have h1 := one_true h
    unfold pOne Pr.bind
    dsimp only
    split
    · exact ha
    · intro r hr
      rcases List.mem_append.1 hr with hr | hr
      · exact ha r hr
      · simp only [List.mem_cons, List.not_mem_nil, or_false] at hr
        subst hr
        exact ⟨⟨by dsimp only; omega, by dsimp only; omega⟩, ⟨by dsimp only; omega, by dsimp only; omega⟩⟩
  | false =>
    unfold pOne Pr.bind at h ⊢
    dsimp only at h ⊢
    split
    · exact ha
    · rename_i h2
      rw [if_neg h2] at h
      cases h
theorem more_in : ∀ {n : Nat} {top less : Int} {acc : List Rg} {s : Rs}, (∀ r ∈ acc, RgIn r) → 0 ≤ top ∧ top < 4611686018427387904 → 0 ≤ less ∧ less < 4611686018427387904 → ∀ r ∈ (pMore n top less acc s).1, RgIn r
  | 0, top, less, acc, s, ha, ht, hl => by
    intro r hr
    exact one_in (s := s) ha ht hl r (List.mem_reverse.1 hr)
  | n + 1, top, less, acc, s, ha, ht, hl => by
    have h1 := one_in (s := s) ha ht hl
    have hlt := one_true (s := s) (top := top) (less := less) (acc := acc)
    show ∀ r ∈ ((if (pOne top less acc s).1.1 = false then Pr.ret (pOne top less acc s).1.2 else _ : Pr (List Rg)) (pOne top less acc s).2).1, RgIn r
    by_cases h2 : (pOne top less acc s).1.1 = false
    · rw [if_pos h2]; exact h1
    · rw [if_neg h2]
      have h4 := hlt (by simpa using h2)
      have i1 := int_in (pOne top less acc s).2
      show ∀ r ∈ ((if top - less < (pInt (pOne top less acc s).2).1 + 2 then (pFail 10).bind fun _ => .ret (pOne top less acc s).1.2 else pMore n (top - less - (pInt (pOne top less acc s).2).1 - 2) (pInt (pInt (pOne top less acc s).2).2).1 (pOne top less acc s).1.2 : Pr (List Rg)) (pInt (pInt (pOne top less acc s).2).2).2).1, RgIn r
      by_cases h3 : top - less < (pInt (pOne top less acc s).2).1 + 2
      · rw [if_pos h3]; exact h1
      · rw [if_neg h3]
        exact more_in h1 (by omega) (int_in _)
theorem ack_ok {k : Int} (hk : 0 ≤ k ∧ k ≤ 255) (s : Rs) : (pAck k s).1.ok := by
  refine ⟨hk, inU0, inU0, inU0, inU0, ?_, int_inU _, inU0, inU0, inU0, inU0, inU0, rfl, rfl⟩
  exact more_in (by simp) (int_in _) (int_in _)
theorem zero_ok {k : Int} (hk : 0 ≤ k ∧ k ≤ 255) : (FrM.zero k).ok := ⟨hk, inU0, inU0, inU0, inU0, fun r hr => by simp [FrM.zero] at hr, inU0, inU0, inU0, inU0, inU0, inU0, rfl, rfl⟩
theorem fields_ok {k : Nat} (hk : k ≤ 30) (s : Rs) : (pFields k s).1.ok := by
  have nil : ∀ r ∈ ([] : List Rg), RgIn r := by simp
  have hn : k = 0 ∨ k = 1 ∨ k = 2 ∨ k = 3 ∨ k = 4 ∨ k = 5 ∨ k = 6 ∨ k = 7 ∨ (8 ≤ k ∧ k < 16) ∨ k = 16 ∨ k = 17 ∨ k = 18 ∨ k = 19 ∨ k = 20 ∨ k = 21 ∨ k = 22 ∨ k = 23 ∨ k = 24 ∨ k = 25 ∨ k = 26 ∨ k = 27 ∨ k = 28 ∨ k = 29 ∨ k = 30 := by omega
  have lim : ∀ (k : Int) (a : Int), (0 ≤ k ∧ k ≤ 255) → inU a → ({ FrM.zero k with lim := a } : FrM).ok := fun k a hk h => ⟨hk, inU0, inU0, h, inU0, nil, inU0, inU0, inU0, inU0, inU0, inU0, rfl, rfl⟩
  have lim2 : ∀ (k : Int) (a b : Int), (0 ≤ k ∧ k ≤ 255) → inU a → inU b → ({ FrM.zero k with st := a, lim := b } : FrM).ok := fun k a b hk h h2 => ⟨hk, h, inU0, h2, inU0, nil, inU0, inU0, inU0, inU0, inU0, inU0, rfl, rfl⟩
  rcases hn with rfl | rfl | rfl | rfl | rfl | rfl | rfl | rfl | h8 | rfl | rfl | rfl | rfl | rfl | rfl | rfl | rfl | rfl | rfl | rfl | rfl | rfl | rfl | rfl
  · exact zero_ok (by decide)
  · exact zero_ok (by decide)
  · exact ack_ok (by decide) s
  · have h := ack_ok (k := 3) (by decide) s
    exact ⟨h.k, h.st, h.off, h.lim, h.cod, h.rg, h.dl, int_inU _, int_inU _, int_inU _, h.sq, h.pr, h.tok, h.wd⟩
  · exact ⟨(⟨by decide, by decide⟩ : (0 : Int) ≤ 4 ∧ (4 : Int) ≤ 255), int_inU _, inU0, int_inU _, int_inU _, nil, inU0, inU0, inU0, inU0, inU0, inU0, rfl, rfl⟩
  · exact ⟨(⟨by decide, by decide⟩ : (0 : Int) ≤ 5 ∧ (5 : Int) ≤ 255), int_inU _, inU0, inU0, int_inU _, nil, inU0, inU0, inU0, inU0, inU0, inU0, rfl, rfl⟩
  · exact ⟨(⟨by decide, by decide⟩ : (0 : Int) ≤ 6 ∧ (6 : Int) ≤ 255), inU0, int_inU _, inU0, inU0, nil, inU0, inU0, inU0, inU0, inU0, inU0, rfl, rfl⟩
  · exact ⟨(⟨by decide, by decide⟩ : (0 : Int) ≤ 7 ∧ (7 : Int) ≤ 255), inU0, inU0, inU0, inU0, nil, inU0, inU0, inU0, inU0, inU0, inU0, rfl, rfl⟩
  · have h : pFields k s = (FrM.zero (k : Int), s) := by
      rcases (show k = 8 ∨ k = 9 ∨ k = 10 ∨ k = 11 ∨ k = 12 ∨ k = 13 ∨ k = 14 ∨ k = 15 by omega) with rfl | rfl | rfl | rfl | rfl | rfl | rfl | rfl <;> rfl
    rw [h]
    exact zero_ok (by omega)
  · exact lim 16 _ (by decide) (int_inU _)
  · exact lim2 17 _ _ (by decide) (int_inU _) (int_inU _)
  · exact lim 18 _ (by decide) (int_inU _)
  · exact lim 19 _ (by decide) (int_inU _)
  · exact lim 20 _ (by decide) (int_inU _)
  · exact lim2 21 _ _ (by decide) (int_inU _) (int_inU _)
  · exact lim 22 _ (by decide) (int_inU _)
  · exact lim 23 _ (by decide) (int_inU _)
  · exact ⟨(⟨by decide, by decide⟩ : (0 : Int) ≤ 24 ∧ (24 : Int) ≤ 255), inU0, inU0, inU0, inU0, nil, inU0, inU0, inU0, inU0, int_inU _, int_inU _, pad_len, rfl⟩
  · exact ⟨(⟨by decide, by decide⟩ : (0 : Int) ≤ 25 ∧ (25 : Int) ≤ 255), inU0, inU0, inU0, inU0, nil, inU0, inU0, inU0, inU0, int_inU _, inU0, rfl, rfl⟩
  · exact ⟨(⟨by decide, by decide⟩ : (0 : Int) ≤ 26 ∧ (26 : Int) ≤ 255), inU0, inU0, inU0, inU0, nil, inU0, inU0, inU0, inU0, inU0, inU0, rfl, pad_len⟩
  · exact ⟨(⟨by decide, by decide⟩ : (0 : Int) ≤ 27 ∧ (27 : Int) ≤ 255), inU0, inU0, inU0, inU0, nil, inU0, inU0, inU0, inU0, inU0, inU0, rfl, pad_len⟩
  · exact ⟨(⟨by decide, by decide⟩ : (0 : Int) ≤ 28 ∧ (28 : Int) ≤ 255), inU0, inU0, int_inU _, int_inU _, nil, inU0, inU0, inU0, inU0, inU0, inU0, rfl, rfl⟩
  · exact ⟨(⟨by decide, by decide⟩ : (0 : Int) ≤ 29 ∧ (29 : Int) ≤ 255), inU0, inU0, inU0, int_inU _, nil, inU0, inU0, inU0, inU0, inU0, inU0, rfl, rfl⟩
  · exact zero_ok (by decide)
theorem stream_ok {a b c : Bool} (s : Rs) : (pStream a b c s).1.ok := by
  refine ⟨by show (0 : Int) ≤ 8 ∧ (8 : Int) ≤ 255; decide, int_inU _, ?_, inU0, inU0, fun r hr => ?_, inU0, inU0, inU0, inU0, inU0, inU0, rfl, rfl⟩
  · show inU ((if a = true then pInt else Pr.ret 0) (pInt s).2).1
    split
    · exact int_inU _
    · exact inU0
  · exact absurd hr (by show ¬ r ∈ ([] : List Rg); simp)
theorem pTake_eq (s : Rs) : pTake s = (if 8 ≤ (pLeast s).1 ∧ (pLeast s).1 < 16 then pStream (decide ((pLeast s).1.toNat / 4 % 2 = 1)) (decide ((pLeast s).1.toNat / 2 % 2 = 1)) (decide ((pLeast s).1.toNat % 2 = 1)) else if 30 < (pLeast s).1 then (pFail 5).bind fun _ => .ret (FrM.zero 0) else pFields (pLeast s).1.toNat) (pLeast s).2 := rfl
theorem take_ok (s : Rs) : (pTake s).1.ok := by
  have h := least_in s
  rw [pTake_eq]
  by_cases h1 : 8 ≤ (pLeast s).1 ∧ (pLeast s).1 < 16
  · rw [if_pos h1]; exact stream_ok _
  · rw [if_neg h1]
    by_cases h2 : 30 < (pLeast s).1
    · rw [if_pos h2]; exact zero_ok (by decide)
    · rw [if_neg h2]; exact fields_ok (by omega) _

/-! ### Less and less is left -/
def Dec {α : Type} (m : Pr α) : Prop := ∀ s, (m s).2.1.length ≤ s.1.length
theorem Dec.ret {α : Type} (a : α) : Dec (Pr.ret a) := fun s => Nat.le_refl _
theorem Dec.bind {α β : Type} {m : Pr α} {f : α → Pr β} (h1 : Dec m) (h2 : ∀ v, Dec (f v)) : Dec (m.bind f) := fun s => Nat.le_trans (h2 _ _) (h1 s)
theorem dec_int : Dec pInt := fun s => nextM_le
theorem dec_count {k : Int} (hk : k ≤ 9223372036854775807) : Dec (pCount k) := fun s => (countM_le hk).1
theorem dec_bytes (n : Int) : Dec (pBytes n) := fun s => bytesM_le.2
theorem dec_byte : Dec pByte := fun s => (bytesM_le (n := 1)).2
theorem dec_long {k : Int} (hk : k ≤ 9223372036854775807) : Dec (pLong k) := fun s => Nat.le_trans bytesM_le.2 (countM_le hk).1
theorem dec_failM (k : Int) (s : Rs) : (failM k s).1.length ≤ s.1.length := by
  unfold failM
  dsimp only
  split <;> simp
theorem dec_fail (k : Int) : Dec (pFail k) := fun s => dec_failM k s
theorem dec_if {p : Prop} [Decidable p] {k : Int} : Dec (pIf p k) := fun s => by
  unfold pIf
  dsimp only
  split
  · exact dec_failM k s
  · exact Nat.le_refl _
theorem dec_left : Dec pLeft := fun s => bytesM_le.2
theorem dec_one {top less : Int} {acc : List Rg} : Dec (pOne top less acc) := by
  unfold pOne
  refine dec_if.bind fun _ => fun s => ?_
  by_cases h : s.2 ≠ 0
  · show (if s.2 ≠ 0 then ((false, acc), s) else ((true, acc ++ [(⟨top - less, top + 1⟩ : Rg)]), s) : (Bool × List Rg) × Rs).2.1.length ≤ _
    rw [if_pos h]; exact Nat.le_refl _
  · show (if s.2 ≠ 0 then ((false, acc), s) else ((true, acc ++ [(⟨top - less, top + 1⟩ : Rg)]), s) : (Bool × List Rg) × Rs).2.1.length ≤ _
    rw [if_neg h]; exact Nat.le_refl _
theorem dec_more : ∀ {n : Nat} {top less : Int} {acc : List Rg}, Dec (pMore n top less acc)
  | 0, _, _, _ => dec_one.bind fun _ => Dec.ret _
  | n + 1, _, _, _ => dec_one.bind fun x => by
    split
    · exact Dec.ret _
    · refine dec_int.bind fun _ => dec_int.bind fun _ => ?_
      split
      · exact (dec_fail _).bind fun _ => Dec.ret _
      · exact dec_more
theorem dec_ack (k : Int) : Dec (pAck k) := dec_int.bind fun _ => dec_int.bind fun _ => (dec_count (by decide)).bind fun _ => dec_int.bind fun _ => dec_more.bind fun _ => Dec.ret _
theorem dec_fits (f : FrM) : Dec (pFits f) := dec_if.bind fun _ => Dec.ret _
theorem dec_fields (k : Nat) : Dec (pFields k) := by
  unfold pFields
  split
  · exact dec_ack _
  · exact (dec_ack _).bind fun _ => dec_int.bind fun _ => dec_int.bind fun _ => dec_int.bind fun _ => Dec.ret _
  · exact dec_int.bind fun _ => dec_int.bind fun _ => dec_int.bind fun _ => Dec.ret _
  · exact dec_int.bind fun _ => dec_int.bind fun _ => Dec.ret _
  · exact dec_int.bind fun _ => (dec_long (by decide)).bind fun _ => dec_fits _
  · exact (dec_count (by decide)).bind fun _ => dec_if.bind fun _ => (dec_bytes _).bind fun _ => Dec.ret _
  · exact dec_int.bind fun _ => Dec.ret _
  · exact dec_int.bind fun _ => dec_int.bind fun _ => Dec.ret _
  · exact dec_int.bind fun _ => dec_if.bind fun _ => Dec.ret _
  · exact dec_int.bind fun _ => dec_if.bind fun _ => Dec.ret _
  · exact dec_int.bind fun _ => Dec.ret _
  · exact dec_int.bind fun _ => dec_int.bind fun _ => Dec.ret _
  · exact dec_int.bind fun _ => dec_if.bind fun _ => Dec.ret _
  · exact dec_int.bind fun _ => dec_if.bind fun _ => Dec.ret _
  · exact dec_int.bind fun _ => dec_int.bind fun _ => dec_byte.bind fun _ => dec_if.bind fun _ => (dec_bytes _).bind fun _ => (dec_bytes _).bind fun _ => dec_if.bind fun _ => Dec.ret _
  · exact dec_int.bind fun _ => Dec.ret _
  · exact (dec_bytes _).bind fun _ => Dec.ret _
  · exact (dec_bytes _).bind fun _ => Dec.ret _
  · exact dec_int.bind fun _ => dec_int.bind fun _ => (dec_long (by decide)).bind fun _ => Dec.ret _
  · exact dec_int.bind fun _ => (dec_long (by decide)).bind fun _ => Dec.ret _
  · exact Dec.ret _
theorem dec_stream (a b c : Bool) : Dec (pStream a b c) := by
  unfold pStream
  refine dec_int.bind fun _ => Dec.bind ?_ fun _ => Dec.bind ?_ fun _ => dec_fits _
  · split
    · exact dec_int
    · exact Dec.ret _
  · split
    · exact dec_long (by decide)
    · exact dec_left
theorem dec_rest (k : Int) : Dec (if 8 ≤ k ∧ k < 16 then pStream (decide (k.toNat / 4 % 2 = 1)) (decide (k.toNat / 2 % 2 = 1)) (decide (k.toNat % 2 = 1)) else if 30 < k then (pFail 5).bind fun _ => .ret (FrM.zero 0) else pFields k.toNat) := by
  split
  · exact dec_stream _ _ _
  · split
    · exact (dec_fail _).bind fun _ => Dec.ret _
    · exact dec_fields _
theorem least_lt {l : List UInt8} (h : l ≠ []) : (pLeast (l, 0)).2.1.length < l.length := by
  have h0 : 0 < l.length := List.length_pos_iff.2 h
  have h2 : (nextM l 0).l.length < l.length := by
    unfold nextM
    rw [if_neg (by simp)]
    split
    · simpa using h0
    · rename_i h3
      obtain ⟨t1, t2, t3, _, _⟩ := takeV_ok (Decidable.not_not.1 h3)
      dsimp only
      rw [List.length_drop]
      omega
  unfold pLeast leastM
  dsimp only
  split
  · split
    · simpa using h0
    · exact h2
  · exact h2
theorem take_lt {l : List UInt8} (h : l ≠ []) : (pTake (l, 0)).2.1.length < l.length := by
  have h1 := least_lt h
  unfold pTake Pr.bind
  exact Nat.lt_of_le_of_lt (dec_rest _ _) h1
theorem dec_take (s : Rs) : (pTake s).2.1.length ≤ s.1.length := by
  have h1 : (pLeast s).2.1.length ≤ s.1.length := by
    unfold pLeast leastM
    split
    · split
      · simp
      · exact nextM_le
    · exact nextM_le
  unfold pTake Pr.bind
  exact Nat.le_trans (dec_rest _ _) h1

/-! ### One frame -/
def FrDeep (f : FrM) (p : FrP) (D : Hp) : Prop := ∀ B w0 G, Sub D G → FrIn (St B w0 G) f p
theorem FrDeep.of {f : FrM} {p : FrP} {cg cd : Hp} (h : FrRd f p cg cd) : FrDeep f p (cg ++ cd) := fun B w0 G hs => ⟨h.d B w0 G hs.right, h.r.vw hs.left, h.i B w0 G hs.right⟩
theorem FrDeep.left {f : FrM} {p : FrP} {c d : Hp} (h : FrDeep f p c) : FrDeep f p (c ++ d) := fun B w0 G hs => h B w0 G hs.left
theorem FrDeep.right {f : FrM} {p : FrP} {c d : Hp} (h : FrDeep f p d) : FrDeep f p (c ++ d) := fun B w0 G hs => h B w0 G hs.right
def FrP.nil : FrP := ⟨none, 0, none, 0, none, 0⟩
theorem rd_nil {α : Type} {En : Enc α} {e : TypeId} {c : Hp} : Rd En (.slice none 0 0) c [] := fun B w0 G _ => (Ls.nil (En := En) (e := e)).vw Sub.nil
set_option maxHeartbeats 4000000 in
theorem take_c {B : Nat} {w0 : World} {G : List Hp} {R : Hp → List Hp} {s : Rs} {br : Nat} {c : Hp} (hsel : Sel G c R) (hr : RdAt s.1 s.2 br c) (hb : Short s) :
    Go.Sl.Fn Try.prog 44 #[.pointer (some ⟨br, 0, none⟩)] B w0 G fun u G' => ∃ x : FrP × Hp × Hp, u = .agg ((pTake s).1.cells x.1).toArray ∧ (FrDeep (pTake s).1 x.1 x.2.1 ∧ RdAt (pTake s).2.1 (pTake s).2.2 br x.2.2) ∧ G' = [x.2.1] ++ R x.2.2 := by
  refine Fn.sel (Γ := fun x : FrP × Hp × Hp => x.2.2) (Nw := fun x => [x.2.1]) hsel fun F hR hF => ?_
  have hb1 := short_least hb
  have hl := least_in s
  refine fn_enter Try.func44 rfl (by kernel_rfl) Try.ntmps44 (by simp) ?_
  refine Go.Sl.cw_seq ?_
  refine Go.Sl.cw_region ?_
  (refine Go.Sl.ow_alloc rfl rfl Ty.ze30 ?_; intro b2)
  refine Go.Sl.ow_nil ?_
  refine Go.Sl.xw_then ?_
  refine Go.Sl.cw_seq ?_
  refine Go.Sl.cw_region ?_
  refine Go.Sl.ow_val rfl rfl (Go.Sl.v_move rfl) ?_
  (refine Go.Sl.ow_call rfl rfl rfl rfl (rLeast_c (by repeat (first | exact Go.Sl.Sel.here | apply Go.Sl.Sel.there)) hr hb) ?_; rintro _ _ ⟨x6, rfl, hq6, rfl⟩)
  refine Go.Sl.ow_val rfl rfl (Go.Sl.v_assign rfl) ?_
  refine Go.Sl.ow_nil ?_
  refine Go.Sl.xw_then ?_
  refine Go.Sl.cw_seq ?_
  refine Go.Sl.cw_region ?_
  (refine Go.Sl.ow_alloc rfl rfl Ty.ze30 ?_; intro b4)
  refine Go.Sl.ow_nil ?_
  refine Go.Sl.xw_then ?_
  show CW _ _ B w0 _ ([(b4, .cells ((FrM.zero 0).cells FrP.nil).toArray 30 (0, 0))] :: [(b2, .cells ((FrM.zero 0).cells FrP.nil).toArray 30 (0, 0))] :: x6 :: F) _ _
  have hF0 : ∀ k : Int, FrRd (FrM.zero k) FrP.nil [] [] := fun k => ⟨Ls.nil, rd_nil (e := 5), rd_nil (e := 5)⟩
  rw [pTake_eq]
  have htk := pTake_eq s
  generalize pLeast s = q at *
  refine Go.Sl.cw_cut2 (ι := (Hp)) [(2, _), (4, _)] ⟨rfl, rfl, trivial⟩ ((fun _ => [])) ((fun x => FRAt (pTake s).1 (pTake s).2 b4 br x)) ((fun x => [(b2, .cells ((FrM.zero 0).cells FrP.nil).toArray 30 (0, 0))] :: x :: F)) ?_ ?_
  · rw [htk]
    refine Go.Sl.cw_block ?_
    refine Go.Sl.cw_seq ?_
    refine Go.Sl.cw_region ?_
    refine Go.Sl.ow_val rfl rfl (Go.Sl.v_move rfl) ?_
    refine Go.Sl.ow_val rfl rfl (Go.Sl.v_geq rfl rfl) ?_
    refine Go.Sl.ow_val rfl rfl (Go.Sl.v_move rfl) ?_
    refine Go.Sl.ow_dec 15 rfl (fun hc15 => ?_) (fun hc15 => ?_)
    refine Go.Sl.ow_val rfl rfl (Go.Sl.v_move rfl) ?_
    refine Go.Sl.ow_val rfl rfl (Go.Sl.v_lss rfl rfl) ?_
    refine Go.Sl.ow_val rfl rfl (Go.Sl.v_pick_true rfl rfl) ?_
    refine Go.Sl.ow_val rfl rfl (Go.Sl.v_assign rfl) ?_
    refine Go.Sl.ow_nil ?_
    refine Go.Sl.xw_then ?_
    refine Go.Sl.cw_dec rfl (fun hc12 => ?_) (fun hc12 => ?_)
    refine Go.Sl.cw_seq ?_
    refine Go.Sl.cw_region ?_
    refine Go.Sl.ow_val rfl rfl (Go.Sl.v_fieldAddr0 Ty.fd30_0 rfl) ?_
    refine Go.Sl.ow_store1 rfl rfl rfl rfl Ty.sc26 .here (Go.Sl.SetN.one (by first | decide | exact Nat.le_of_ble_eq_true rfl)) ?_
    refine Go.Sl.ow_nil ?_
    refine Go.Sl.xw_then ?_
    refine Go.Sl.cw_region ?_
    refine Go.Sl.ow_val rfl rfl (Go.Sl.v_move rfl) ?_
    refine Go.Sl.ow_val rfl rfl (Go.Sl.v_move rfl) ?_
    rotate_left
    refine Go.Sl.cw_seq ?_
    refine Go.Sl.cw_region ?_
    refine Go.Sl.ow_val rfl rfl (Go.Sl.v_move rfl) ?_
    refine Go.Sl.ow_val rfl rfl (Go.Sl.v_gtr rfl rfl) ?_
    refine Go.Sl.ow_val rfl rfl (Go.Sl.v_assign rfl) ?_
    refine Go.Sl.ow_nil ?_
    refine Go.Sl.xw_then ?_
    refine Go.Sl.cw_dec rfl (fun hc23 => ?_) (fun hc23 => ?_)
    refine Go.Sl.cw_region ?_
    refine Go.Sl.ow_val rfl rfl (Go.Sl.v_move rfl) ?_
    (refine Go.Sl.ow_call rfl rfl rfl rfl (rFail_c (s := q.2) (k := 5) (by repeat (first | exact Go.Sl.Sel.here | apply Go.Sl.Sel.there)) hq6) ?_; rintro _ _ ⟨x27, rfl, hq27, rfl⟩)
    refine Go.Sl.ow_nil ?_
    refine Go.Sl.xw_block ?_
    rotate_left
    refine Go.Sl.cw_seq ?_
    refine Go.Sl.cw_region ?_
    refine Go.Sl.ow_val rfl rfl (Go.Sl.v_move rfl) ?_
    refine Go.Sl.ow_val rfl rfl (Go.Sl.v_convert Try.underlying22 Try.underlying26 rfl (Go.Sl.nw_u8 (by omega) (by omega))) ?_
    refine Go.Sl.ow_val rfl rfl (Go.Sl.v_fieldAddr0 Ty.fd30_0 rfl) ?_
    refine Go.Sl.ow_store1 rfl rfl rfl rfl Ty.sc26 .here (Go.Sl.SetN.one (by first | decide | exact Nat.le_of_ble_eq_true rfl)) ?_
    refine Go.Sl.ow_nil ?_
    refine Go.Sl.xw_then ?_
    refine Go.Sl.cw_region ?_
    refine Go.Sl.ow_val rfl rfl (Go.Sl.v_move rfl) ?_
    rotate_left
    refine Go.Sl.ow_skip rfl rfl ?_
    refine Go.Sl.ow_skip rfl rfl ?_
    refine Go.Sl.ow_val rfl rfl (Go.Sl.v_pick_false rfl rfl) ?_
    refine Go.Sl.ow_val rfl rfl (Go.Sl.v_assign rfl) ?_
    refine Go.Sl.ow_nil ?_
    refine Go.Sl.xw_then ?_
    refine Go.Sl.cw_false rfl ?_
    refine Go.Sl.cw_seq ?_
    refine Go.Sl.cw_region ?_
    refine Go.Sl.ow_val rfl rfl (Go.Sl.v_move rfl) ?_
    refine Go.Sl.ow_val rfl rfl (Go.Sl.v_gtr rfl rfl) ?_
    refine Go.Sl.ow_val rfl rfl (Go.Sl.v_assign rfl) ?_
    refine Go.Sl.ow_nil ?_
    refine Go.Sl.xw_then ?_
    refine Go.Sl.cw_dec rfl (fun hc23 => ?_) (fun hc23 => ?_)
    (exfalso; omega)
    refine Go.Sl.cw_seq ?_
    refine Go.Sl.cw_region ?_
    refine Go.Sl.ow_val rfl rfl (Go.Sl.v_move rfl) ?_
    refine Go.Sl.ow_val rfl rfl (Go.Sl.v_convert Try.underlying22 Try.underlying26 rfl (Go.Sl.nw_u8 (by omega) (by omega))) ?_
    refine Go.Sl.ow_val rfl rfl (Go.Sl.v_fieldAddr0 Ty.fd30_0 rfl) ?_
    refine Go.Sl.ow_store1 rfl rfl rfl rfl Ty.sc26 .here (Go.Sl.SetN.one (by first | decide | exact Nat.le_of_ble_eq_true rfl)) ?_
    refine Go.Sl.ow_nil ?_
    refine Go.Sl.xw_then ?_
    refine Go.Sl.cw_region ?_
    refine Go.Sl.ow_val rfl rfl (Go.Sl.v_move rfl) ?_
    rotate_left
    · rw [if_pos ⟨hc15, hc12⟩]
      refine ow_cov (([(b4, .cells (((FrM.zero 0).cells FrP.nil).set 0 (.int .u8 8)).toArray 30 (0, 0))] ++ ([] ++ ([] ++ x6))) :: [(b2, .cells ((FrM.zero 0).cells FrP.nil).toArray 30 (0, 0))] :: F) (by first | exact Go.Sl.Cov.refl _ | (intro p; simp only [List.flatten_cons, List.flatten_nil, List.flatten_append, List.append_nil, List.nil_append, Go.Sl.cnt_append, Go.Sl.cnt_cons, Go.Sl.cnt_nil, List.set_cons_zero, List.set_cons_succ, List.length_nil, List.length_cons, Nat.zero_add, List.append]; omega)) ?_
      have hO : FRAt (FrM.zero 8) q.2 b4 br ([(b4, .cells (((FrM.zero 0).cells FrP.nil).set 0 (.int .u8 8)).toArray 30 (0, 0))] ++ ([] ++ ([] ++ x6))) := ⟨FrP.nil, [], [], x6, rfl, hF0 _, hq6⟩
      (refine Go.Sl.ow_call rfl rfl rfl rfl (takeStream_c (by repeat (first | exact Go.Sl.Sel.here | apply Go.Sl.Sel.there)) hO hb1 (by omega)) ?_; rintro _ _ ⟨x22, rfl, hq22, rfl⟩)
      refine Go.Sl.ow_nil ?_
      refine Go.Sl.xw_block ?_
      exact xw_joint x22 hq22 (by first | exact Go.Sl.Cov.refl _ | (intro p; simp only [List.flatten_cons, List.flatten_nil, List.flatten_append, List.append_nil, List.nil_append, Go.Sl.cnt_append, Go.Sl.cnt_cons, Go.Sl.cnt_nil, List.set_cons_zero, List.set_cons_succ, List.length_nil, List.length_cons, Nat.zero_add, List.append]; omega)) (by repeat (first | exact True.intro | refine And.intro rfl ?_))
    · rw [if_neg (fun h => hc12 h.2), if_pos hc23]
      have hO : FRAt (FrM.zero 0) (failM 5 q.2) b4 br ([(b4, .cells ((FrM.zero 0).cells FrP.nil).toArray 30 (0, 0))] ++ ([] ++ ([] ++ x27))) := ⟨FrP.nil, [], [], x27, rfl, hF0 _, hq27⟩
      exact xw_joint _ hO (by first | exact Go.Sl.Cov.refl _ | (intro p; simp only [List.flatten_cons, List.flatten_nil, List.flatten_append, List.append_nil, List.nil_append, Go.Sl.cnt_append, Go.Sl.cnt_cons, Go.Sl.cnt_nil, List.set_cons_zero, List.set_cons_succ, List.length_nil, List.length_cons, Nat.zero_add, List.append]; omega)) (by repeat (first | exact True.intro | refine And.intro rfl ?_))
    · rw [if_neg (fun h => hc12 h.2), if_neg hc23]
      refine ow_cov (([(b4, .cells (((FrM.zero 0).cells FrP.nil).set 0 (.int .u8 q.1)).toArray 30 (0, 0))] ++ ([] ++ ([] ++ x6))) :: [(b2, .cells ((FrM.zero 0).cells FrP.nil).toArray 30 (0, 0))] :: F) (by first | exact Go.Sl.Cov.refl _ | (intro p; simp only [List.flatten_cons, List.flatten_nil, List.flatten_append, List.append_nil, List.nil_append, Go.Sl.cnt_append, Go.Sl.cnt_cons, Go.Sl.cnt_nil, List.set_cons_zero, List.set_cons_succ, List.length_nil, List.length_cons, Nat.zero_add, List.append]; omega)) ?_
      have hO : FRAt (FrM.zero q.1) q.2 b4 br ([(b4, .cells (((FrM.zero 0).cells FrP.nil).set 0 (.int .u8 q.1)).toArray 30 (0, 0))] ++ ([] ++ ([] ++ x6))) := ⟨FrP.nil, [], [], x6, rfl, hF0 _, hq6⟩
      (refine Go.Sl.ow_call rfl rfl rfl rfl (takeFields_c (by repeat (first | exact Go.Sl.Sel.here | apply Go.Sl.Sel.there)) hO hb1 (by omega)) ?_; rintro _ _ ⟨x11, rfl, hq11, rfl⟩)
      refine Go.Sl.ow_nil ?_
      refine Go.Sl.xw_block ?_
      exact xw_joint x11 hq11 (by first | exact Go.Sl.Cov.refl _ | (intro p; simp only [List.flatten_cons, List.flatten_nil, List.flatten_append, List.append_nil, List.nil_append, Go.Sl.cnt_append, Go.Sl.cnt_cons, Go.Sl.cnt_nil, List.set_cons_zero, List.set_cons_succ, List.length_nil, List.length_cons, Nat.zero_add, List.append]; omega)) (by repeat (first | exact True.intro | refine And.intro rfl ?_))
    · rw [if_neg (fun h => hc15 h.1), if_neg hc23]
      refine ow_cov (([(b4, .cells (((FrM.zero 0).cells FrP.nil).set 0 (.int .u8 q.1)).toArray 30 (0, 0))] ++ ([] ++ ([] ++ x6))) :: [(b2, .cells ((FrM.zero 0).cells FrP.nil).toArray 30 (0, 0))] :: F) (by first | exact Go.Sl.Cov.refl _ | (intro p; simp only [List.flatten_cons, List.flatten_nil, List.flatten_append, List.append_nil, List.nil_append, Go.Sl.cnt_append, Go.Sl.cnt_cons, Go.Sl.cnt_nil, List.set_cons_zero, List.set_cons_succ, List.length_nil, List.length_cons, Nat.zero_add, List.append]; omega)) ?_
      have hO : FRAt (FrM.zero q.1) q.2 b4 br ([(b4, .cells (((FrM.zero 0).cells FrP.nil).set 0 (.int .u8 q.1)).toArray 30 (0, 0))] ++ ([] ++ ([] ++ x6))) := ⟨FrP.nil, [], [], x6, rfl, hF0 _, hq6⟩
      (refine Go.Sl.ow_call rfl rfl rfl rfl (takeFields_c (by repeat (first | exact Go.Sl.Sel.here | apply Go.Sl.Sel.there)) hO hb1 (by omega)) ?_; rintro _ _ ⟨x11, rfl, hq11, rfl⟩)
      refine Go.Sl.ow_nil ?_
      refine Go.Sl.xw_block ?_
      exact xw_joint x11 hq11 (by first | exact Go.Sl.Cov.refl _ | (intro p; simp only [List.flatten_cons, List.flatten_nil, List.flatten_append, List.append_nil, List.nil_append, Go.Sl.cnt_append, Go.Sl.cnt_cons, Go.Sl.cnt_nil, List.set_cons_zero, List.set_cons_succ, List.length_nil, List.length_cons, Nat.zero_add, List.append]; omega)) (by repeat (first | exact True.intro | refine And.intro rfl ?_))
  rintro c1 hO1
  rw [← htk]
  have hlen : ∀ p, ((pTake s).1.cells p).length = 39 := fun p => FrM.cells_len (take_ok s)
  obtain ⟨p, cg, cd, cr, rfl, hFd, hr2⟩ := hO1
  have hl2 := hlen p
  have hlz : ((FrM.zero 0).cells FrP.nil).length = 39 := rfl
  have hl3 : ((pTake s).1.cells p).length = ((FrM.zero 0).cells FrP.nil).length := hl2.trans hlz.symm
  have hone : ∀ u ∈ (pTake s).1.cells p, u.oneCell' = true := FrM.cells_one
  refine cw_flat ([(b2, .cells ((FrM.zero 0).cells FrP.nil).toArray 30 (0, 0))] :: [(b4, .cells ((pTake s).1.cells p).toArray 30 (0, 0))] :: cg :: cd :: cr :: F) (.of_eq (by simp)) ?_
  refine Go.Sl.cw_seq ?_
  refine Go.Sl.cw_region ?_
  refine Go.Sl.ow_val rfl rfl (Go.Sl.v_load rfl (Go.Sl.Var.atN Ty.ag30 (.there .here) Go.Sl.GetN.all (by first | rfl | assumption))) ?_
  refine Go.Sl.ow_storeN rfl rfl rfl Ty.ag30 (by first | rfl | assumption) (by first | assumption | simp) .here (Go.Sl.SetN.all (by first | rfl | assumption | simp_all)) ?_
  refine Go.Sl.ow_nil ?_
  refine Go.Sl.xw_then ?_
  refine Go.Sl.cw_ret ?_
  refine Go.Sl.ret1 rfl (Go.Sl.res_cell rfl (Go.Sl.Var.atN Ty.ag30 .here Go.Sl.GetN.all (by first | rfl | assumption))) ?_
  exact ⟨(p, cg ++ cd, cr), rfl, ⟨FrDeep.of hFd, hr2⟩, (by first | exact Go.Sl.Cov.refl _ | (intro p; simp only [List.flatten_cons, List.flatten_nil, List.flatten_append, List.append_nil, List.nil_append, Go.Sl.cnt_append, Go.Sl.cnt_cons, Go.Sl.cnt_nil, List.set_cons_zero, List.set_cons_succ, List.length_nil, List.length_cons, Nat.zero_add, List.append]; omega))⟩

/-! ### All frames -/
theorem takes_len {l : List UInt8} {fs : List FrM} {e : Int} (h : Takes l fs e) : fs.length ≤ l.length := by
  induction h with
  | nil => simp
  | bad h0 h => simp
  | @more l fs e h0 h ht ih =>
    have := take_lt h0
    rw [List.length_cons]
    omega
structure Took (l : List UInt8) (n : Nat) (e' : Int) (es : List FrE) (D : Hp) : Prop where
  len : n = es.length
  run : ∃ ms e, Takes l ms e ∧ (e ≠ 0 ∧ e' = e ∧ es = [] ∨ e = 0 ∧ ms = [] ∧ e' = 27 ∧ es = [] ∨ e = 0 ∧ ms ≠ [] ∧ e' = 0 ∧ es.map (·.m) = ms)
  deep : ∀ x ∈ es, FrDeep x.m x.p D
set_option maxHeartbeats 4000000 in
theorem takeAll_c {B : Nat} {w0 : World} {G : List Hp} {ao : Option Addr} {n cap : Nat} {l : List UInt8} (hV : Vw enB (St B w0 G) (.slice ao n cap) l) (hb : l.length ≤ 100000) :
    Go.Sl.Fn Try.prog 14 #[.slice ao n cap] B w0 G fun u G' => ∃ x : List FrE × Int × Option Addr × Nat × Hp × Hp, u = .tuple #[.slice x.2.2.1 x.1.length x.2.2.2.1, .int .i64 x.2.1] ∧ (Took l x.1.length x.2.1 x.1 x.2.2.2.2.2 ∧ Ls enF 30 (.slice x.2.2.1 x.1.length x.2.2.2.1) x.2.2.2.2.1 x.1) ∧ G' = [x.2.2.2.2.1, x.2.2.2.2.2] ++ G := by
  refine Fn.new (V := fun x : List FrE × Int × Option Addr × Nat × Hp × Hp => .tuple #[.slice x.2.2.1 x.1.length x.2.2.2.1, .int .i64 x.2.1]) (Nw := fun x => [x.2.2.2.2.1, x.2.2.2.2.2]) ?_
  refine fn_enter Try.func14 rfl (by kernel_rfl) Try.ntmps14 (by simp) ?_
  refine Go.Sl.cw_seq ?_
  refine Go.Sl.cw_region ?_
  refine Go.Sl.ow_val rfl rfl (Go.Sl.v_assign rfl) ?_
  refine Go.Sl.ow_val rfl rfl (Go.Sl.v_assign rfl) ?_
  refine Go.Sl.ow_nil ?_
  refine Go.Sl.xw_then ?_
  refine Go.Sl.cw_seq ?_
  refine Go.Sl.cw_region ?_
  refine Go.Sl.ow_val rfl rfl (Go.Sl.v_move rfl) ?_
  (refine Go.Sl.ow_call rfl rfl rfl rfl (vintRead_c hV (by omega)) ?_; rintro _ _ ⟨x9, rfl, hq9, rfl⟩)
  refine Go.Sl.ow_val rfl rfl (Go.Sl.v_assign rfl) ?_
  refine Go.Sl.ow_nil ?_
  refine Go.Sl.xw_then ?_
  refine Go.Sl.cw_seq ?_
  refine Go.Sl.cw_region ?_
  refine Go.Sl.ow_val rfl rfl (Go.Sl.v_assign rfl) ?_
  refine Go.Sl.ow_nil ?_
  refine Go.Sl.xw_then ?_
  refine Go.Sl.cw_seq ?_
  refine Go.Sl.cw_block ?_
  obtain ⟨br, c9⟩ := x9
  dsimp only at hq9 ⊢
  refine cw_cov (c9 :: [] :: [] :: G) (by first | exact Go.Sl.Cov.refl _ | (intro p; simp only [List.flatten_cons, List.flatten_nil, List.flatten_append, List.append_nil, List.nil_append, Go.Sl.cnt_append, Go.Sl.cnt_cons, Go.Sl.cnt_nil, List.set_cons_zero, List.set_cons_succ, List.length_nil, List.length_cons, Nat.zero_add, List.append]; omega)) ?_
  refine Go.Sl.cw_loop2 (ι := ((List UInt8 × List FrE × Option Addr × Nat × Hp × Hp × Hp))) [(0, _), (4, _)] ⟨rfl, rfl, trivial⟩ ((fun x => [(5, .slice x.2.2.1 x.2.1.length x.2.2.2.1)])) ((fun x => RdAt x.1 0 br x.2.2.2.2.2.2 ∧ x.1.length + x.2.1.length ≤ l.length ∧ (∀ fs e, Takes x.1 fs e → Takes l (x.2.1.map (·.m) ++ fs) e) ∧ (∀ y ∈ x.2.1, FrDeep y.m y.p x.2.2.2.2.2.1) ∧ Ls enF 30 (.slice x.2.2.1 x.2.1.length x.2.2.2.1) x.2.2.2.2.1 x.2.1)) ((fun x => x.1.length)) ((fun x => x.2.2.2.2.2.2 :: x.2.2.2.2.1 :: x.2.2.2.2.2.1 :: G)) (((l, [], none, 0, [], [], c9) : List UInt8 × List FrE × Option Addr × Nat × Hp × Hp × Hp)) (by repeat (first | exact True.intro | refine And.intro rfl ?_)) (by first | exact Go.Sl.Cov.refl _ | (intro p; simp only [List.flatten_cons, List.flatten_nil, List.flatten_append, List.append_nil, List.nil_append, Go.Sl.cnt_append, Go.Sl.cnt_cons, Go.Sl.cnt_nil, List.set_cons_zero, List.set_cons_succ, List.length_nil, List.length_cons, Nat.zero_add, List.append]; omega)) ?_ ?_
  · exact ⟨hq9, by simp, fun fs e h => h, by simp, Ls.nil⟩
  rintro ⟨r, es, ae, ke, ce, D, cr⟩ ⟨hr, hlen, hT, hD, hL⟩
  dsimp only at hr hlen hT hD hL ⊢
  have hsh : Short (r, 0) := by unfold Short; dsimp only; omega
  refine Go.Sl.cw_seq ?_
  refine Go.Sl.cw_seq ?_
  refine Go.Sl.cw_region ?_
  refine Go.Sl.ow_val rfl rfl (Go.Sl.v_move rfl) ?_
  refine Go.Sl.ow_val rfl rfl (Go.Sl.v_call rfl rfl (rdLeft_c hr (by repeat (first | exact Go.Sl.Sub.here | assumption | refine Go.Sl.Sub.there ?_)))) ?_
  refine Go.Sl.ow_val rfl rfl (Go.Sl.v_gtr rfl rfl) ?_
  refine Go.Sl.ow_nil ?_
  refine Go.Sl.xw_then ?_
  refine Go.Sl.cw_dec rfl (fun hc12 => ?_) (fun hc12 => ?_)
  refine Go.Sl.cw_skip ?_
  refine Go.Sl.xw_then ?_
  refine Go.Sl.cw_block ?_
  rotate_left
  refine Go.Sl.cw_exit ?_
  refine Go.Sl.xw_then_exit ?_
  refine Go.Sl.xw_round_exit ?_
  refine Go.Sl.xw_block_exit ?_
  refine Go.Sl.xw_then ?_
  refine Go.Sl.cw_seq ?_
  refine Go.Sl.cw_seq ?_
  refine Go.Sl.cw_region ?_
  refine Go.Sl.ow_val rfl rfl (Go.Sl.v_move rfl) ?_
  refine Go.Sl.ow_val rfl rfl (Go.Sl.v_len rfl Try.underlying36 rfl) ?_
  refine Go.Sl.ow_val rfl rfl (Go.Sl.v_eql rfl rfl) ?_
  refine Go.Sl.ow_nil ?_
  refine Go.Sl.xw_then ?_
  refine Go.Sl.cw_dec rfl (fun hc26 => ?_) (fun hc26 => ?_)
  refine Go.Sl.cw_seq ?_
  refine Go.Sl.cw_region ?_
  refine Go.Sl.ow_val rfl rfl (Go.Sl.v_assign rfl) ?_
  refine Go.Sl.ow_val rfl rfl (Go.Sl.v_assign rfl) ?_
  refine Go.Sl.ow_nil ?_
  refine Go.Sl.xw_then ?_
  refine Go.Sl.cw_ret ?_
  refine Go.Sl.xw_then_ret ?_
  refine Go.Sl.ret2 rfl (Go.Sl.res_tmp rfl) (Go.Sl.res_tmp rfl) ?_
  rotate_left
  refine Go.Sl.cw_skip ?_
  refine Go.Sl.xw_then ?_
  refine Go.Sl.cw_seq ?_
  refine Go.Sl.cw_region ?_
  refine Go.Sl.ow_val rfl rfl (Go.Sl.v_move rfl) ?_
  refine Go.Sl.ow_val rfl rfl (Go.Sl.v_assign rfl) ?_
  refine Go.Sl.ow_val rfl rfl (Go.Sl.v_assign rfl) ?_
  refine Go.Sl.ow_nil ?_
  refine Go.Sl.xw_then ?_
  refine Go.Sl.cw_ret ?_
  refine Go.Sl.ret2 rfl (Go.Sl.res_tmp rfl) (Go.Sl.res_tmp rfl) ?_
  rotate_left
  · have hne : r ≠ [] := fun h => by rw [h] at hc12; simp at hc12
    have hlt := take_lt hne
    have hok := take_ok (r, 0)
    have hcl : ∀ p, ((pTake (r, 0)).1.cells p).length = 39 := fun p => FrM.cells_len hok
    refine Go.Sl.cw_seq ?_
    refine Go.Sl.cw_region ?_
    refine Go.Sl.ow_val rfl rfl (Go.Sl.v_move rfl) ?_
    (refine Go.Sl.ow_call rfl rfl rfl rfl (take_c (s := (r, 0)) (by repeat (first | exact Go.Sl.Sel.here | apply Go.Sl.Sel.there)) hr hsh) ?_; rintro _ _ ⟨x14, rfl, hq14, rfl⟩)
    (refine Go.Sl.ow_alloc rfl rfl Ty.ze30 ?_; intro b6)
    obtain ⟨p, Df, c2⟩ := x14
    obtain ⟨hdeep, hr2⟩ := hq14
    dsimp only at hdeep hr2 ⊢
    have hl3 := hcl p
    have hone : ∀ u ∈ (pTake (r, 0)).1.cells p, u.oneCell' = true := FrM.cells_one
    refine Go.Sl.ow_storeN rfl rfl rfl Ty.ag30 (by first | rfl | assumption) (by first | assumption | simp) .here ((SetN.all hl3)) ?_
    refine Go.Sl.ow_nil ?_
    refine Go.Sl.xw_then ?_
    refine Go.Sl.cw_seq ?_
    refine Go.Sl.cw_seq ?_
    refine Go.Sl.cw_region ?_
    refine Go.Sl.ow_val rfl rfl (Go.Sl.v_move rfl) ?_
    refine Go.Sl.ow_val rfl rfl (Go.Sl.v_call rfl rfl (rdErr_c hr2 (by repeat (first | exact Go.Sl.Sub.here | assumption | refine Go.Sl.Sub.there ?_)))) ?_
    refine Go.Sl.ow_val rfl rfl (Go.Sl.v_assign rfl) ?_
    refine Go.Sl.ow_nil ?_
    refine Go.Sl.xw_then ?_
    refine Go.Sl.cw_seq ?_
    refine Go.Sl.cw_region ?_
    refine Go.Sl.ow_val rfl rfl (Go.Sl.v_move rfl) ?_
    refine Go.Sl.ow_val rfl rfl (Go.Sl.v_neq rfl rfl) ?_
    refine Go.Sl.ow_nil ?_
    refine Go.Sl.xw_then ?_
    refine Go.Sl.cw_dec rfl (fun hc18 => ?_) (fun hc18 => ?_)
    refine Go.Sl.cw_seq ?_
    refine Go.Sl.cw_region ?_
    refine Go.Sl.ow_val rfl rfl (Go.Sl.v_move rfl) ?_
    refine Go.Sl.ow_val rfl rfl (Go.Sl.v_assign rfl) ?_
    refine Go.Sl.ow_val rfl rfl (Go.Sl.v_assign rfl) ?_
    refine Go.Sl.ow_nil ?_
    refine Go.Sl.xw_then ?_
    refine Go.Sl.cw_ret ?_
    refine Go.Sl.xw_then_ret ?_
    refine Go.Sl.xw_block_ret ?_
    refine Go.Sl.xw_round_ret ?_
    refine Go.Sl.xw_block_ret ?_
    refine Go.Sl.xw_then_ret ?_
    refine Go.Sl.ret2 rfl (Go.Sl.res_tmp rfl) (Go.Sl.res_tmp rfl) ?_
    rotate_left
    refine Go.Sl.cw_skip ?_
    refine Go.Sl.xw_then ?_
    refine Go.Sl.cw_region ?_
    refine Go.Sl.ow_val rfl rfl (Go.Sl.v_move rfl) ?_
    refine Go.Sl.ow_val rfl rfl (Go.Sl.v_load rfl (Go.Sl.Var.atN Ty.ag30 .here Go.Sl.GetN.all (by first | rfl | assumption))) ?_
    rotate_left
    · exact ⟨([], (pTake (r, 0)).2.2, none, 0, [], []), rfl, ⟨⟨rfl, ⟨_, _, hT _ _ (Takes.bad hne hc18), .inl ⟨hc18, rfl, rfl⟩⟩, by simp⟩, Ls.nil⟩, (by first | exact Go.Sl.Cov.refl _ | (intro p; simp only [List.flatten_cons, List.flatten_nil, List.flatten_append, List.append_nil, List.nil_append, Go.Sl.cnt_append, Go.Sl.cnt_cons, Go.Sl.cnt_nil, List.set_cons_zero, List.set_cons_succ, List.length_nil, List.length_cons, Nat.zero_add, List.append]; omega))⟩
    have h0 : (pTake (r, 0)).2.2 = 0 := Decidable.not_not.1 hc18
    have hokE : enF.ok ⟨(pTake (r, 0)).1, p⟩ := hok
    (refine Go.Sl.ow_buildL (es := [((⟨(pTake (r, 0)).1, p⟩ : FrE))]) rfl rfl Try.underlying36 Ty.em36 (fTy) rfl rfl (by first | (simp [*]; done) | (repeat (first | exact List.forall_mem_nil _ | refine List.forall_mem_cons.2 ⟨?_, ?_⟩ | assumption | (show _ ∧ _; omega)))) (by simp only [List.length_cons, List.length_nil]; decide) ?_; intro ao22 c22 hL22)
    (refine Go.Sl.ow_appendL rfl rfl Try.underlying36 Try.underlying36 Ty.em36 (fTy) rfl rfl (by assumption) (by repeat (first | exact Go.Sl.Sel.here | apply Go.Sl.Sel.there)) (Go.Sl.Ls.vw (by assumption) (by repeat (first | exact Go.Sl.Sub.here | assumption | refine Go.Sl.Sub.there ?_))) (by first | omega | (simp only [List.length_append, List.length_take, List.length_drop, List.length_nil, List.length_cons]; omega)) (by first | omega | (simp only [List.length_append, List.length_take, List.length_drop, List.length_nil, List.length_cons]; omega)) ?_; intro ao23 cap23 c23 hL23)
    refine Go.Sl.ow_val rfl rfl (Go.Sl.v_assign rfl) ?_
    refine Go.Sl.ow_nil ?_
    refine Go.Sl.xw_block ?_
    refine xw_round ((((pTake (r, 0)).2.1, es ++ [(⟨(pTake (r, 0)).1, p⟩ : FrE)], ao23, cap23, c23, D ++ Df, c2)) : List UInt8 × List FrE × Option Addr × Nat × Hp × Hp × Hp) ⟨?_, ?_, ?_, ?_, hL23⟩ hlt (by first | exact Go.Sl.Cov.refl _ | (intro p; simp only [List.flatten_cons, List.flatten_nil, List.flatten_append, List.append_nil, List.nil_append, Go.Sl.cnt_append, Go.Sl.cnt_cons, Go.Sl.cnt_nil, List.set_cons_zero, List.set_cons_succ, List.length_nil, List.length_cons, Nat.zero_add, List.append]; omega)) (by repeat (first | exact True.intro | refine And.intro rfl ?_))
    · dsimp only
      rw [h0] at hr2
      exact hr2
    · dsimp only
      rw [List.length_append, List.length_singleton]
      omega
    · dsimp only
      intro fs e ht
      have h1 := hT _ _ (Takes.more hne h0 ht)
      rw [List.map_append, List.append_assoc]
      exact h1
    · dsimp only
      intro y hy
      rcases List.mem_append.1 hy with hy | hy
      · exact (hD y hy).left
      · simp only [List.mem_cons, List.not_mem_nil, or_false] at hy
        subst hy
        exact hdeep.right
  · have hr0 : r = [] := List.eq_nil_of_length_eq_zero (by omega)
    have he0 : es = [] := List.eq_nil_of_length_eq_zero (by omega)
    subst hr0 he0
    exact ⟨([], 27, none, 0, [], []), rfl, ⟨⟨rfl, ⟨[], 0, hT [] 0 Takes.nil, .inr (.inl ⟨rfl, rfl, rfl, rfl⟩)⟩, by simp⟩, Ls.nil⟩, (by first | exact Go.Sl.Cov.refl _ | (intro p; simp only [List.flatten_cons, List.flatten_nil, List.flatten_append, List.append_nil, List.nil_append, Go.Sl.cnt_append, Go.Sl.cnt_cons, Go.Sl.cnt_nil, List.set_cons_zero, List.set_cons_succ, List.length_nil, List.length_cons, Nat.zero_add, List.append]; omega))⟩
  · have hr0 : r = [] := List.eq_nil_of_length_eq_zero (by omega)
    subst hr0
    have h1 := hT [] 0 Takes.nil
    rw [List.append_nil] at h1
    exact ⟨(es, 0, ae, ke, ce, D), rfl, ⟨⟨rfl, ⟨_, 0, h1, .inr (.inr ⟨rfl, fun h => by
      have := congrArg List.length h
      rw [List.length_map] at this
      rw [this] at hc26
      simp at hc26, rfl, rfl⟩)⟩, hD⟩, hL⟩, (by first | exact Go.Sl.Cov.refl _ | (intro p; simp only [List.flatten_cons, List.flatten_nil, List.flatten_append, List.append_nil, List.nil_append, Go.Sl.cnt_append, Go.Sl.cnt_cons, Go.Sl.cnt_nil, List.set_cons_zero, List.set_cons_succ, List.length_nil, List.length_cons, Nat.zero_add, List.append]; omega))⟩
end Go.Proofs.Ytckdhelnafjddaa
