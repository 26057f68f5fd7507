/- Package vint, plainly: what was written is taken again. Conditions: numbers below 2^62. -/
import Derived.Test.YtckdhelnafjddaaVintW
namespace Go.Proofs.Ytckdhelnafjddaa
open Go Go.Sl Go.Proofs
set_option maxRecDepth 20000
set_option linter.unusedVariables false
set_option linter.unusedSimpArgs false

theorem bt_nat (N i : Nat) (hi : i ≤ 7) : (toB (bt (N : Int) (i : Int))).toNat = N / 256 ^ i % 256 := by
  have h1 : min (Int.toNat (8 * (i : Int))) (IntKind.bits .u64) = 8 * i := by
    show min (Int.toNat (8 * (i : Int))) 64 = 8 * i
    omega
  have h3 : ((2 : Int) ^ (8 * i)) = ((256 ^ i : Nat) : Int) := by
    rw [Int.pow_mul]
    simp
  have h2 : bt (N : Int) (i : Int) = ((N / 256 ^ i % 256 : Nat) : Int) := by
    unfold bt
    rw [h1, h3, Int.fdiv_eq_ediv_of_nonneg _ (Int.natCast_nonneg _)]
    show IntKind.wrap .u8 ((N / 256 ^ i : Nat) : Int) = _
    simp only [IntKind.wrap, IntKind.bits, IntKind.signed]
    simp
  have h4 : N / 256 ^ i % 256 < 256 := Nat.mod_lt _ (by decide)
  rw [h2]
  unfold toB
  rw [Int.toNat_natCast, UInt8.toNat_ofNat_of_lt' (by show _ < 256; exact h4)]
theorem or_mark {b : UInt8} {k : Int} (hb : b.toNat < 64) : (b ||| toB (vmark k)).toNat = b.toNat + (if k = 2 then 64 else if k = 4 then 128 else if k = 8 then 192 else 0) := by
  have h : ∀ m : UInt8, m = 0 ∨ m = 64 ∨ m = 128 ∨ m = 192 → (b ||| m).toNat = b.toNat + m.toNat := by
    intro m hm
    have key : ∀ n : Fin 64, ∀ m : UInt8, m = 0 ∨ m = 64 ∨ m = 128 ∨ m = 192 → (UInt8.ofNat n.val ||| m).toNat = n.val + m.toNat := by
      intro n m hm
      rcases hm with rfl | rfl | rfl | rfl <;> revert n <;> decide +kernel
    have h2 := key ⟨b.toNat, hb⟩ m hm
    simp only [UInt8.ofNat_toNat] at h2
    exact h2
  unfold vmark
  split
  · rw [h _ (by decide)]; rfl
  · split
    · rw [h _ (by decide)]; rfl
    · split
      · rw [h _ (by decide)]; rfl
      · rw [h _ (by decide)]; rfl
theorem fold_enc (N m : Nat) (hm : m ≤ 7) : ∀ j, j ≤ m → ((List.range j).map fun q : Nat => toB (bt (N : Int) ((m : Int) - 1 - q))).foldl (fun v b => v * 256 + b.toNat) (N / 256 ^ m) = N / 256 ^ (m - j) := by
  intro j
  induction j with
  | zero => intro _; rfl
  | succ j ih =>
    intro hj
    rw [List.range_succ, List.map_append, List.foldl_append, ih (by omega)]
    simp only [List.map_cons, List.map_nil, List.foldl_cons, List.foldl_nil]
    have e1 : (m : Int) - 1 - (j : Int) = ((m - (j + 1) : Nat) : Int) := by omega
    rw [e1, bt_nat N _ (by omega), show m - j = (m - (j + 1)) + 1 by omega, Nat.pow_succ, ← Nat.div_div_eq_div_mul]
    omega
theorem takeV_gen {N k : Nat} {y : Nat} (hk : k = 1 ∧ y = 0 ∨ k = 2 ∧ y = 64 ∨ k = 4 ∧ y = 128 ∨ k = 8 ∧ y = 192) (hN : N / 256 ^ (k - 1) < 64) (rest : List UInt8) : takeV (encV (N : Int) k ++ rest) = ((N : Int), (k : Int), 0) := by
  have hk0 : k = (k - 1) + 1 := by omega
  have hm7 : k - 1 ≤ 7 := by omega
  have hb := bt_nat N (k - 1) hm7
  rw [Nat.mod_eq_of_lt (by omega)] at hb
  have hx := or_mark (b := toB (bt (N : Int) ((k - 1 : Nat) : Int))) (k := (k : Int)) (by rw [hb]; exact hN)
  have hy : (if (k : Int) = 2 then 64 else if (k : Int) = 4 then 128 else if (k : Int) = 8 then 192 else 0) = y := by
    rcases hk with ⟨rfl, rfl⟩ | ⟨rfl, rfl⟩ | ⟨rfl, rfl⟩ | ⟨rfl, rfl⟩ <;> rfl
  rw [hy, hb] at hx
  have he : encV (N : Int) k = (toB (bt (N : Int) ((k - 1 : Nat) : Int)) ||| toB (vmark k)) :: (List.range (k - 1)).map fun q : Nat => toB (bt (N : Int) (((k - 1 : Nat) : Int) - 1 - q)) := by
    unfold encV vbytes
    obtain ⟨m, rfl⟩ : ∃ m, k = m + 1 := ⟨k - 1, hk0⟩
    rw [Nat.add_sub_cancel, List.range_succ_eq_map]
    simp only [List.map_cons, List.headD_cons, List.set_cons_zero, List.map_map]
    have e1 : ((m + 1 : Nat) : Int) - 1 - ((0 : Nat) : Int) = (m : Int) := by omega
    rw [e1]
    congr 1
    refine List.map_congr_left fun q _ => ?_
    show toB (bt (N : Int) (((m + 1 : Nat) : Int) - 1 - ((q + 1 : Nat) : Int))) = _
    rw [show ((m + 1 : Nat) : Int) - 1 - ((q + 1 : Nat) : Int) = (m : Int) - 1 - (q : Int) by omega]
  generalize toB (bt (N : Int) ((k - 1 : Nat) : Int)) ||| toB (vmark k) = x at hx he
  have hv : vsize x = k := by
    unfold vsize
    rw [hx]
    rcases hk with ⟨rfl, rfl⟩ | ⟨rfl, rfl⟩ | ⟨rfl, rfl⟩ | ⟨rfl, rfl⟩
    · rw [show (N / 256 ^ (1 - 1) + 0) / 64 = 0 by omega]
    · rw [show (N / 256 ^ (2 - 1) + 64) / 64 = 1 by omega]
    · rw [show (N / 256 ^ (4 - 1) + 128) / 64 = 2 by omega]
    · rw [show (N / 256 ^ (8 - 1) + 192) / 64 = 3 by omega]
  have h64 : x.toNat % 64 = N / 256 ^ (k - 1) := by
    rw [hx]
    omega
  rw [he, List.cons_append, takeV, hv, if_neg (by simp; omega)]
  have hl : (((List.range (k - 1)).map fun q : Nat => toB (bt (N : Int) (((k - 1 : Nat) : Int) - 1 - q))) ++ rest).take (k - 1) = (List.range (k - 1)).map fun q : Nat => toB (bt (N : Int) (((k - 1 : Nat) : Int) - 1 - q)) := by
    rw [List.take_append_of_le_length (by simp)]
    exact List.take_of_length_le (by simp)
  rw [hl]
  unfold vfold
  rw [h64, fold_enc N (k - 1) hm7 (k - 1) (Nat.le_refl _), Nat.sub_self]
  simp
theorem takeV_enc {n : Int} (h0 : 0 ≤ n) (h : n < 4611686018427387904) (rest : List UInt8) : takeV (encV n (vlen n) ++ rest) = (n, (vlen n : Int), 0) := by
  obtain ⟨N, rfl⟩ := Int.eq_ofNat_of_zero_le h0
  unfold vlen
  split
  · exact takeV_gen (y := 0) (by simp) (by simp; omega) rest
  · split
    · exact takeV_gen (y := 64) (by simp) (by simp; omega) rest
    · split
      · exact takeV_gen (y := 128) (by simp) (by simp; omega) rest
      · exact takeV_gen (y := 192) (by simp) (by simp; omega) rest
theorem takeV_app {p : List UInt8} (q : List UInt8) (h : (takeV p).2.2 = 0) : takeV (p ++ q) = takeV p := by
  cases p with
  | nil => cases h
  | cons x t =>
    by_cases h1 : t.length + 1 < vsize x
    · rw [takeV, if_pos h1] at h; cases h
    · rw [List.cons_append, takeV, takeV, if_neg h1, if_neg (by simp; omega), List.take_append_of_le_length (by omega)]

end Go.Proofs.Ytckdhelnafjddaa
