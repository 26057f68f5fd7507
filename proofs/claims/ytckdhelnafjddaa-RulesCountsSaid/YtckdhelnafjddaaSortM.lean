/- Sorting, plainly: arrays of numbers beside lists; the kit's functions of the sort. Conditions: none. -/
import Derived.Test.YtckdhelnafjddaaQuo
import Derived.Sort.AssemblyPlain
import Derived.Lib.Tables
namespace Go.Proofs.Ytckdhelnafjddaa
open Go
set_option linter.unusedVariables false
set_option linter.unusedSimpArgs false

theorem bang {d : Array Int} {i : Nat} (h : i < d.size) : d[i]! = d.toList[i]'(by simpa using h) := by
  simp [getElem!_def, h]
theorem bangD {d : Array Int} {i j : Nat} (h : j < d.toList.length) (he : j = i) : d.toList[j] = d[i]! := by
  subst he
  exact (bang (by simpa using h)).symm
theorem swp_toList {d : Array Int} {i j : Nat} : (Sort.swp d i j).toList = (d.toList.set i d[j]!).set j d[i]! := by
  simp [Sort.swp]
theorem swp_sz {d : Array Int} {i j : Nat} : (Sort.swp d i j).size = d.size := by simp [Sort.swp]
theorem insInner_sz {a : Nat} : ∀ {j : Nat} {d : Array Int}, (Sort.insInner Sort.ltInt a j d).size = d.size
  | 0, d => rfl
  | j + 1, d => by
    rw [Sort.insInner]
    split
    · rw [insInner_sz, swp_sz]
    · rfl
theorem ins_go {a j : Nat} {d : Array Int} (h1 : a < j + 1) (h2 : d[j + 1]! < d[j]!) : Sort.insInner Sort.ltInt a (j + 1) d = Sort.insInner Sort.ltInt a j (Sort.swp d (j + 1) j) := by
  rw [Sort.insInner, if_pos (by simp [Sort.ltInt, h2]; omega)]
theorem ins_stop {a j : Nat} {d : Array Int} (h : ¬ (a < j ∧ d[j]! < d[j - 1]!)) : Sort.insInner Sort.ltInt a j d = d := by
  cases j with
  | zero => rfl
  | succ j =>
    rw [Sort.insInner, if_neg]
    simp only [Sort.ltInt, Bool.and_eq_true, decide_eq_true_eq]
    simpa using h
theorem insO_go {a b i : Nat} {d : Array Int} (h : i < b) : Sort.insOuter Sort.ltInt a b i d = Sort.insOuter Sort.ltInt a b (i + 1) (Sort.insInner Sort.ltInt a i d) := by
  rw [Sort.insOuter, if_pos h]
theorem insO_stop {a b i : Nat} {d : Array Int} (h : ¬ i < b) : Sort.insOuter Sort.ltInt a b i d = d := by
  rw [Sort.insOuter, if_neg h]
theorem swpL {d : Array Int} {i j i' j' : Nat} {x y : Int} (hx : x = d[j']!) (hy : y = d[i']!) (hi : i = i') (hj : j = j') : (d.toList.set i x).set j y = (Sort.swp d i' j').toList := by
  subst hx hy hi hj
  exact swp_toList.symm
/-! ### the heap -/
theorem siftDown_stop {hi f r : Nat} {d : Array Int} (h : hi ≤ 2 * r + 1) : Sort.siftDown Sort.ltInt hi f r d = d := by
  rw [Sort.siftDown, dif_pos h]
/-- the greater child -/
def kid (hi f r : Nat) (d : Array Int) : Nat := if 2 * r + 2 < hi ∧ d[f + (2 * r + 1)]! < d[f + (2 * r + 1) + 1]! then 2 * r + 2 else 2 * r + 1
theorem kid_lt {hi f r : Nat} {d : Array Int} (h : 2 * r + 1 < hi) : 2 * r + 1 ≤ kid hi f r d ∧ kid hi f r d < hi ∧ kid hi f r d ≤ 2 * r + 2 := by
  unfold kid
  split <;> omega
theorem kid_iff {hi f r : Nat} {d : Array Int} (h : 2 * r + 2 < hi) : d[f + (2 * r + 1)]! < d[f + (2 * r + 1) + 1]! ↔ kid hi f r d = 2 * r + 2 := by
  unfold kid
  constructor
  · intro h1
    rw [if_pos ⟨h, h1⟩]
  · intro h1
    by_cases h2 : 2 * r + 2 < hi ∧ d[f + (2 * r + 1)]! < d[f + (2 * r + 1) + 1]!
    · exact h2.2
    · rw [if_neg h2] at h1
      omega
theorem kid_no {hi f r : Nat} {d : Array Int} (h : ¬ 2 * r + 2 < hi) : kid hi f r d ≠ 2 * r + 2 := by
  unfold kid
  rw [if_neg fun h1 => h h1.1]
  omega
theorem siftDown_go {hi f r : Nat} {d : Array Int} (h : 2 * r + 1 < hi) : Sort.siftDown Sort.ltInt hi f r d =
    if d[f + r]! < d[f + kid hi f r d]! then Sort.siftDown Sort.ltInt hi f (kid hi f r d) (Sort.swp d (f + r) (f + kid hi f r d)) else d := by
  rw [Sort.siftDown, dif_neg (by omega)]
  unfold kid
  by_cases h1 : 2 * r + 2 < hi ∧ d[f + (2 * r + 1)]! < d[f + (2 * r + 1) + 1]!
  · rw [if_pos h1, if_pos (by simp [Sort.ltInt]; exact ⟨h1.1, h1.2⟩)]
    by_cases h2 : d[f + r]! < d[f + (2 * r + 2)]!
    · rw [if_neg (by simp [Sort.ltInt, h2]), dif_pos h1.1, if_pos h2]
    · rw [if_pos (by simpa [Sort.ltInt] using h2), if_neg h2]
  · rw [if_neg h1, if_neg (by simp only [Sort.ltInt, Bool.and_eq_true, decide_eq_true_eq]; exact h1)]
    by_cases h2 : d[f + r]! < d[f + (2 * r + 1)]!
    · rw [if_neg (by simp [Sort.ltInt, h2]), if_pos h2]
    · rw [if_pos (by simpa [Sort.ltInt] using h2), if_neg h2]
theorem siftDown_sz : ∀ {m hi f r : Nat} {d : Array Int}, hi - r ≤ m → (Sort.siftDown Sort.ltInt hi f r d).size = d.size
  | 0, hi, f, r, d, h => by rw [siftDown_stop (by omega)]
  | m + 1, hi, f, r, d, h => by
    by_cases h1 : hi ≤ 2 * r + 1
    · rw [siftDown_stop h1]
    · rw [siftDown_go (by omega)]
      have h2 := kid_lt (f := f) (d := d) (show 2 * r + 1 < hi by omega)
      split
      · rw [siftDown_sz (m := m) (by omega), swp_sz]
      · rfl
theorem siftDown_size {hi f r : Nat} {d : Array Int} : (Sort.siftDown Sort.ltInt hi f r d).size = d.size := siftDown_sz (Nat.le_refl _)
theorem revLoop_go {i j : Nat} {d : Array Int} (h : i < j) : Sort.reverseLoop i j d = Sort.reverseLoop (i + 1) (j - 1) (Sort.swp d i j) := by
  rw [Sort.reverseLoop, if_pos h]
theorem revLoop_stop {i j : Nat} {d : Array Int} (h : ¬ i < j) : Sort.reverseLoop i j d = d := by
  rw [Sort.reverseLoop, if_neg h]
/-! ### scans -/
theorem scanUp_go {p : Int → Bool} {d : Array Int} {i j : Nat} (h1 : i ≤ j) (h2 : p d[i]! = true) : Sort.scanUp p d j i = Sort.scanUp p d j (i + 1) := by
  rw [Sort.scanUp, if_pos (by simp [h1, h2])]
theorem scanUp_stop {p : Int → Bool} {d : Array Int} {i j : Nat} (h : ¬ (i ≤ j ∧ p d[i]! = true)) : Sort.scanUp p d j i = i := by
  rw [Sort.scanUp, if_neg (by simpa using h)]
theorem scanDown_go {p : Int → Bool} {d : Array Int} {i j : Nat} (hj : 0 < j) (h1 : i ≤ j) (h2 : p d[j]! = true) : Sort.scanDown p d i j = Sort.scanDown p d i (j - 1) := by
  obtain ⟨k, rfl⟩ : ∃ k, j = k + 1 := ⟨j - 1, by omega⟩
  rw [Sort.scanDown, if_pos (by simp [h1, h2])]
  rfl
theorem scanDown_stop {p : Int → Bool} {d : Array Int} {i j : Nat} (hi : 0 < i) (h : ¬ (i ≤ j ∧ p d[j]! = true)) : Sort.scanDown p d i j = j := by
  cases j with
  | zero => rfl
  | succ k => rw [Sort.scanDown, if_neg (by simpa using h)]
theorem scanSorted_go {d : Array Int} {b i : Nat} (h1 : i < b) (h2 : ¬ d[i]! < d[i - 1]!) : Sort.scanSorted Sort.ltInt d b i = Sort.scanSorted Sort.ltInt d b (i + 1) := by
  rw [Sort.scanSorted, if_pos (by simpa [h1, Sort.ltInt] using h2)]
theorem scanSorted_stop {d : Array Int} {b i : Nat} (h : ¬ (i < b ∧ ¬ d[i]! < d[i - 1]!)) : Sort.scanSorted Sort.ltInt d b i = i := by
  rw [Sort.scanSorted, if_neg (by simpa [Sort.ltInt] using h)]
theorem shiftDown_go {d : Array Int} {j : Nat} (hj : 0 < j) (h : d[j]! < d[j - 1]!) : Sort.shiftDown Sort.ltInt j d = Sort.shiftDown Sort.ltInt (j - 1) (Sort.swp d j (j - 1)) := by
  obtain ⟨k, rfl⟩ : ∃ k, j = k + 1 := ⟨j - 1, by omega⟩
  rw [Nat.add_sub_cancel] at *
  rw [Sort.shiftDown, if_neg (by simp [Sort.ltInt, h])]
theorem shiftDown_stop {d : Array Int} {j : Nat} (h : ¬ (0 < j ∧ d[j]! < d[j - 1]!)) : Sort.shiftDown Sort.ltInt j d = d := by
  cases j with
  | zero => rfl
  | succ k => rw [Sort.shiftDown, if_pos (by simpa [Sort.ltInt] using h)]
theorem shiftUp_go {d : Array Int} {b j : Nat} (hj : j < b) (h : d[j]! < d[j - 1]!) : Sort.shiftUp Sort.ltInt b j d = Sort.shiftUp Sort.ltInt b (j + 1) (Sort.swp d j (j - 1)) := by
  rw [Sort.shiftUp, if_pos hj, if_neg (by simp [Sort.ltInt, h])]
theorem shiftUp_stop {d : Array Int} {b j : Nat} (h : ¬ (j < b ∧ d[j]! < d[j - 1]!)) : Sort.shiftUp Sort.ltInt b j d = d := by
  rw [Sort.shiftUp]
  by_cases h1 : j < b
  · rw [if_pos h1, if_pos (by simpa [Sort.ltInt, h1] using h)]
  · rw [if_neg h1]
/-! ### partitions -/
theorem part_eq {d d1 : Array Int} {a b pivot i j : Nat} (h1 : d1 = Sort.swp d a pivot) (hi : Sort.scanUp (fun x => Sort.ltInt x d1[a]!) d1 (b - 1) (a + 1) = i) (hj : Sort.scanDown (fun x => !Sort.ltInt x d1[a]!) d1 i (b - 1) = j) :
    Sort.partition Sort.ltInt d a b pivot = if i > j then (j, true, Sort.swp d1 j a) else ((Sort.partLoop Sort.ltInt a (i + 1) (j - 1) (Sort.swp d1 i j)).1, false, Sort.swp (Sort.partLoop Sort.ltInt a (i + 1) (j - 1) (Sort.swp d1 i j)).2 (Sort.partLoop Sort.ltInt a (i + 1) (j - 1) (Sort.swp d1 i j)).1 a) := by
  subst h1 hi hj
  rfl
theorem partL_eq {d : Array Int} {a i j i2 j2 : Nat} (hi : Sort.scanUp (fun x => Sort.ltInt x d[a]!) d j i = i2) (hj : Sort.scanDown (fun x => !Sort.ltInt x d[a]!) d i2 j = j2) :
    Sort.partLoop Sort.ltInt a i j d = if i2 > j2 then (j2, d) else Sort.partLoop Sort.ltInt a (i2 + 1) (j2 - 1) (Sort.swp d i2 j2) := by
  subst hi hj
  exact Sort.partLoop_eq Sort.ltInt a i j d
theorem partE_eq {d : Array Int} {a i j i2 j2 : Nat} (hi : Sort.scanUp (fun x => !Sort.ltInt d[a]! x) d j i = i2) (hj : Sort.scanDown (fun x => Sort.ltInt d[a]! x) d i2 j = j2) :
    Sort.partEqLoop Sort.ltInt a i j d = if i2 > j2 then (i2, d) else Sort.partEqLoop Sort.ltInt a (i2 + 1) (j2 - 1) (Sort.swp d i2 j2) := by
  subst hi hj
  exact Sort.partEqLoop_eq Sort.ltInt a i j d
theorem pIns_eq {d d1 d2 : Array Int} {a b s i k : Nat} (hk : Sort.scanSorted Sort.ltInt d b i = k) (h1 : d1 = if k - a ≥ 2 then Sort.shiftDown Sort.ltInt (k - 1) (Sort.swp d k (k - 1)) else Sort.swp d k (k - 1)) (h2 : d2 = if b - k ≥ 2 then Sort.shiftUp Sort.ltInt b (k + 1) d1 else d1) :
    Sort.partialIns Sort.ltInt a b (s + 1) i d = if k = b then (d, true) else if b - a < 50 then (d, false) else Sort.partialIns Sort.ltInt a b s k d2 := by
  subst hk h1 h2
  rfl
/-! ### the number of bits -/
theorem len8_all : (List.range 256).all (fun i => decide (i < 2 ^ (Lib.len8 i).toNat) && (decide (i = 0) || decide (2 ^ (Lib.len8 i).toNat ≤ 2 * i)) && decide (0 ≤ Lib.len8 i) && decide (Lib.len8 i ≤ 8)) = true := by decide +kernel
theorem len8_spec {i : Nat} (h : i < 256) : i < 2 ^ (Lib.len8 i).toNat ∧ (0 < i → 2 ^ (Lib.len8 i).toNat ≤ 2 * i) ∧ 0 ≤ Lib.len8 i ∧ Lib.len8 i ≤ 8 := by
  have h1 := (List.all_eq_true.1 len8_all) i (List.mem_range.2 h)
  simp only [Bool.and_eq_true, Bool.or_eq_true, decide_eq_true_eq] at h1
  obtain ⟨⟨⟨h2, h3⟩, h4⟩, h5⟩ := h1
  exact ⟨h2, fun hp => h3.resolve_left (by omega), h4, h5⟩
theorem v_len8 {P : Program} {S : World → Prop} {N : Nat} {E : Sl.Env} {T ty : TypeId} {x y : Operand} {i : Int} (hT : P.underlying T = some .string) (hx : Sl.Env.ev E x = some (.string Lib.len8tab)) (hy : Sl.Env.ev E y = some (.int .u8 i)) (h0 : 0 ≤ i) (h1 : i ≤ 255) :
    Sl.OpV P S N E (.index T x y) ty (.int .u8 (Lib.len8 i)) := fun a w ha _ => by
  have h := Lib.run_index_len8tab (P := P) w T .u8 i hT h0 h1
  simp [execOp, ha.ev hx, ha.ev hy, h, Oper.quietUpon]
/-- what the library's Len says of a number from 1 on -/
def BitLen (n L : Nat) : Prop := n < 2 ^ L ∧ (0 < n → 2 ^ L ≤ 2 * n) ∧ L ≤ 16
theorem bitLen_lo {n : Nat} (h2 : n < 256) : BitLen n (Lib.len8 n).toNat := by
  obtain ⟨h3, h4, h5, h6⟩ := len8_spec h2
  exact ⟨h3, h4, by omega⟩
theorem bitLen_hi {n : Nat} (h : 256 ≤ n) (h2 : n < 65536) : BitLen n (8 + (Lib.len8 ((n / 256 : Nat) : Int)).toNat) := by
  obtain ⟨h3, h4, h5, h6⟩ := len8_spec (i := n / 256) (by omega)
  have h7 := h4 (by omega)
  unfold BitLen
  rw [Nat.pow_add]
  generalize 2 ^ (Lib.len8 ((n / 256 : Nat) : Int)).toNat = p at *
  exact ⟨by omega, by omega, by omega⟩
theorem perm_all {l : List Int} {d : Array Int} (h : Sort.PermIn 0 l.length l.toArray d) : d.toList.Perm l := by
  have h1 := h.2.2
  have hs : d.size = l.length := by simpa using h.1
  have e1 : d.extract 0 l.length = d := by rw [← hs]; simp
  have e2 : l.toArray.extract 0 l.length = l.toArray := by simp
  rw [e1, e2] at h1
  simpa using h1
theorem sorted_all {l : List Int} {d : Array Int} (hs : d.size = l.toArray.size) (h : Sort.SortedIn Sort.ltInt 0 l.length d) : d.toList.Pairwise (· ≤ ·) := by
  rw [List.pairwise_iff_getElem]
  intro i j hi hj hij
  have hl : d.size = l.length := by simpa using hs
  have h1 := h i j (Nat.zero_le _) hij (by rw [Array.length_toList] at hj; omega)
  rw [← bangD hi rfl, ← bangD hj rfl] at h1
  simpa [Sort.ltInt] using h1
end Go.Proofs.Ytckdhelnafjddaa
