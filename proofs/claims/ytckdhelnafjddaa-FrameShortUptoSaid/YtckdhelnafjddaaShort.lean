/- What FrameShort asks, plainly: a stream's frame without a length, taken. Conditions: at most 1200 bytes. -/
import Derived.Test.YtckdhelnafjddaaFrLaw
namespace Go.Proofs.Ytckdhelnafjddaa
open Go Go.Sl Go.Proofs
set_option maxRecDepth 20000
set_option linter.unusedVariables false
set_option linter.unusedSimpArgs false

def shortF (off fin : Bool) (d : List UInt8) : FrM := { FrM.zero 8 with st := 7, off := if off = true then 9 else 0, data := d, fin := fin }
theorem pLeft_all (d : List UInt8) : pLeft (d, 0) = (d, ([], 0)) := by
  unfold pLeft bytesM
  rw [if_neg (by simp), if_neg (by simp)]
  simp
theorem pStream_short (off fin : Bool) {d : List UInt8} (hd : d.length ≤ 1200) : pStream off false fin (7 :: ((if off = true then [9] else []) ++ d), 0) = (shortF off fin d, ([], 0)) := by
  have i7 : ∀ rest, pInt (7 :: rest, 0) = (7, (rest, 0)) := fun rest => by
    have h := rt_int (n := 7) (by decide) (by decide) rest
    rw [show encV 7 (vlen 7) = [7] by decide +kernel] at h
    exact h
  have i9 : ∀ rest, pInt (9 :: rest, 0) = (9, (rest, 0)) := fun rest => by
    have h := rt_int (n := 9) (by decide) (by decide) rest
    rw [show encV 9 (vlen 9) = [9] by decide +kernel] at h
    exact h
  unfold pStream Pr.bind
  rw [i7]
  dsimp only
  cases off with
  | true =>
    rw [if_pos rfl, if_pos rfl, if_neg (by decide)]
    show (pFits _ _) = _
    rw [List.singleton_append, i9]
    dsimp only
    rw [pLeft_all]
    unfold pFits Pr.bind pIf
    dsimp only
    rw [if_neg (by omega)]
    rfl
  | false =>
    rw [if_neg (by decide), if_neg (by decide), if_neg (by decide), List.nil_append]
    show (pFits _ _) = _
    unfold Pr.ret
    dsimp only
    rw [pLeft_all]
    unfold pFits Pr.bind pIf
    dsimp only
    rw [if_neg (by omega)]
    rfl
def shortK (off fin : Bool) : Int := 8 + (if off = true then 4 else 0) + (if fin = true then 1 else 0)
theorem pTake_short (off fin : Bool) {d : List UInt8} (hd : d.length ≤ 1200) : pTake (UInt8.ofNat (shortK off fin).toNat :: 7 :: ((if off = true then [9] else []) ++ d), 0) = (shortF off fin d, ([], 0)) := by
  have hl : ∀ rest, pLeast (UInt8.ofNat (shortK off fin).toNat :: rest, 0) = (shortK off fin, (rest, 0)) := fun rest => by
    have h := rt_least (n := shortK off fin) (by cases off <;> cases fin <;> decide) (by cases off <;> cases fin <;> decide) rest
    rw [show encV (shortK off fin) (vlen (shortK off fin)) = [UInt8.ofNat (shortK off fin).toNat] by cases off <;> cases fin <;> decide +kernel] at h
    exact h
  unfold pTake Pr.bind
  rw [hl]
  dsimp only
  rw [if_pos (by cases off <;> cases fin <;> decide)]
  have e1 : decide ((shortK off fin).toNat / 4 % 2 = 1) = off := by cases off <;> cases fin <;> decide
  have e2 : decide ((shortK off fin).toNat / 2 % 2 = 1) = false := by cases off <;> cases fin <;> decide
  have e3 : decide ((shortK off fin).toNat % 2 = 1) = fin := by cases off <;> cases fin <;> decide
  rw [e1, e2, e3]
  exact pStream_short off fin hd
theorem takes_short (off fin : Bool) {d : List UInt8} (hd : d.length ≤ 1200) : Takes (UInt8.ofNat (shortK off fin).toNat :: 7 :: ((if off = true then [9] else []) ++ d)) [shortF off fin d] 0 := by
  have h := pTake_short off fin hd
  have h1 := Takes.more (l := UInt8.ofNat (shortK off fin).toNat :: 7 :: ((if off = true then [9] else []) ++ d)) (fs := []) (e := 0) (by simp) (by rw [h]) (by rw [h]; exact Takes.nil)
  rw [h] at h1
  exact h1
theorem short_bits {n : Int} (h : 0 ≤ n ∧ n ≤ 255) : ∃ off fin : Bool, bitsOf .or .u8 8 (bitsOf .and .u8 n 5) = shortK off fin ∧ bitsOf .and .u8 n 1 = (if fin = true then 1 else 0) ∧ bitsOf .and .u8 n 4 = (if off = true then 4 else 0) := by
  have key : ∀ k : Fin 256, bitsOf .or .u8 8 (bitsOf .and .u8 (k.val : Int) 5) = shortK (decide (k.val / 4 % 2 = 1)) (decide (k.val % 2 = 1)) ∧ bitsOf .and .u8 (k.val : Int) 1 = (if decide (k.val % 2 = 1) = true then 1 else 0) ∧ bitsOf .and .u8 (k.val : Int) 4 = (if decide (k.val / 4 % 2 = 1) = true then 4 else 0) := by decide +kernel
  obtain ⟨m, rfl⟩ := Int.eq_ofNat_of_zero_le h.1
  exact ⟨_, _, key ⟨m, by omega⟩⟩
end Go.Proofs.Ytckdhelnafjddaa
