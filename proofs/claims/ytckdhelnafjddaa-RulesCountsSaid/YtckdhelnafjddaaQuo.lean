/- Quotients and remainders of numbers that aren't negative; bits of small ones. Conditions: as said. -/
import Derived.Test.YtckdhelnafjddaaStep
namespace Go.Sl
open Go Go.RowKit
set_option linter.unusedVariables false
variable {P : Program} {S : World → Prop} {N : Nat} {E : Env} {T U ty : TypeId}

theorem v_quoP_i64 {x y : Operand} {m n : Int} (hx : Env.ev E x = some (.int .i64 m)) (hy : Env.ev E y = some (.int .i64 n)) (h0 : 0 ≤ m) (h1 : 0 < n) (h2 : m ≤ 9223372036854775807) : OpV P S N E (.binOp .quo T x y U) ty (.int .i64 (m / n)) := by
  refine v_quo hx hy (by omega) ?_
  rw [Int.tdiv_eq_ediv_of_nonneg h0]
  exact nw_i64 (by have := Int.ediv_nonneg h0 (Int.le_of_lt h1); omega) (by have := Int.ediv_le_self n h0; omega)
theorem v_quoP_u64 {x y : Operand} {m n : Int} (hx : Env.ev E x = some (.int .u64 m)) (hy : Env.ev E y = some (.int .u64 n)) (h0 : 0 ≤ m) (h1 : 0 < n) (h2 : m ≤ 18446744073709551615) : OpV P S N E (.binOp .quo T x y U) ty (.int .u64 (m / n)) := by
  refine v_quo hx hy (by omega) ?_
  rw [Int.tdiv_eq_ediv_of_nonneg h0]
  exact nw_u64 (by have := Int.ediv_nonneg h0 (Int.le_of_lt h1); omega) (by have := Int.ediv_le_self n h0; omega)
theorem v_remP {x y : Operand} {k : IntKind} {m n : Int} (hx : Env.ev E x = some (.int k m)) (hy : Env.ev E y = some (.int k n)) (h0 : 0 ≤ m) (h1 : 0 < n) : OpV P S N E (.binOp .rem T x y U) ty (.int k (m % n)) := by
  have h := v_rem (P := P) (S := S) (N := N) (T := T) (U := U) (ty := ty) hx hy (by omega)
  rwa [Int.tmod_eq_emod_of_nonneg h0] at h
/-- 'x >> n' of what isn't negative -/
theorem v_shrP {x y : Operand} {k j : IntKind} {m n p : Int} (hx : Env.ev E x = some (.int k m)) (hy : Env.ev E y = some (.int j n)) (hn : 0 ≤ n) (hb : n.toNat ≤ k.bits) (h0 : 0 ≤ m) (hp : (2 : Int) ^ n.toNat = p) : OpV P S N E (.binOp .shr T x y U) ty (.int k (m / p)) := by
  subst hp
  refine v_shr hx hy hn ?_
  rw [Nat.min_eq_left hb, Int.fdiv_eq_ediv_of_nonneg _ (by exact Int.pow_nonneg (by decide))]
theorem and_le {k : IntKind} (hk : k = .u64) {x y : Int} (hy : 0 ≤ y ∧ y ≤ 18446744073709551615) : 0 ≤ bitsOf .and k x y ∧ bitsOf .and k x y ≤ y := by
  subst hk
  have h1 : (BitVec.ofInt 64 x &&& BitVec.ofInt 64 y).toNat ≤ (BitVec.ofInt 64 y).toNat := by
    rw [BitVec.toNat_and]
    exact Nat.and_le_right
  have h2 : ((BitVec.ofInt 64 y).toNat : Int) = y := by
    rw [BitVec.toNat_ofInt]
    omega
  have h3 : bitsOf .and .u64 x y = ((BitVec.ofInt 64 x &&& BitVec.ofInt 64 y).toNat : Int) := by
    show IntKind.wrap .u64 ((BitVec.ofInt 64 x &&& BitVec.ofInt 64 y).toNat : Int) = _
    exact nw_u64 (by omega) (by have := h1; omega)
  rw [h3]
  omega
theorem bits_u64 {op : BinOp} {x y : Int} : 0 ≤ bitsOf op .u64 x y ∧ bitsOf op .u64 x y ≤ 18446744073709551615 := by
  unfold bitsOf
  simp only []
  generalize ((match op with | .and => _ | .or => _ | .xor => _ | _ => _ : BitVec IntKind.u64.bits).toNat : Int) = z
  simp only [IntKind.wrap, IntKind.signed, IntKind.bits]
  have := Int.emod_nonneg z (show (18446744073709551616 : Int) ≠ 0 by decide)
  have := Int.emod_lt_of_pos z (show (0 : Int) < 18446744073709551616 by decide)
  simp
  omega
end Go.Sl
