/- The rules of the small separation logic for single operations. Conditions: none; nothing here speaks of a given program. -/
import Derived.Test.YtckdhelnafjddaaRules
namespace Go.Sl
set_option linter.unusedVariables false
set_option linter.unusedSimpArgs false
open Go.RowKit

variable {P : Program} {ops : Array Oper} {Q : Exit → Act → World → Prop} {B : Nat} {w0 : World} {N : Nat} {G : List Hp} {E : Env} {S : World → Prop} {ty T U : TypeId}

/-! ### Values -/
theorem v_move {x : Operand} {v : Value} (hx : Env.ev E x = some v) : OpV P S N E (.move x) ty v := fun a w ha _ => by
  simp [execOp, ha.ev hx, Oper.quietUpon]
theorem v_assign {x : Operand} {v : Value} (hx : Env.ev E x = some v) : OpV P S N E (.assign x) ty v := fun a w ha _ => by
  simp [execOp, ha.ev hx, Oper.quietUpon]
theorem v_pick_true {c x y : Operand} {v : Value} (hc : Env.ev E c = some (.bool true)) (hx : Env.ev E x = some v) : OpV P S N E (.pick c x y) ty v := fun a w ha _ => by
  simp [execOp, ha.ev hx, ha.ev hc, asBool, Oper.quietUpon]
theorem v_pick_false {c x y : Operand} {v : Value} (hc : Env.ev E c = some (.bool false)) (hy : Env.ev E y = some v) : OpV P S N E (.pick c x y) ty v := fun a w ha _ => by
  simp [execOp, ha.ev hy, ha.ev hc, asBool, Oper.quietUpon]
theorem v_nilCheck {x : Operand} {p : Addr} (hx : Env.ev E x = some (.pointer (some p))) : OpV P S N E (.nilCheck x) ty (.pointer (some p)) := fun a w ha _ => by
  simp [execOp, ha.ev hx, Oper.quietUpon]
theorem v_not {x : Operand} {p : Prop} [Decidable p] (hx : Env.ev E x = some (.bool (decide p))) : OpV P S N E (.unOp .not T x) ty (.bool (decide (¬ p))) := fun a w ha _ => by
  simp [execOp, ha.ev hx, Op.unary, Oper.quietUpon]
theorem v_not_true {x : Operand} (hx : Env.ev E x = some (.bool true)) : OpV P S N E (.unOp .not T x) ty (.bool false) := fun a w ha _ => by
  simp [execOp, ha.ev hx, Op.unary, Oper.quietUpon]
theorem v_not_false {x : Operand} (hx : Env.ev E x = some (.bool false)) : OpV P S N E (.unOp .not T x) ty (.bool true) := fun a w ha _ => by
  simp [execOp, ha.ev hx, Op.unary, Oper.quietUpon]
theorem v_not_bool {x : Operand} {b : Bool} (hx : Env.ev E x = some (.bool b)) : OpV P S N E (.unOp .not T x) ty (.bool (!b)) := fun a w ha _ => by
  simp [execOp, ha.ev hx, Op.unary, Oper.quietUpon]

/-! ### Arithmetic -/
theorem v_add {x y : Operand} {k : IntKind} {m n r : Int} (hx : Env.ev E x = some (.int k m)) (hy : Env.ev E y = some (.int k n)) (hr : k.wrap (m + n) = r) : OpV P S N E (.binOp .add T x y U) ty (.int k r) := fun a w ha _ => by
  subst hr
  simp [execOp, ha.ev hx, ha.ev hy, eqGuard_at_int, binOp, Op.intArith, Oper.quietUpon]
theorem v_sub {x y : Operand} {k : IntKind} {m n r : Int} (hx : Env.ev E x = some (.int k m)) (hy : Env.ev E y = some (.int k n)) (hr : k.wrap (m - n) = r) : OpV P S N E (.binOp .sub T x y U) ty (.int k r) := fun a w ha _ => by
  subst hr
  simp [execOp, ha.ev hx, ha.ev hy, eqGuard_at_int, binOp, Op.intArith, Oper.quietUpon]
theorem v_mul {x y : Operand} {k : IntKind} {m n r : Int} (hx : Env.ev E x = some (.int k m)) (hy : Env.ev E y = some (.int k n)) (hr : k.wrap (m * n) = r) : OpV P S N E (.binOp .mul T x y U) ty (.int k r) := fun a w ha _ => by
  subst hr
  simp [execOp, ha.ev hx, ha.ev hy, eqGuard_at_int, binOp, Op.intArith, Oper.quietUpon]
theorem v_rem {x y : Operand} {k : IntKind} {m n : Int} (hx : Env.ev E x = some (.int k m)) (hy : Env.ev E y = some (.int k n)) (hn : n ≠ 0) : OpV P S N E (.binOp .rem T x y U) ty (.int k (m.tmod n)) := fun a w ha _ => by
  simp [execOp, ha.ev hx, ha.ev hy, eqGuard_at_int, binOp, Op.intDiv, hn, Oper.quietUpon]
theorem v_quo {x y : Operand} {k : IntKind} {m n r : Int} (hx : Env.ev E x = some (.int k m)) (hy : Env.ev E y = some (.int k n)) (hn : n ≠ 0) (hr : k.wrap (m.tdiv n) = r) : OpV P S N E (.binOp .quo T x y U) ty (.int k r) := fun a w ha _ => by
  subst hr
  simp [execOp, ha.ev hx, ha.ev hy, eqGuard_at_int, binOp, Op.intDiv, hn, Oper.quietUpon]
def bitsOf (op : BinOp) (k : IntKind) (x y : Int) : Int :=
  let a := BitVec.ofInt k.bits x
  let b := BitVec.ofInt k.bits y
  k.wrap (match op with | .and => a &&& b | .or => a ||| b | .xor => a ^^^ b | _ => a &&& ~~~b).toNat
theorem v_and {x y : Operand} {k : IntKind} {m n r : Int} (hx : Env.ev E x = some (.int k m)) (hy : Env.ev E y = some (.int k n)) (hr : bitsOf .and k m n = r) : OpV P S N E (.binOp .and T x y U) ty (.int k r) := fun a w ha _ => by
  subst hr
  simp [execOp, ha.ev hx, ha.ev hy, eqGuard_at_int, binOp, Op.intBits, Oper.quietUpon, bitsOf]
theorem v_or {x y : Operand} {k : IntKind} {m n r : Int} (hx : Env.ev E x = some (.int k m)) (hy : Env.ev E y = some (.int k n)) (hr : bitsOf .or k m n = r) : OpV P S N E (.binOp .or T x y U) ty (.int k r) := fun a w ha _ => by
  subst hr
  simp [execOp, ha.ev hx, ha.ev hy, eqGuard_at_int, binOp, Op.intBits, Oper.quietUpon, bitsOf]
theorem v_xor {x y : Operand} {k : IntKind} {m n r : Int} (hx : Env.ev E x = some (.int k m)) (hy : Env.ev E y = some (.int k n)) (hr : bitsOf .xor k m n = r) : OpV P S N E (.binOp .xor T x y U) ty (.int k r) := fun a w ha _ => by
  subst hr
  simp [execOp, ha.ev hx, ha.ev hy, eqGuard_at_int, binOp, Op.intBits, Oper.quietUpon, bitsOf]
theorem v_shl {x y : Operand} {k j : IntKind} {m n r : Int} (hx : Env.ev E x = some (.int k m)) (hy : Env.ev E y = some (.int j n)) (hn : 0 ≤ n) (hr : k.wrap (m * 2 ^ min n.toNat k.bits) = r) : OpV P S N E (.binOp .shl T x y U) ty (.int k r) := fun a w ha _ => by
  subst hr
  have : ¬ n < 0 := by omega
  simp [execOp, ha.ev hx, ha.ev hy, eqGuard_at_int, binOp, Op.shift, this, Oper.quietUpon]
theorem v_shr {x y : Operand} {k j : IntKind} {m n r : Int} (hx : Env.ev E x = some (.int k m)) (hy : Env.ev E y = some (.int j n)) (hn : 0 ≤ n) (hr : m.fdiv (2 ^ min n.toNat k.bits) = r) : OpV P S N E (.binOp .shr T x y U) ty (.int k r) := fun a w ha _ => by
  subst hr
  have : ¬ n < 0 := by omega
  simp [execOp, ha.ev hx, ha.ev hy, eqGuard_at_int, binOp, Op.shift, this, Oper.quietUpon]

theorem beq_dec (m n : Int) : (m == n) = decide (m = n) := by
  by_cases h : m = n <;> simp [h]
theorem v_eql {x y : Operand} {k : IntKind} {m n : Int} (hx : Env.ev E x = some (.int k m)) (hy : Env.ev E y = some (.int k n)) : OpV P S N E (.binOp .eql T x y U) ty (.bool (decide (m = n))) := fun a w ha _ => by
  simp [execOp, ha.ev hx, ha.ev hy, eqGuard_at_int, binOp, Op.intCmp, Oper.quietUpon, beq_dec]
theorem v_neq {x y : Operand} {k : IntKind} {m n : Int} (hx : Env.ev E x = some (.int k m)) (hy : Env.ev E y = some (.int k n)) : OpV P S N E (.binOp .neq T x y U) ty (.bool (decide (m ≠ n))) := fun a w ha _ => by
  simp [execOp, ha.ev hx, ha.ev hy, eqGuard_at_int, binOp, Op.intCmp, Oper.quietUpon, bne, beq_dec]
theorem v_lss {x y : Operand} {k : IntKind} {m n : Int} (hx : Env.ev E x = some (.int k m)) (hy : Env.ev E y = some (.int k n)) : OpV P S N E (.binOp .lss T x y U) ty (.bool (decide (m < n))) := fun a w ha _ => by
  simp [execOp, ha.ev hx, ha.ev hy, eqGuard_at_int, binOp, Op.intCmp, Oper.quietUpon]
theorem v_leq {x y : Operand} {k : IntKind} {m n : Int} (hx : Env.ev E x = some (.int k m)) (hy : Env.ev E y = some (.int k n)) : OpV P S N E (.binOp .leq T x y U) ty (.bool (decide (m ≤ n))) := fun a w ha _ => by
  simp [execOp, ha.ev hx, ha.ev hy, eqGuard_at_int, binOp, Op.intCmp, Oper.quietUpon]
theorem v_gtr {x y : Operand} {k : IntKind} {m n : Int} (hx : Env.ev E x = some (.int k m)) (hy : Env.ev E y = some (.int k n)) : OpV P S N E (.binOp .gtr T x y U) ty (.bool (decide (n < m))) := fun a w ha _ => by
  simp [execOp, ha.ev hx, ha.ev hy, eqGuard_at_int, binOp, Op.intCmp, Oper.quietUpon]
theorem v_geq {x y : Operand} {k : IntKind} {m n : Int} (hx : Env.ev E x = some (.int k m)) (hy : Env.ev E y = some (.int k n)) : OpV P S N E (.binOp .geq T x y U) ty (.bool (decide (n ≤ m))) := fun a w ha _ => by
  simp [execOp, ha.ev hx, ha.ev hy, eqGuard_at_int, binOp, Op.intCmp, Oper.quietUpon]
theorem v_convert {x : Operand} {k j : IntKind} {m r : Int} {d : TypeDesc} (hT : P.underlying T = some d) (hU : P.underlying U = some (.int k)) (hx : Env.ev E x = some (.int j m)) (hr : k.wrap m = r) : OpV P S N E (.convert T U x) ty (.int k r) := fun a w ha _ => by
  subst hr
  simp [execOp, ha.ev hx, convert, run_underlying hT, run_underlying hU, Conv.intToInt, Oper.quietUpon]

/-! ### Pointers -/
theorem v_eql_nil {x : Operand} {e : TypeId} {p : Option Addr} (hT : P.underlying T = some (.pointer e)) (hx : Env.ev E x = some (.pointer p)) : OpV P S N E (.binOp .eql T x (.const (.pointer none)) U) ty (.bool p.isNone) := fun a w ha _ => by
  have h1 : P.underlying T = some (.pointer (P.pointee T)) := by simp [Program.pointee, hT]
  simp [execOp, ha.ev hx, ha.ev (x := .const (.pointer none)) rfl, eqGuard, run_eql_pointer_nil w T p h1, Oper.quietUpon]
theorem v_neq_nil {x : Operand} {e : TypeId} {p : Option Addr} (hT : P.underlying T = some (.pointer e)) (hx : Env.ev E x = some (.pointer p)) : OpV P S N E (.binOp .neq T x (.const (.pointer none)) U) ty (.bool p.isSome) := fun a w ha _ => by
  have h1 : P.underlying T = some (.pointer (P.pointee T)) := by simp [Program.pointee, hT]
  simp [execOp, ha.ev hx, ha.ev (x := .const (.pointer none)) rfl, eqGuard, run_neq_pointer_nil w T p h1, Oper.quietUpon]
theorem v_eql_nil_some {x : Operand} {e : TypeId} {p : Addr} (hT : P.underlying T = some (.pointer e)) (hx : Env.ev E x = some (.pointer (some p))) : OpV P S N E (.binOp .eql T x (.const (.pointer none)) U) ty (.bool false) := v_eql_nil hT hx
theorem v_neq_nil_some {x : Operand} {e : TypeId} {p : Addr} (hT : P.underlying T = some (.pointer e)) (hx : Env.ev E x = some (.pointer (some p))) : OpV P S N E (.binOp .neq T x (.const (.pointer none)) U) ty (.bool true) := v_neq_nil hT hx
theorem v_eql_nil_none {x : Operand} {e : TypeId} (hT : P.underlying T = some (.pointer e)) (hx : Env.ev E x = some (.pointer none)) : OpV P S N E (.binOp .eql T x (.const (.pointer none)) U) ty (.bool true) := v_eql_nil hT hx
theorem v_neq_nil_none {x : Operand} {e : TypeId} (hT : P.underlying T = some (.pointer e)) (hx : Env.ev E x = some (.pointer none)) : OpV P S N E (.binOp .neq T x (.const (.pointer none)) U) ty (.bool false) := v_neq_nil hT hx

/-! ### Addresses -/
/-- field f of struct type T lies 'off' cells behind -/
def Fld (P : Program) (T : TypeId) (f off : Nat) : Prop := ∀ p w, (Instr.fieldAt T (.pointer (some p)) f).run P w = .ok (.pointer (some (p.add off))) w
theorem Fld.of {fs : Array Field} {f off n : Nat} {fl : Field} (hT : P.underlying T = some (.struct fs)) (hf : fs[f]? = some fl) (ho : fl.offset = off) (hn : (P.info? fl.type).map (·.size) = some (n + 1)) : Fld P T f off := fun p w => by
  subst ho
  simp [Instr.fieldAt, run_underlying hT, hf, Instr.sureAddr, fieldPlace, run_sizeOf hn]
theorem add_mk (b o n : Nat) : (⟨b, o, none⟩ : Addr).add n = ⟨b, o + n, none⟩ := by
  unfold Addr.add
  split
  · rename_i h; subst h; rfl
  · rfl
theorem v_fieldAddr {x : Operand} {f off b o : Nat} (hf : Fld P T f off) (hx : Env.ev E x = some (.pointer (some ⟨b, o, none⟩))) : OpV P S N E (.fieldAddr T x f) ty (.pointer (some ⟨b, o + off, none⟩)) := fun a w ha _ => by
  have h := hf ⟨b, o, none⟩ w
  simp [execOp, ha.ev hx, h, Oper.quietUpon, add_mk]
theorem v_fieldAddr0 {x : Operand} {f off b : Nat} (hf : Fld P T f off) (hx : Env.ev E x = some (.pointer (some ⟨b, 0, none⟩))) : OpV P S N E (.fieldAddr T x f) ty (.pointer (some ⟨b, off, none⟩)) := fun a w ha _ => by
  have h := hf ⟨b, 0, none⟩ w
  simp [execOp, ha.ev hx, h, Oper.quietUpon, add_mk]
theorem v_indexAddr {x y : Operand} {k : IntKind} {n : Int} {i b o len cap e size : Nat} {ao : Option Addr} (hT : P.underlying T = some (.slice e)) (he : (P.info? e).map (·.size) = some size) (hx : Env.ev E x = some (.slice ao len cap)) (hao : ao = some ⟨b, o, none⟩) (hy : Env.ev E y = some (.int k n))
    (hi : n = (i : Int)) (hlt : i < len) : OpV P S N E (.indexAddr T x y) ty (.pointer (some ⟨b, o + i * size, none⟩)) := fun a w ha _ => by
  subst hi
  subst hao
  have h1 : (i : Int) < (len : Int) := by omega
  have h2 := run_sizeOf he w
  simp [execOp, ha.ev hx, ha.ev hy, Instr.indexAt, asIntOf, run_underlying hT, h1, hlt, h2, Oper.quietUpon, add_mk]
theorem v_indexAddrA {x y : Operand} {k : IntKind} {n : Int} {i b o len e size : Nat} (hT : P.underlying T = some (.array len e)) (he : (P.info? e).map (·.size) = some size) (hx : Env.ev E x = some (.pointer (some ⟨b, o, none⟩))) (hy : Env.ev E y = some (.int k n))
    (hi : n = (i : Int)) (hlt : i < len) : OpV P S N E (.indexAddr T x y) ty (.pointer (some ⟨b, o + i * size, none⟩)) := fun a w ha _ => by
  subst hi
  have h1 : (i : Int) < (len : Int) := by omega
  have h2 := run_sizeOf he w
  simp [execOp, ha.ev hx, ha.ev hy, Instr.indexAt, asIntOf, run_underlying hT, Instr.sureAddr, h1, hlt, h2, Oper.quietUpon, add_mk]

/-! ### Memory -/
theorem v_load {x : Operand} {p : Addr} {v : Value} (hx : Env.ev E x = some (.pointer (some p))) (hv : Var P S T p v) : OpV P S N E (.load T x) ty v := fun a w ha hw => by
  simp [execOp, ha.ev hx, Instr.loadAt, Instr.sureAddr, hv w hw, Oper.quietUpon]

theorem v_len {x : Operand} {b : Option Addr} {n c : Nat} {e : TypeId} {tys : Array TypeId} (ht : tys[0]? = some T) (hT : P.underlying T = some (.slice e)) (hx : Env.ev E x = some (.slice b n c)) : OpV P S N E (.call { callee := .builtin .len, args := #[x], argTypes := tys }) ty (.int .i64 n) := fun a w ha _ => by
  simp [execOp, resolve, ha.ev hx, invoke, builtin, Builtin.len_, ht, run_underlying hT, goInt, Oper.quietUpon]

theorem v_len_str {x : Operand} {b : ByteArray} {tys : Array TypeId} (ht : tys[0]? = some T) (hT : P.underlying T = some .string) (hx : Env.ev E x = some (.string b)) : OpV P S N E (.call { callee := .builtin .len, args := #[x], argTypes := tys }) ty (.int .i64 b.size) := fun a w ha _ => by
  simp [execOp, resolve, ha.ev hx, invoke, builtin, Builtin.len_, ht, run_underlying hT, goInt, Oper.quietUpon]
theorem v_cap {x : Operand} {b : Option Addr} {n c : Nat} {e : TypeId} {tys : Array TypeId} (ht : tys[0]? = some T) (hT : P.underlying T = some (.slice e)) (hx : Env.ev E x = some (.slice b n c)) : OpV P S N E (.call { callee := .builtin .cap, args := #[x], argTypes := tys }) ty (.int .i64 c) := fun a w ha _ => by
  simp [execOp, resolve, ha.ev hx, invoke, builtin, Builtin.cap_, ht, run_underlying hT, goInt, Oper.quietUpon]
theorem v_min {x y : Operand} {k : IntKind} {m n : Int} {tys : Array TypeId} (hx : Env.ev E x = some (.int k m)) (hy : Env.ev E y = some (.int k n)) : OpV P S N E (.call { callee := .builtin .min, args := #[x, y], argTypes := tys }) ty (.int k (min m n)) := fun a w ha _ => by
  have h : (if n < m then n else m) = min m n := by omega
  simp [execOp, resolve, ha.ev hx, ha.ev hy, invoke, builtin, Builtin.min_, Builtin.min2, h, Oper.quietUpon]
theorem v_max {x y : Operand} {k : IntKind} {m n : Int} {tys : Array TypeId} (hx : Env.ev E x = some (.int k m)) (hy : Env.ev E y = some (.int k n)) : OpV P S N E (.call { callee := .builtin .max, args := #[x, y], argTypes := tys }) ty (.int k (max m n)) := fun a w ha _ => by
  have h : (if m < n then n else m) = max m n := by omega
  simp [execOp, resolve, ha.ev hx, ha.ev hy, invoke, builtin, Builtin.max_, Builtin.max2, h, Oper.quietUpon]
theorem v_extract {x : Operand} {vs : Array Value} {i : Nat} {v : Value} (hx : Env.ev E x = some (.tuple vs)) (hv : vs[i]? = some v) : OpV P S N E (.extract x i) ty v := fun a w ha _ => by
  simp [execOp, ha.ev hx, Instr.extract, hv, Oper.quietUpon]
theorem v_makeFunc {fn : Go.Fn} {l m : List Operand} {ls ms : List Value} (hl : Env.evs E l = some ls) (hm : Env.evs E m = some ms) : OpV P S N E (.makeFunc fn l.toArray m.toArray) ty (.func fn ls.toArray ms.toArray) := fun a w ha _ => by
  have h1 := ha.evs hl
  have h2 := ha.evs hm
  simp [execOp, Instr.makeFunc, h1, h2, Oper.quietUpon]
theorem v_eqlB {x y : Operand} {p q : Bool} (hT : P.underlying T = some .bool) (hx : Env.ev E x = some (.bool p)) (hy : Env.ev E y = some (.bool q)) : OpV P S N E (.binOp .eql T x y U) ty (.bool (decide (p = q))) := fun a w ha _ => by
  have h := run_equal_bool (P := P) w T p q hT
  have h2 : (p == q) = decide (p = q) := by cases p <;> cases q <;> rfl
  simp [execOp, ha.ev hx, ha.ev hy, eqGuard_at_bool, binOp, h, h2, Oper.quietUpon]
theorem v_neqB {x y : Operand} {p q : Bool} (hT : P.underlying T = some .bool) (hx : Env.ev E x = some (.bool p)) (hy : Env.ev E y = some (.bool q)) : OpV P S N E (.binOp .neq T x y U) ty (.bool (decide (p ≠ q))) := fun a w ha _ => by
  have h := run_equal_bool (P := P) w T p q hT
  have h2 : (!(p == q)) = decide (p ≠ q) := by cases p <;> cases q <;> rfl
  simp [execOp, ha.ev hx, ha.ev hy, eqGuard_at_bool, binOp, h, Oper.quietUpon]
  cases p <;> cases q <;> rfl

/-! ### No wrap -/
theorem nw_i64 {x : Int} (h1 : -9223372036854775808 ≤ x) (h2 : x ≤ 9223372036854775807) : IntKind.wrap .i64 x = x := IntWalk.i64_in x ⟨h1, h2⟩
theorem nw_u64 {x : Int} (h1 : 0 ≤ x) (h2 : x ≤ 18446744073709551615) : IntKind.wrap .u64 x = x := by
  simp only [IntKind.wrap, IntKind.bits, IntKind.signed]
  simp
  omega
theorem nw_u8 {x : Int} (h1 : 0 ≤ x) (h2 : x ≤ 255) : IntKind.wrap .u8 x = x := by
  simp only [IntKind.wrap, IntKind.bits, IntKind.signed]
  simp
  omega
theorem nw_u16 {x : Int} (h1 : 0 ≤ x) (h2 : x ≤ 65535) : IntKind.wrap .u16 x = x := by
  simp only [IntKind.wrap, IntKind.bits, IntKind.signed]
  simp
  omega
theorem nw_u32 {x : Int} (h1 : 0 ≤ x) (h2 : x ≤ 4294967295) : IntKind.wrap .u32 x = x := by
  simp only [IntKind.wrap, IntKind.bits, IntKind.signed]
  simp
  omega

end Go.Sl
