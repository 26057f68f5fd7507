/- Bytes as elements; a contract that changes nothing. Conditions: none. -/
import Derived.Test.YtckdhelnafjddaaSpanLaw
import Derived.Test.YtckdhelnafjddaaBytes
namespace Go.Proofs.Ytckdhelnafjddaa
open Go Go.Sl Go.Proofs Go.RowKit
set_option maxRecDepth 20000
set_option linter.unusedVariables false

theorem vbTy : EncTy Try.prog 5 enB := enB_ty Ty.sc5
/-- nothing changes; a value of a kind -/
theorem Fn.val {P : Program} {f : FuncId} {args : Array Value} {B : Nat} {w0 : World} {G : List Hp} {τ : Type} {V : τ → Value} {Pd : τ → Prop}
    (h : Go.Sl.Fn P f args B w0 G fun u G' => ∃ x, u = V x ∧ Pd x ∧ Cov G G') : Go.Sl.Fn P f args B w0 G fun u G' => ∃ x : τ, u = V x ∧ Pd x ∧ G' = G :=
  h.weak fun v G' ⟨x, hu, hp, hc⟩ => ⟨_, ⟨x, hu, hp, rfl⟩, fun w hw => hw.cov hc⟩
end Go.Proofs.Ytckdhelnafjddaa
