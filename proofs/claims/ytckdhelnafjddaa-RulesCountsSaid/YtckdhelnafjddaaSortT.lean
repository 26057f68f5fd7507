/- Elements of lists that are sorted. Conditions: none. -/
import Derived.Test.YtckdhelnafjddaaRpM
import Derived.Test.YtckdhelnafjddaaRp
namespace Go.Proofs.Ytckdhelnafjddaa
open Go Go.Sl Go.Proofs
set_option linter.unusedVariables false

def enKd : Enc Int := ⟨fun n => [.int .u8 n], 1, fun n => .int .u8 n, fun n => 0 ≤ n ∧ n ≤ 255⟩
theorem kdTy : EncTy Try.prog 59 enKd := EncTy.scalar Ty.sc59 rfl (fun _ => rfl) (fun _ => rfl)
end Go.Proofs.Ytckdhelnafjddaa
