/- A region that draws, walked as a lattice of what is listed so far. Conditions: none. -/
import Derived.Test.YtckdhelnafjddaaStep
namespace Go.Sl
set_option linter.unusedVariables false
open Go.RowKit Go
variable {P : Program} {ops : Array Oper} {md : Region.Mode} {B : Nat} {w0 : World} {Q : Exit → Act → World → Prop} {N : Nat} {G : List Hp} {E : Env}
theorem cw_sub {c : Code} (K : Env) (hK : Env.sub K E) (h : CW P Q B w0 N G K c) : CW P Q B w0 N G E c := fun a w ha hw => h a w (ha.sub hK) hw
theorem aw_self {fuel : Nat} {listed : Array Bool} (h : ∀ A : Env → List Hp → Nat → Array Bool → Prop, (∀ M C f l, A M C f l ↔ AW P md ops Q B w0 N (C ++ G) (M ++ E) f l) → A [] [] fuel listed) : AW P md ops Q B w0 N G E fuel listed :=
  h (fun M C f l => AW P md ops Q B w0 N (C ++ G) (M ++ E) f l) (fun _ _ _ _ => Iff.rfl)
theorem aw_use {A : Env → List Hp → Nat → Array Bool → Prop} {E0 : Env} {G0 : List Hp} (hA : ∀ M C f l, A M C f l ↔ AW P md ops Q B w0 N (C ++ G0) (M ++ E0) f l) {M : Env} {C : List Hp} {fuel : Nat} {listed l' : Array Bool} (h : A M C fuel l') (hl : l' = listed) (hE : Env.sub (M ++ E0) E) (hG : Cov (C ++ G0) G) : AW P md ops Q B w0 N G E fuel listed := by
  subst hl
  exact fun a w ha hw => (hA _ _ _ _).1 h a w (ha.sub hE) (hw.cov hG)
end Go.Sl
