/- A region that draws, where what is read is held by a condition on the world: reads of cells that nobody writes are taken first. Conditions: none; nothing here speaks of a given program. -/
import Derived.Test.YtckdhelnafjddaaStep
import Derived.OrdersHeld
namespace Go.Sl
set_option linter.unusedVariables false
set_option linter.unusedSimpArgs false
open Go.RowKit Go Go.Instr
variable {P : Program} {ops : Array Oper} {md : Region.Mode} {Q : Exit → Act → World → Prop} {S : World → Prop} {B : Nat} {w0 : World} {N : Nat} {G : List Hp} {E : Env} {ty T : TypeId}
def AH (P : Program) (md : Region.Mode) (ops : Array Oper) (Q : Exit → Act → World → Prop) (S : World → Prop) (B : Nat) (w0 : World) (N : Nat) (G : List Hp) (E : Env) (fuel : Nat) (listed : Array Bool) : Prop :=
  ∀ a w, EnvOK N E a → St B w0 G w → wpAnyH P md ops Q S fuel listed a w
theorem cw_held {id : Nat} {l : List Oper} (S : World → Prop) (hm : P.follows .mixedOrders = true) (h : AH P .any l.toArray (NP Q) S B w0 N G E l.length (Array.replicate l.length false)) : CW P Q B w0 N G E (.region id l.toArray true) := fun a w ha hw => by
  refine wp_mono (Q := NP Q) ?_ (fun e a w hq => by cases e <;> first | exact hq | exact hq.elim)
  refine wp_region_held (S := S) hm ?_
  have h2 := h a { w with drawn := w.drawn + 1 } ha hw.drewEq
  simpa using h2
/-- it yields, and does nothing else -/
def Runs (P : Program) (S : World → Prop) (N : Nat) (E : Env) (op : Op) (ty : TypeId) (v : Value) : Prop := ∀ a w, EnvOK N E a → S w → (execOp a.eval ⟨none, op, ty, "", #[], none⟩).run P w = .ok (.value v) w
theorem runs_pure {op : Op} {v : Value} (hv : OpV P (fun _ => True) N E op ty v) (hc : readsMem ⟨none, op, ty, "", #[], none⟩ = false) : Runs P S N E op ty v := fun a w ha _ => by
  have h1 := hv a w ha trivial
  cases hr : (execOp a.eval ⟨none, op, ty, "", #[], none⟩).run P w with
  | halt x w' => rw [hr] at h1; simp [Oper.quietUpon] at h1
  | ok n w' =>
    obtain ⟨u, hu⟩ := pure_value hc hr
    subst hu
    rw [hr] at h1
    simp only [Oper.quietUpon] at h1
    rw [h1.1, h1.2]
theorem runs_load {x : Operand} {p : Addr} {v : Value} (hx : Env.ev E x = some (.pointer (some p))) (hv : Var P S T p v) : Runs P S N E (.load T x) ty v := fun a w ha hw => by
  simp [execOp, ha.ev hx, Instr.loadAt, Instr.sureAddr, hv w hw]
theorem runs_convert {U : TypeId} {x : Operand} {k j : IntKind} {m r : Int} {d : TypeDesc} (hT : P.underlying T = some d) (hU : P.underlying U = some (.int k)) (hx : Env.ev E x = some (.int j m)) (hr : k.wrap m = r) : Runs P S N E (.convert T U x) ty (.int k r) := fun a w ha _ => by
  subst hr
  simp [execOp, ha.ev hx, convert, run_underlying hT, run_underlying hU, Conv.intToInt]
theorem ah_take (i : Nat) {d : Nat} {op : Op} {t : TypeId} {pos : String} {af : Array Edge} {fuel : Nat} {listed : Array Bool} {v : Value} (hi : ops[i]? = some ⟨some d, op, t, pos, af, none⟩)
    (hB : (Region.noSelect ops && (Region.free md ops listed i && (Region.ready md ops listed).contains i)) = true) (hQ : ∀ c a w, ¬ Q (.panic c) a w) (hd : Nat.blt d N = true) (hv : Runs P S N E op t v) (hS : ∀ w, St B w0 G w → S w)
    (h : AH P md ops Q S B w0 N G ((d, v) :: E) fuel (listed.setIfInBounds i true)) : AH P md ops Q S B w0 N G E (fuel + 1) listed := fun a w ha hw => by
  simp only [Bool.and_eq_true] at hB
  refine wpAnyH_take hi hB.1 hB.2.1 hB.2.2 (fun c a w hq => absurd hq (hQ c _ w)) (v := v) (.inl ⟨rfl, fun w' hw' => hv a w' ha hw'⟩) (hS w hw) ?_
  exact h _ _ (ha.put (by simpa using hd) v) hw
theorem ah_all (is : List Nat) {fuel : Nat} {listed : Array Bool} (hr : decide (Region.ready md ops listed = is) = true) (hne : is ≠ []) (h : ∀ j ∈ is, ∃ o, ops[j]? = some o ∧ OW P ops (Nx (fun a' w' => S w' ∧ wpAnyH P md ops Q S fuel (listed.setIfInBounds j true) a' w') Q) B w0 N G E [o]) : AH P md ops Q S B w0 N G E (fuel + 1) listed := fun a w ha hw => by
  refine wpAnyH_all (by simpa using hr) hne fun j hj => ?_
  obtain ⟨o, ho, h1⟩ := h j hj
  exact wpOp_of_list ho (h1 a w ha hw)
theorem ow_held {fuel : Nat} {listed : Array Bool} (hS : ∀ w, St B w0 G w → S w) (h : AH P md ops Q S B w0 N G E fuel listed) : OW P ops (Nx (fun a' w' => S w' ∧ wpAnyH P md ops Q S fuel listed a' w') Q) B w0 N G E [] := fun a w ha hw => ⟨hS w hw, h a w ha hw⟩
theorem ah_end {fuel : Nat} {listed : Array Bool} (hr : (Region.ready md ops listed).isEmpty = true) (h : XW Q B w0 N G E .normal) : AH P md ops Q S B w0 N G E fuel listed := fun a w ha hw => wpAnyH_done (by simpa using hr) (h a w ha hw) fuel
theorem AH.sub {E' : Env} {fuel : Nat} {listed l' : Array Bool} (h : AH P md ops Q S B w0 N G E' fuel l') (hl : l' = listed) (hE : Env.sub E' E) : AH P md ops Q S B w0 N G E fuel listed := by
  subst hl
  exact fun a w ha hw => h a w (ha.sub hE) hw
theorem aw_held (S : World → Prop) {fuel : Nat} {listed : Array Bool} (h : AH P md ops Q S B w0 N G E fuel listed) : AW P md ops Q B w0 N G E fuel listed := fun a w ha hw => wpAny_of_held _ _ _ _ (h a w ha hw)
end Go.Sl
