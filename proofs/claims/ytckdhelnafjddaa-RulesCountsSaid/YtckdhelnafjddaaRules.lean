/- The rules of the small separation logic for code: sequences, tests, loops, regions, calls, returns. Conditions: none; nothing here speaks of a given program. -/
import Derived.Test.YtckdhelnafjddaaCore
namespace Go.Sl
set_option linter.unusedVariables false
set_option linter.unusedSimpArgs false
open Go.RowKit

variable {P : Program} {ops : Array Oper} {Q : Exit → Act → World → Prop} {B : Nat} {w0 : World} {N : Nat} {G : List Hp} {E : Env}

/-- the operations that are left of a region -/
def OW (P : Program) (ops : Array Oper) (Q : Exit → Act → World → Prop) (B : Nat) (w0 : World) (N : Nat) (G : List Hp) (E : Env) (rest : List Oper) : Prop :=
  ∀ a w, EnvOK N E a → St B w0 G w → wpList P ops Q rest a w
/-- code -/
def CW (P : Program) (Q : Exit → Act → World → Prop) (B : Nat) (w0 : World) (N : Nat) (G : List Hp) (E : Env) (c : Code) : Prop :=
  ∀ a w, EnvOK N E a → St B w0 G w → Code.wp P c Q a w
/-- a way out -/
def XW (Q : Exit → Act → World → Prop) (B : Nat) (w0 : World) (N : Nat) (G : List Hp) (E : Env) (x : Exit) : Prop :=
  ∀ a w, EnvOK N E a → St B w0 G w → Q x a w
/-- the operations that are left of a region that draws its order, all of which read alone -/
def KW (P : Program) (ops : Array Oper) (Q : Exit → Act → World → Prop) (B : Nat) (w0 : World) (N : Nat) (G : List Hp) (E : Env) (rest : List Oper) : Prop :=
  ∀ a, EnvOK N E a → wpQuiet P ops (St B w0 G) (fun a' => ∀ w', St B w0 G w' → Q .normal a' w') rest a

/-! ### Code -/
theorem cw_seq {x y : Code} (h : CW P (Exit.then (y.wp P Q) Q) B w0 N G E x) : CW P Q B w0 N G E (.seq x y) := fun a w ha hw => wp_seq (h a w ha hw)
theorem xw_then {y : Code} (h : CW P Q B w0 N G E y) : XW (Exit.then (y.wp P Q) Q) B w0 N G E .normal := h
theorem xw_then_ret {K : Act → World → Prop} (h : XW Q B w0 N G E .ret) : XW (Exit.then K Q) B w0 N G E .ret := h
theorem xw_then_exit {K : Act → World → Prop} {i : Nat} (h : XW Q B w0 N G E (.exit i)) : XW (Exit.then K Q) B w0 N G E (.exit i) := h
theorem cw_block {i : Nat} {c : Code} (h : CW P (Exit.inBlock i Q) B w0 N G E c) : CW P Q B w0 N G E (.block i c) := fun a w ha hw => wp_block (h a w ha hw)
theorem xw_block {i : Nat} (h : XW Q B w0 N G E .normal) : XW (Exit.inBlock i Q) B w0 N G E .normal := h
theorem xw_block_ret {i : Nat} (h : XW Q B w0 N G E .ret) : XW (Exit.inBlock i Q) B w0 N G E .ret := h
theorem xw_block_exit {i : Nat} (h : XW Q B w0 N G E .normal) : XW (Exit.inBlock i Q) B w0 N G E (.exit i) := fun a w ha hw => by
  simp only [Exit.inBlock, if_true]
  exact h a w ha hw
theorem xw_block_other {i j : Nat} (hij : Nat.beq j i = false) (h : XW Q B w0 N G E (.exit j)) : XW (Exit.inBlock i Q) B w0 N G E (.exit j) := fun a w ha hw => by
  have hne : ¬ j = i := fun e => by subst e; simp at hij
  simp only [Exit.inBlock, if_neg hne]
  exact h a w ha hw
theorem cw_ret (h : XW Q B w0 N G E .ret) : CW P Q B w0 N G E .ret := fun a w ha hw => wp_ret (h a w ha hw)
theorem cw_skip (h : XW Q B w0 N G E .normal) : CW P Q B w0 N G E .skip := fun a w ha hw => wp_skip (h a w ha hw)
theorem cw_exit {i : Nat} (h : XW Q B w0 N G E (.exit i)) : CW P Q B w0 N G E (.exit i) := fun a w ha hw => wp_exit (h a w ha hw)
theorem cw_region {i : Nat} {l : List Oper} (h : OW P l.toArray Q B w0 N G E l) : CW P Q B w0 N G E (.region i l.toArray false) := fun a w ha hw => wp_region_lit (h a w ha hw)
theorem cw_quiet {i : Nat} {l : List Oper} (hm : P.follows .mixedOrders = true) (hB : Region.lexB .any l.toArray = true) (h : KW P l.toArray Q B w0 N G E l) : CW P Q B w0 N G E (.region i l.toArray true) :=
  fun a w ha hw => wp_region_quiet (C := St B w0 G) hm hB hw.drewEq (by simpa using h a ha)

theorem cw_true {c : Operand} {x y : Code} (hc : Env.ev E c = some (.bool true)) (h : CW P Q B w0 N G E x) : CW P Q B w0 N G E (.cond c x y) := fun a w ha hw => wp_cond_true (ha.ev hc) (h a w ha hw)
theorem cw_false {c : Operand} {x y : Code} (hc : Env.ev E c = some (.bool false)) (h : CW P Q B w0 N G E y) : CW P Q B w0 N G E (.cond c x y) := fun a w ha hw => wp_cond_false (ha.ev hc) (h a w ha hw)
theorem cw_dec {c : Operand} {x y : Code} {p : Prop} [Decidable p] (hc : Env.ev E c = some (.bool (decide p))) (hx : p → CW P Q B w0 N G E x) (hy : ¬ p → CW P Q B w0 N G E y) : CW P Q B w0 N G E (.cond c x y) := by
  by_cases hp : p
  · exact cw_true (by rw [hc, decide_eq_true hp]) (hx hp)
  · exact cw_false (by rw [hc, decide_eq_false hp]) (hy hp)
theorem cw_bool {c : Operand} {x y : Code} {b : Bool} (hc : Env.ev E c = some (.bool b)) (hx : b = true → CW P Q B w0 N G E x) (hy : b = false → CW P Q B w0 N G E y) : CW P Q B w0 N G E (.cond c x y) := by
  cases b
  · exact cw_false hc (hy rfl)
  · exact cw_true hc (hx rfl)

/-! ### Less is known -/
theorem cw_env {c : Code} (E' : Env) (hE : Env.sub E' E) (h : CW P Q B w0 N G E' c) : CW P Q B w0 N G E c := fun a w ha hw => h a w (ha.sub hE) hw
theorem xw_env {x : Exit} (E' : Env) (hE : Env.sub E' E) (h : XW Q B w0 N G E' x) : XW Q B w0 N G E x := fun a w ha hw => h a w (ha.sub hE) hw
theorem cw_weak {c : Code} (G' : List Hp) (hG : List.Sublist G' G) (h : CW P Q B w0 N G' E c) : CW P Q B w0 N G E c := fun a w ha hw => h a w ha (hw.weak hG)
theorem xw_weak {x : Exit} (G' : List Hp) (hG : List.Sublist G' G) (h : XW Q B w0 N G' E x) : XW Q B w0 N G E x := fun a w ha hw => h a w ha (hw.weak hG)
theorem cw_perm {c : Code} (G' : List Hp) (hG : G.Perm G') (h : CW P Q B w0 N G' E c) : CW P Q B w0 N G E c := fun a w ha hw => h a w ha (hw.perm hG)
theorem xw_perm {x : Exit} (G' : List Hp) (hG : G.Perm G') (h : XW Q B w0 N G' E x) : XW Q B w0 N G E x := fun a w ha hw => h a w ha (hw.perm hG)
theorem ow_weak {rest : List Oper} (G' : List Hp) (hG : List.Sublist G' G) (h : OW P ops Q B w0 N G' E rest) : OW P ops Q B w0 N G E rest := fun a w ha hw => h a w ha (hw.weak hG)
theorem ow_perm {rest : List Oper} (G' : List Hp) (hG : G.Perm G') (h : OW P ops Q B w0 N G' E rest) : OW P ops Q B w0 N G E rest := fun a w ha hw => h a w ha (hw.perm hG)
/-- a chunk opened into two; two closed into one -/
theorem cw_cov {c : Code} (G' : List Hp) (hG : Cov G' G) (h : CW P Q B w0 N G' E c) : CW P Q B w0 N G E c := fun a w ha hw => h a w ha (hw.cov hG)
theorem ow_cov {rest : List Oper} (G' : List Hp) (hG : Cov G' G) (h : OW P ops Q B w0 N G' E rest) : OW P ops Q B w0 N G E rest := fun a w ha hw => h a w ha (hw.cov hG)
theorem xw_cov {x : Exit} (G' : List Hp) (hG : Cov G' G) (h : XW Q B w0 N G' E x) : XW Q B w0 N G E x := fun a w ha hw => h a w ha (hw.cov hG)
theorem cw_flat {c : Code} (G' : List Hp) (hG : G.flatten.Perm G'.flatten) (h : CW P Q B w0 N G' E c) : CW P Q B w0 N G E c := fun a w ha hw => h a w ha (hw.flat hG)
theorem ow_flat {rest : List Oper} (G' : List Hp) (hG : G.flatten.Perm G'.flatten) (h : OW P ops Q B w0 N G' E rest) : OW P ops Q B w0 N G E rest := fun a w ha hw => h a w ha (hw.flat hG)
theorem xw_flat {x : Exit} (G' : List Hp) (hG : G.flatten.Perm G'.flatten) (h : XW Q B w0 N G' E x) : XW Q B w0 N G E x := fun a w ha hw => h a w ha (hw.flat hG)

theorem cw_split {c : Code} {a b : Hp} {F : List Hp} (h : CW P Q B w0 N (a :: b :: F) E c) : CW P Q B w0 N ((a ++ b) :: F) E c := cw_flat (a :: b :: F) (.of_eq (by simp)) h

theorem cw_split3 {c : Code} {a b d : Hp} {F : List Hp} (h : CW P Q B w0 N (a :: b :: d :: F) E c) : CW P Q B w0 N ((a ++ (b ++ d)) :: F) E c := cw_flat (a :: b :: d :: F) (.of_eq (by simp)) h

/-! ### Ways that meet, and loops -/
def Joint {ι : Type} (I : ι → Prop) (Gi : ι → List Hp) (Ei : ι → Env) (N B : Nat) (w0 : World) (Q : Exit → Act → World → Prop) : Exit → Act → World → Prop
  | .normal, a, w => ∃ i, I i ∧ EnvOK N (Ei i) a ∧ St B w0 (Gi i) w
  | e, a, w => Q e a w

theorem xw_joint {ι : Type} {I : ι → Prop} {Gi : ι → List Hp} {Ei : ι → Env} (i : ι) (hI : I i) (hG : Cov (Gi i) G) (hE : Env.sub (Ei i) E) : XW (Joint I Gi Ei N B w0 Q) B w0 N G E .normal :=
  fun a w ha hw => ⟨i, hI, ha.sub hE, hw.cov hG⟩
theorem xw_joint_ret {ι : Type} {I : ι → Prop} {Gi : ι → List Hp} {Ei : ι → Env} (h : XW Q B w0 N G E .ret) : XW (Joint I Gi Ei N B w0 Q) B w0 N G E .ret := h
theorem xw_joint_exit {ι : Type} {I : ι → Prop} {Gi : ι → List Hp} {Ei : ι → Env} {j : Nat} (h : XW Q B w0 N G E (.exit j)) : XW (Joint I Gi Ei N B w0 Q) B w0 N G E (.exit j) := h

theorem cw_seq_cut {ι : Type} (I : ι → Prop) (Gi : ι → List Hp) (Ei : ι → Env) {x y : Code} (hx : CW P (Joint I Gi Ei N B w0 Q) B w0 N G E x) (hy : ∀ i, I i → CW P Q B w0 N (Gi i) (Ei i) y) : CW P Q B w0 N G E (.seq x y) :=
  fun a w ha hw => wp_seq (wp_mono (hx a w ha hw) fun e a' w' h => by
    cases e with
    | normal => obtain ⟨i, hI, h1, h2⟩ := h; exact hy i hI a' w' h1 h2
    | _ => exact h)

def Round {ι : Type} (I : ι → Prop) (μ : ι → Nat) (Gi : ι → List Hp) (Ei : ι → Env) (N B : Nat) (w0 : World) (n : Nat) (Q : Exit → Act → World → Prop) : Exit → Act → World → Prop
  | .normal, a, w => ∃ j, (I j ∧ μ j < n) ∧ EnvOK N (Ei j) a ∧ St B w0 (Gi j) w
  | e, a, w => Q e a w

theorem xw_round {ι : Type} {I : ι → Prop} {μ : ι → Nat} {Gi : ι → List Hp} {Ei : ι → Env} {n : Nat} (j : ι) (hI : I j) (hμ : μ j < n) (hG : Cov (Gi j) G) (hE : Env.sub (Ei j) E) : XW (Round I μ Gi Ei N B w0 n Q) B w0 N G E .normal :=
  fun _ _ ha hw => ⟨j, ⟨hI, hμ⟩, ha.sub hE, hw.cov hG⟩
theorem xw_round_ret {ι : Type} {I : ι → Prop} {μ : ι → Nat} {Gi : ι → List Hp} {Ei : ι → Env} {n : Nat} (h : XW Q B w0 N G E .ret) : XW (Round I μ Gi Ei N B w0 n Q) B w0 N G E .ret := h
theorem xw_round_exit {ι : Type} {I : ι → Prop} {μ : ι → Nat} {Gi : ι → List Hp} {Ei : ι → Env} {n j : Nat} (h : XW Q B w0 N G E (.exit j)) : XW (Round I μ Gi Ei N B w0 n Q) B w0 N G E (.exit j) := h

theorem cw_loop {ι : Type} (I : ι → Prop) (μ : ι → Nat) (Gi : ι → List Hp) (Ei : ι → Env) {c : Code} (i : ι) (hI : I i) (hG : Cov (Gi i) G) (hE : Env.le (Ei i) E)
    (h : ∀ i, I i → CW P (Round I μ Gi Ei N B w0 (μ i) Q) B w0 N (Gi i) (Ei i) c) : CW P Q B w0 N G E (.loop c) := by
  intro a w ha hw b k cs
  have key : ∀ n i a w, μ i = n → I i → EnvOK N (Ei i) a → St B w0 (Gi i) w →
      ∃ e a' w', Q e a' w' ∧ Arrives P (lone (b.at a (.code c :: .inLoop c :: k)) cs w) b k cs e a' w' := by
    intro n
    induction n using Nat.strongRecOn with
    | _ n ih =>
      intro i a w hn hIi hEi hGi
      obtain ⟨e, a₁, w₁, hq, harr⟩ := h i hIi a w hEi hGi b (.inLoop c :: k) cs
      cases e with
      | normal =>
        obtain ⟨j, ⟨hIj, hlt⟩, h1, h2⟩ := hq
        obtain ⟨e₂, a₂, w₂, hq₂, harr₂⟩ := ih (μ j) (hn ▸ hlt) j a₁ w₁ rfl hIj h1 h2
        exact ⟨e₂, a₂, w₂, hq₂, .of_steps (Steps.trans harr (.one step_inLoop)) harr₂⟩
      | exit id => exact ⟨_, a₁, w₁, hq, .pass (x := .inLoop c) rfl (fun _ _ => .inl (by simp)) harr⟩
      | goto l => exact ⟨_, a₁, w₁, hq, .pass (x := .inLoop c) rfl (fun _ _ => .inl (by simp)) harr⟩
      | ret => exact ⟨_, a₁, w₁, hq, .pass (x := .inLoop c) rfl (fun _ _ => .inl (by simp)) harr⟩
      | panic ch => exact ⟨_, a₁, w₁, hq, .pass (x := .inLoop c) rfl (fun _ _ => .inl (by simp)) harr⟩
      | outgrown => exact ⟨_, a₁, w₁, hq, .pass (x := .inLoop c) rfl (fun _ _ => .inl (by simp)) harr⟩
  obtain ⟨e, a', w', hq, harr⟩ := key _ i a w rfl hI (ha.le hE) (hw.cov hG)
  exact ⟨e, a', w', hq, .of_steps (.one step_loop) harr⟩

theorem Env.look_append (M K : Env) (t : Nat) : Env.look (M ++ K) t = (match Env.look M t with | some v => some v | none => Env.look K t) := by
  induction M with
  | nil => rfl
  | cons p r ih =>
    obtain ⟨d, u⟩ := p
    simp only [List.cons_append, Env.look]
    cases hb : Nat.beq d t with
    | true => rfl
    | false => exact ih
theorem EnvOK.app {M K : Env} {a : Act} (h1 : EnvOK N M a) (h2 : EnvOK N K a) : EnvOK N (M ++ K) a := ⟨h1.size, h1.defers, fun t v ht => by
  rw [Env.look_append] at ht
  cases hm : Env.look M t with
  | some u => rw [hm] at ht; simp at ht; subst ht; exact h1.val t u hm
  | none => rw [hm] at ht; exact h2.val t v ht⟩
/-- a loop that changes the slots 'M', and leaves 'K' as it is -/
theorem cw_loop2 {ι : Type} (K : Env) (hK : Env.sub K E) (M : ι → Env) (I : ι → Prop) (μ : ι → Nat) (Gi : ι → List Hp) {c : Code} (i : ι) (hM : Env.sub (M i) E) (hG : Cov (Gi i) G) (hI : I i)
    (h : ∀ i, I i → CW P (Round I μ Gi (fun i => M i ++ K) N B w0 (μ i) Q) B w0 N (Gi i) (M i ++ K) c) : CW P Q B w0 N G E (.loop c) := by
  have key := cw_loop (E := M i ++ K) I μ Gi (fun i => M i ++ K) i hI (Cov.refl _) (Env.le.refl _) h
  exact fun a w ha hw => key a w ((ha.sub hM).app (ha.sub hK)) (hw.cov hG)
theorem cw_cut2 {ι : Type} (K : Env) (hK : Env.sub K E) (M : ι → Env) (I : ι → Prop) (Gi : ι → List Hp) {x y : Code} (hx : CW P (Joint I Gi (fun i => M i ++ K) N B w0 Q) B w0 N G E x) (hy : ∀ i, I i → CW P Q B w0 N (Gi i) (M i ++ K) y) : CW P Q B w0 N G E (.seq x y) := cw_seq_cut I Gi (fun i => M i ++ K) hx hy

/-! ### Operations -/
def Env.guard (E : Env) (ops : Array Oper) : Option (Nat × Bool) → Option Bool
  | none => some true
  | some (j, want) => match (ops[j]?).bind (·.dst) with
    | some t => match Env.look E t with
      | some (.bool b) => some (b == want)
      | some _ => some false
      | none => none
    | none => none

theorem EnvOK.guard {a : Act} (ha : EnvOK N E a) {o : Oper} {r : Bool} (hg : Env.guard E ops o.guard = some r) : Region.wanted o (yielded ops a.tmps) = r := by
  unfold Region.wanted
  cases ho : o.guard with
  | none => rw [ho] at hg; simpa [Env.guard] using hg
  | some p =>
    obtain ⟨j, want⟩ := p
    rw [ho] at hg
    simp only [Env.guard] at hg
    cases hd : (ops[j]?).bind (·.dst) with
    | none => rw [hd] at hg; simp at hg
    | some t =>
      rw [hd] at hg
      simp only at hg
      cases hl : Env.look E t with
      | none => rw [hl] at hg; simp at hg
      | some v =>
        rw [hl] at hg
        have hv := ha.val t v hl
        cases v with
        | bool b =>
          simp only [Option.some.injEq] at hg
          simp only [yielded, hd, Option.bind_some, hv, ← hg]
          cases b <;> cases want <;> rfl
        | _ =>
          simp only [Option.some.injEq] at hg
          simp only [yielded, hd, Option.bind_some, hv, ← hg]
          cases want <;> rfl

/-- an operation reads alone, and yields v -/
def OpV (P : Program) (S : World → Prop) (N : Nat) (E : Env) (op : Op) (ty : TypeId) (v : Value) : Prop :=
  ∀ a w, EnvOK N E a → S w → Oper.quietUpon P S w v ((execOp a.eval ⟨none, op, ty, "", #[], none⟩).run P w)

theorem OpV.quietAt {S : World → Prop} {op : Op} {ty : TypeId} {v : Value} (h : OpV P S N E op ty v) {a : Act} (ha : EnvOK N E a) {d : Option Tmp} {pos : String} {af : Array Edge} {g : Option (Nat × Bool)} (w : World) (hw : S w) :
    Oper.quietAt P ⟨d, op, ty, pos, af, g⟩ a S w v := h a w ha hw

theorem ow_val {d : Nat} {op : Op} {ty : TypeId} {pos : String} {af : Array Edge} {g : Option (Nat × Bool)} {rest : List Oper} {v : Value} (hg : Env.guard E ops g = some true) (hd : Nat.blt d N = true)
    (hv : OpV P (St B w0 G) N E op ty v) (h : OW P ops Q B w0 N G ((d, v) :: E) rest) : OW P ops Q B w0 N G E (⟨some d, op, ty, pos, af, g⟩ :: rest) := fun a w ha hw => by
  unfold wpList
  rw [if_pos (ha.guard (o := ⟨some d, op, ty, pos, af, g⟩) hg)]
  exact .inl (Oper.wp_of_quiet (C := St B w0 G) (K := fun a' => EnvOK N ((d, v) :: E) a') hw (fun a' w' hw' ha' => h a' w' ha' hw') ⟨v, fun w' hw' => hv.quietAt ha w' hw', ha.put (by simpa using hd) v⟩)

theorem ow_val0 {op : Op} {ty : TypeId} {pos : String} {af : Array Edge} {g : Option (Nat × Bool)} {rest : List Oper} {v : Value} (hg : Env.guard E ops g = some true)
    (hv : OpV P (St B w0 G) N E op ty v) (h : OW P ops Q B w0 N G E rest) : OW P ops Q B w0 N G E (⟨none, op, ty, pos, af, g⟩ :: rest) := fun a w ha hw => by
  unfold wpList
  rw [if_pos (ha.guard (o := ⟨none, op, ty, pos, af, g⟩) hg)]
  exact .inl (Oper.wp_of_quiet (C := St B w0 G) (K := fun a' => EnvOK N E a') hw (fun a' w' hw' ha' => h a' w' ha' hw') ⟨v, fun w' hw' => hv.quietAt ha w' hw', ha⟩)

theorem ow_skip {d : Nat} {op : Op} {ty : TypeId} {pos : String} {af : Array Edge} {g : Option (Nat × Bool)} {rest : List Oper} (hg : Env.guard E ops g = some false) (hd : Nat.blt d N = true)
    (h : OW P ops Q B w0 N G ((d, undef) :: E) rest) : OW P ops Q B w0 N G E (⟨some d, op, ty, pos, af, g⟩ :: rest) := fun a w ha hw => by
  unfold wpList
  rw [if_neg (by rw [ha.guard (o := ⟨some d, op, ty, pos, af, g⟩) hg]; simp)]
  exact h _ w (ha.put (by simpa using hd) undef) hw

theorem ow_skip0 {op : Op} {ty : TypeId} {pos : String} {af : Array Edge} {g : Option (Nat × Bool)} {rest : List Oper} (hg : Env.guard E ops g = some false)
    (h : OW P ops Q B w0 N G E rest) : OW P ops Q B w0 N G E (⟨none, op, ty, pos, af, g⟩ :: rest) := fun a w ha hw => by
  unfold wpList
  rw [if_neg (by rw [ha.guard (o := ⟨none, op, ty, pos, af, g⟩) hg]; simp)]
  exact h _ w ha hw

theorem kw_val {d : Nat} {op : Op} {ty : TypeId} {pos : String} {af : Array Edge} {g : Option (Nat × Bool)} {rest : List Oper} {v : Value} (hg : Env.guard E ops g = some true) (hd : Nat.blt d N = true)
    (hv : OpV P (St B w0 G) N E op ty v) (h : KW P ops Q B w0 N G ((d, v) :: E) rest) : KW P ops Q B w0 N G E (⟨some d, op, ty, pos, af, g⟩ :: rest) := fun a ha => by
  unfold wpQuiet
  rw [if_pos (ha.guard (o := ⟨some d, op, ty, pos, af, g⟩) hg)]
  exact ⟨v, fun w' hw' => hv.quietAt ha w' hw', h _ (ha.put (by simpa using hd) v)⟩

theorem kw_skip {d : Nat} {op : Op} {ty : TypeId} {pos : String} {af : Array Edge} {g : Option (Nat × Bool)} {rest : List Oper} (hg : Env.guard E ops g = some false) (hd : Nat.blt d N = true)
    (h : KW P ops Q B w0 N G ((d, undef) :: E) rest) : KW P ops Q B w0 N G E (⟨some d, op, ty, pos, af, g⟩ :: rest) := fun a ha => by
  unfold wpQuiet
  rw [if_neg (by rw [ha.guard (o := ⟨some d, op, ty, pos, af, g⟩) hg]; simp)]
  exact h _ (ha.put (by simpa using hd) undef)

theorem ow_nil (h : XW Q B w0 N G E .normal) : OW P ops Q B w0 N G E [] := fun a w ha hw => wpList_nil (h a w ha hw)
theorem kw_nil (h : XW Q B w0 N G E .normal) : KW P ops Q B w0 N G E [] := fun a ha => wpQuiet_nil (fun w' hw' => h a w' ha hw')

theorem EnvOK.dup {a : Act} (h : EnvOK N E a) {t : Nat} {v : Value} (ht : Env.look E t = some v) : EnvOK N ((t, v) :: E) a := by
  refine ⟨h.size, h.defers, fun s u hs => ?_⟩
  simp only [Env.look] at hs
  by_cases hts : t = s
  · subst hts
    simp at hs
    subst hs
    exact h.val t v ht
  · rw [nbeq hts] at hs
    exact h.val s u hs

/-- a bool in a slot is decided -/
theorem ow_dec (t : Nat) {rest : List Oper} {p : Prop} [Decidable p] (ht : Env.look E t = some (.bool (decide p))) (hx : p → OW P ops Q B w0 N G ((t, .bool true) :: E) rest) (hy : ¬ p → OW P ops Q B w0 N G ((t, .bool false) :: E) rest) : OW P ops Q B w0 N G E rest := by
  intro a w ha hw
  by_cases hp : p
  · exact hx hp a w (ha.dup (by rw [ht, decide_eq_true hp])) hw
  · exact hy hp a w (ha.dup (by rw [ht, decide_eq_false hp])) hw
theorem ow_bool (t : Nat) {rest : List Oper} {b : Bool} (ht : Env.look E t = some (.bool b)) (hx : b = true → OW P ops Q B w0 N G ((t, .bool true) :: E) rest) (hy : b = false → OW P ops Q B w0 N G ((t, .bool false) :: E) rest) : OW P ops Q B w0 N G E rest := by
  intro a w ha hw
  cases b
  · exact hy rfl a w (ha.dup ht) hw
  · exact hx rfl a w (ha.dup ht) hw
theorem kw_dec (t : Nat) {rest : List Oper} {p : Prop} [Decidable p] (ht : Env.look E t = some (.bool (decide p))) (hx : p → KW P ops Q B w0 N G ((t, .bool true) :: E) rest) (hy : ¬ p → KW P ops Q B w0 N G ((t, .bool false) :: E) rest) : KW P ops Q B w0 N G E rest := by
  intro a ha
  by_cases hp : p
  · exact hx hp a (ha.dup (by rw [ht, decide_eq_true hp]))
  · exact hy hp a (ha.dup (by rw [ht, decide_eq_false hp]))
theorem kw_bool (t : Nat) {rest : List Oper} {b : Bool} (ht : Env.look E t = some (.bool b)) (hx : b = true → KW P ops Q B w0 N G ((t, .bool true) :: E) rest) (hy : b = false → KW P ops Q B w0 N G ((t, .bool false) :: E) rest) : KW P ops Q B w0 N G E rest := by
  intro a ha
  cases b
  · exact hy rfl a (ha.dup ht)
  · exact hx rfl a (ha.dup ht)

/-! ### Functions -/
structure Enters (P : Program) (f : FuncId) : Prop where
  run : ∀ args w, (callFunc f args).run P w = .ok (.enter f args) w

theorem Enters.of {f : FuncId} {fn : Func} {c : Code} (hf : P.funcs[f]? = some fn) (hb : fn.body = some c) (hn : (fn.name == "runtime.NumGoroutine") = false) : Enters P f :=
  ⟨fun args w => by
    have hn' : ¬ fn.name = "runtime.NumGoroutine" := by simpa using hn
    simp [callFunc, program, Sem.run_bind, Sem.run, hf, hn', hb]⟩

/-- called in a world of the class it returns v, in a world of the class of G' -/
structure Fn (P : Program) (f : FuncId) (args : Array Value) (B : Nat) (w0 : World) (G : List Hp) (R : Value → List Hp → Prop) : Prop where
  enters : Enters P f
  calls : ∀ w, St B w0 G w → Calls P f args w fun e w' => ∃ v G', e = .returned v ∧ R v G' ∧ St B w0 G' w'

theorem Fn.mono {f : FuncId} {args : Array Value} {R R' : Value → List Hp → Prop} (h : Fn P f args B w0 G R) (hr : ∀ v G', R v G' → R' v G') : Fn P f args B w0 G R' :=
  ⟨h.enters, fun w hw => (h.calls w hw).mono fun _ _ ⟨_, _, he, hR, hS⟩ => ⟨_, _, he, hr _ _ hR, hS⟩⟩

/-- the chunks that it uses, whatever others there are -/
def FnC (P : Program) (f : FuncId) (args : Array Value) (B : Nat) (w0 : World) (C : List Hp) (R : Value → List Hp → Prop) : Prop :=
  ∀ F, Fn P f args B w0 (C ++ F) fun v G' => ∃ C', R v C' ∧ Cov (C' ++ F) G'

theorem FnC.mono {f : FuncId} {args : Array Value} {C : List Hp} {R R' : Value → List Hp → Prop} (h : FnC P f args B w0 C R) (hr : ∀ v G', R v G' → R' v G') : FnC P f args B w0 C R' :=
  fun F => (h F).mono fun _ _ ⟨C', h1, h2⟩ => ⟨C', hr _ _ h1, h2⟩

def argEnv : List Value → Nat → Env
  | [], _ => []
  | v :: r, i => (i, v) :: argEnv r (i + 1)

theorem look_argEnv (l : List Value) : ∀ (i t : Nat) (v : Value), Env.look (argEnv l i) t = some v → i ≤ t ∧ l[t - i]? = some v := by
  induction l with
  | nil => intro i t v h; simp [argEnv, Env.look] at h
  | cons u r ih =>
    intro i t v h
    simp only [argEnv, Env.look] at h
    by_cases hit : i = t
    · subst hit
      simp at h
      subst h
      simp
    · rw [nbeq hit] at h
      obtain ⟨h1, h2⟩ := ih (i + 1) t v h
      refine ⟨by omega, ?_⟩
      rw [show t - i = (t - (i + 1)) + 1 by omega]
      simpa using h2

def RetQ (P : Program) (fn : Func) (B : Nat) (w0 : World) (R : Value → List Hp → Prop) : Exit → Act → World → Prop :=
  bodyPost P fn fun e w' => ∃ v G', e = .returned v ∧ R v G' ∧ St B w0 G' w'

theorem fn_enter {f : FuncId} {fn : Func} {c : Code} {args : Array Value} {R : Value → List Hp → Prop} (hf : P.funcs[f]? = some fn) (hb : fn.body = some c) (hn : (fn.name == "runtime.NumGoroutine") = false)
    (hN : fn.ntmps = N) (hargs : args.size ≤ N) (h : CW P (RetQ P fn B w0 R) B w0 N G (argEnv args.toList 0) c) : Fn P f args B w0 G R :=
  ⟨Enters.of hf hb hn, fun w hw => calls_of_wp hf hb (h _ w ⟨by simp [hN]; omega, rfl, fun t v ht => by
    obtain ⟨_, h2⟩ := look_argEnv _ _ _ _ ht
    simp only [Nat.sub_zero, Array.getElem?_toList] at h2
    have hlt : t < args.size := (Array.getElem?_eq_some_iff.1 h2).1
    rw [Array.getElem?_append_left hlt]
    exact h2⟩ hw)⟩

/-! ### Returns -/
/-- what a result variable holds -/
def ResV (P : Program) (S : World → Prop) (E : Env) : ResultVar → Value → Prop
  | .tmp t, v => Env.look E t = some v
  | .cell p T, v => ∃ a, Env.look E p = some (.pointer (some a)) ∧ Var P S T a v

theorem res_tmp {S : World → Prop} {t : Nat} {v : Value} (h : Env.look E t = some v) : ResV P S E (.tmp t) v := h
theorem res_cell {S : World → Prop} {p : Nat} {T : TypeId} {a : Addr} {v : Value} (h : Env.look E p = some (.pointer (some a))) (hv : Var P S T a v) : ResV P S E (.cell p T) v := ⟨a, h, hv⟩

theorem ResV.run {S : World → Prop} {r : ResultVar} {v : Value} (h : ResV P S E r v) {a : Act} (ha : EnvOK N E a) {w : World} (hw : S w) :
    (match r with | .tmp t => (pure (a.tmps.getD t undef) : Sem Value) | .cell p T => do loadVar T (← asAddr (a.tmps.getD p undef))).run P w = .ok v w := by
  cases r with
  | tmp t =>
    have := ha.val t v h
    simp [this]
  | cell p T =>
    obtain ⟨x, h1, h2⟩ := h
    have := ha.val p _ h1
    simp [this, asAddr, h2 w hw]

theorem ret0 {fn : Func} {R : Value → List Hp → Prop} (hr : fn.results = #[]) (h : R (.tuple #[]) G) : XW (RetQ P fn B w0 R) B w0 N G E .ret := fun a w ha hw =>
  ⟨ha.defers, .tuple #[], by simp [results, hr], _, _, rfl, h, hw⟩
theorem ret0n {fn : Func} {R : Value → List Hp → Prop} (hr : fn.results = #[]) (h : R (.tuple #[]) G) : XW (RetQ P fn B w0 R) B w0 N G E .normal := fun a w ha hw =>
  ⟨ha.defers, .tuple #[], by simp [results, hr], _, _, rfl, h, hw⟩
def resSem (tmps : Array Value) : ResultVar → Sem Value
  | .tmp t => pure (tmps.getD t undef)
  | .cell p T => do loadVar T (← asAddr (tmps.getD p undef))

theorem results_eq (fn : Func) (tmps : Array Value) (rs : List ResultVar) (h : fn.results = rs.toArray) : results fn tmps = (do
    let vs ← rs.toArray.mapM (resSem tmps)
    pure (if h : vs.size = 1 then vs[0] else .tuple vs)) := by
  unfold results
  rw [h]
  rfl

theorem ResV.run' {S : World → Prop} {r : ResultVar} {v : Value} (h : ResV P S E r v) {a : Act} (ha : EnvOK N E a) {w : World} (hw : S w) : (resSem a.tmps r).run P w = .ok v w := by
  have h1 := h.run ha hw
  cases r <;> exact h1

theorem ret1 {fn : Func} {R : Value → List Hp → Prop} {r : ResultVar} {v : Value} (hr : fn.results = #[r]) (hv : ResV P (St B w0 G) E r v) (h : R v G) : XW (RetQ P fn B w0 R) B w0 N G E .ret := fun a w ha hw => by
  refine ⟨ha.defers, v, ?_, _, _, rfl, h, hw⟩
  rw [results_eq fn _ [r] hr]
  simp [hv.run' ha hw, Sem.run_bind]
theorem ret2 {fn : Func} {R : Value → List Hp → Prop} {r s : ResultVar} {v u : Value} (hr : fn.results = #[r, s]) (hv : ResV P (St B w0 G) E r v) (hu : ResV P (St B w0 G) E s u) (h : R (.tuple #[v, u]) G) : XW (RetQ P fn B w0 R) B w0 N G E .ret := fun a w ha hw => by
  refine ⟨ha.defers, .tuple #[v, u], ?_, _, _, rfl, h, hw⟩
  rw [results_eq fn _ [r, s] hr]
  simp [hv.run' ha hw, hu.run' ha hw, Sem.run_bind]
theorem ret3 {fn : Func} {R : Value → List Hp → Prop} {r s t : ResultVar} {v u x : Value} (hr : fn.results = #[r, s, t]) (hv : ResV P (St B w0 G) E r v) (hu : ResV P (St B w0 G) E s u) (hx : ResV P (St B w0 G) E t x) (h : R (.tuple #[v, u, x]) G) : XW (RetQ P fn B w0 R) B w0 N G E .ret := fun a w ha hw => by
  refine ⟨ha.defers, .tuple #[v, u, x], ?_, _, _, rfl, h, hw⟩
  rw [results_eq fn _ [r, s, t] hr]
  simp [hv.run' ha hw, hu.run' ha hw, hx.run' ha hw, Sem.run_bind]

/-! ### Calls -/
def callOp (fop : Operand) (args : Array Operand) (tys : Array TypeId) : Op := .call { callee := .value fop, args := args, argTypes := tys }

def Env.evs (E : Env) : List Operand → Option (List Value)
  | [] => some []
  | x :: r => match Env.ev E x, Env.evs E r with
    | some v, some vs => some (v :: vs)
    | _, _ => none

theorem EnvOK.evs {a : Act} (ha : EnvOK N E a) : ∀ {l : List Operand} {vs : List Value}, Env.evs E l = some vs → l.map a.eval = vs
  | [], vs, h => by simpa [Env.evs] using h
  | x :: r, vs, h => by
    simp only [Env.evs] at h
    cases h1 : Env.ev E x with
    | none => rw [h1] at h; simp at h
    | some v =>
      cases h2 : Env.evs E r with
      | none => rw [h1, h2] at h; simp at h
      | some us =>
        rw [h1, h2] at h
        simp only [Option.some.injEq] at h
        subst h
        simp [ha.ev h1, ha.evs h2]

theorem run_call {a : Act} (ha : EnvOK N E a) {fop : Operand} {l : List Operand} {tys : Array TypeId} {ty : TypeId} {f : FuncId} {first cap : List Value} {vs : List Value} (hf : Env.ev E fop = some (.func (.func f) first.toArray cap.toArray))
    (hvs : Env.evs E l = some vs) (he : Enters P f) (w : World) : (execOp a.eval ⟨none, .call { callee := .value fop, args := l.toArray, argTypes := tys }, ty, "", #[], none⟩).run P w = .ok (.enter f (first ++ vs ++ cap).toArray) w := by
  have h1 := ha.ev hf
  have h2 := ha.evs hvs
  simp only [execOp, resolve, Sem.run_bind, h1, Deferred.ofValue]
  simp only [Sem.run_pure, Result.andThen_ok, invoke]
  have h3 : (Array.map a.eval l.toArray) = vs.toArray := by simp [h2]
  rw [h3]
  simpa using he.run (first.toArray ++ vs.toArray ++ cap.toArray) w

/-- a call that reads alone -/
theorem v_call {fop : Operand} {l : List Operand} {tys : Array TypeId} {ty : TypeId} {f : FuncId} {first cap : List Value} {vs : List Value} {v : Value} (hf : Env.ev E fop = some (.func (.func f) first.toArray cap.toArray))
    (hvs : Env.evs E l = some vs) (hc : Fn P f (first ++ vs ++ cap).toArray B w0 G fun u G' => u = v ∧ G' = G) : OpV P (St B w0 G) N E (.call { callee := .value fop, args := l.toArray, argTypes := tys }) ty v := fun a w ha hw => by
  rw [run_call ha hf hvs hc.enters w]
  refine ⟨rfl, (hc.calls w hw).mono ?_⟩
  rintro _ w' ⟨u, G', rfl, ⟨rfl, rfl⟩, hS⟩
  exact ⟨rfl, hS⟩

theorem ow_call {d : Nat} {fop : Operand} {l : List Operand} {tys : Array TypeId} {ty : TypeId} {pos : String} {af : Array Edge} {g : Option (Nat × Bool)} {rest : List Oper} {f : FuncId} {first cap : List Value} {vs : List Value} {R : Value → List Hp → Prop}
    (hg : Env.guard E ops g = some true) (hd : Nat.blt d N = true) (hf : Env.ev E fop = some (.func (.func f) first.toArray cap.toArray)) (hvs : Env.evs E l = some vs)
    (hc : Fn P f (first ++ vs ++ cap).toArray B w0 G R) (h : ∀ v G', R v G' → OW P ops Q B w0 N G' ((d, v) :: E) rest) :
    OW P ops Q B w0 N G E (⟨some d, .call { callee := .value fop, args := l.toArray, argTypes := tys }, ty, pos, af, g⟩ :: rest) := fun a w ha hw => by
  unfold wpList
  rw [if_pos (ha.guard (o := ⟨some d, .call { callee := .value fop, args := l.toArray, argTypes := tys }, ty, pos, af, g⟩) hg)]
  refine .inl ?_
  unfold Oper.wp
  have hr := run_call (tys := tys) (ty := ty) ha hf hvs hc.enters w
  have hr' : (execOp a.eval ⟨some d, .call { callee := .value fop, args := l.toArray, argTypes := tys }, ty, pos, af, g⟩).run P w = .ok (.enter f (first ++ vs ++ cap).toArray) w := hr
  rw [hr', Oper.upon_enter]
  refine (hc.calls w hw).mono ?_
  rintro _ w' ⟨v, G', rfl, hR, hS⟩
  exact h v G' hR _ w' (ha.put (by simpa using hd) v) hS

/-- by the chunks that the callee uses: none, one -/
theorem Fn.weak {f : FuncId} {args : Array Value} {R R' : Value → List Hp → Prop} (h : Fn P f args B w0 G R) (hr : ∀ v G', R v G' → ∃ G'', R' v G'' ∧ ∀ w, St B w0 G' w → St B w0 G'' w) : Fn P f args B w0 G R' :=
  ⟨h.enters, fun w hw => (h.calls w hw).mono fun _ _ ⟨v, G', he, hR, hS⟩ => let ⟨G'', h1, h2⟩ := hr v G' hR; ⟨v, G'', he, h1, h2 _ hS⟩⟩
theorem Fn.c0 {f : FuncId} {args : Array Value} {R : Value → List Hp → Prop} (h : FnC P f args B w0 [] R) : Fn P f args B w0 G fun v G' => ∃ C', R v C' ∧ G' = C' ++ G :=
  (h G).weak fun _ _ ⟨C', h1, h2⟩ => ⟨C' ++ G, ⟨C', h1, rfl⟩, fun _ hw => hw.cov h2⟩
theorem Fn.pre {f : FuncId} {args : Array Value} {G' : List Hp} {R : Value → List Hp → Prop} (hp : G.Perm G') (h : Fn P f args B w0 G' R) : Fn P f args B w0 G R :=
  ⟨h.enters, fun w hw => h.calls w (hw.perm hp)⟩
theorem Fn.c1 {f : FuncId} {args : Array Value} {c : Hp} {S : Hp → List Hp} {R : Value → Hp → Prop} (hs : Sel G c S) (h : FnC P f args B w0 [c] fun v C' => ∃ c', R v c' ∧ C' = [c']) : Fn P f args B w0 G fun v G' => ∃ c', R v c' ∧ G' = S c' := by
  obtain ⟨F, h1, h2⟩ := hs.perm
  refine Fn.pre h1 ((h F).weak ?_)
  rintro v G' ⟨_, ⟨c', hR, rfl⟩, hS⟩
  exact ⟨S c', ⟨c', hR, rfl⟩, fun w hw => (hw.cov hS).perm (h2 c').symm⟩
/-- with new chunks besides -/
theorem Fn.c1n {f : FuncId} {args : Array Value} {c : Hp} {S : Hp → List Hp} {R : Value → Hp → List Hp → Prop} (hs : Sel G c S) (h : FnC P f args B w0 [c] fun v C' => ∃ c' n, R v c' n ∧ C' = c' :: n) : Fn P f args B w0 G fun v G' => ∃ c' n, R v c' n ∧ G' = n ++ S c' := by
  obtain ⟨F, h1, h2⟩ := hs.perm
  refine Fn.pre h1 ((h F).weak ?_)
  rintro v G' ⟨_, ⟨c', n, hR, rfl⟩, hS⟩
  refine ⟨n ++ S c', ⟨c', n, hR, rfl⟩, fun w hw => (hw.cov hS).perm ?_⟩
  have h4 : (c' :: n ++ F).Perm (n ++ (c' :: F)) := by simpa using (List.perm_middle (a := c') (l₁ := n) (l₂ := F)).symm
  exact h4.trans (List.Perm.append_left n (h2 c').symm)
/-- a value, and the chunk as another one -/
def R1 (v : Value) (c : Hp) : Value → List Hp → Prop := fun u C' => ∃ c', (u = v ∧ c' = c) ∧ C' = [c']
/-- a value, and nothing else -/
def R0 (v : Value) : Value → List Hp → Prop := fun u C' => u = v ∧ C' = []
theorem Fn.c1q {f : FuncId} {args : Array Value} {c c' : Hp} {v : Value} {S : Hp → List Hp} (hs : Sel G c S) (h : FnC P f args B w0 [c] (R1 v c')) : Fn P f args B w0 G fun u G' => u = v ∧ G' = S c' :=
  (Fn.c1 (R := fun u x => u = v ∧ x = c') hs h).mono fun _ _ ⟨_, ⟨h1, h2⟩, h3⟩ => ⟨h1, by rw [h3, h2]⟩
/-- it reads the chunk alone -/
theorem Fn.c1r {f : FuncId} {args : Array Value} {c : Hp} {v : Value} {S : Hp → List Hp} (hs : Sel G c S) (h : FnC P f args B w0 [c] (R1 v c)) : Fn P f args B w0 G fun u G' => u = v ∧ G' = G :=
  (Fn.c1q hs h).mono fun _ _ ⟨h1, h2⟩ => ⟨h1, by rw [h2, hs.eq]⟩
theorem Fn.c0r {f : FuncId} {args : Array Value} {v : Value} (h : FnC P f args B w0 [] (R0 v)) : Fn P f args B w0 G fun u G' => u = v ∧ G' = G :=
  (Fn.c0 h).mono fun _ _ ⟨_, ⟨h1, h2⟩, h3⟩ => ⟨h1, by rw [h3, h2]; rfl⟩
theorem done1 {v u : Value} {c : Hp} {F : List Hp} (hv : u = v) (hs : Cov (c :: F) G) : ∃ C', R1 v c u C' ∧ Cov (C' ++ F) G := ⟨[c], ⟨c, ⟨hv, rfl⟩, rfl⟩, hs⟩
theorem done0 {v u : Value} {F : List Hp} (hv : u = v) (hs : Cov F G) : ∃ C', R0 v u C' ∧ Cov (C' ++ F) G := ⟨[], ⟨hv, rfl⟩, hs⟩

end Go.Sl
