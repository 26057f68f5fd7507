/- A region that draws its order, whose operations all only make new things: each says what its value is in its inputs' values; all orders at once. Conditions: each waits for its inputs, and for earlier ones only. -/
import Derived.Test.YtckdhelnafjddaaStep
namespace Go.Sl
set_option linter.unusedVariables false
set_option linter.unusedSimpArgs false
open Go.RowKit Go
variable {P : Program} {ops : Array Oper} {md : Region.Mode} {Q : Exit → Act → World → Prop} {B : Nat} {w0 : World} {N : Nat}

def frE (d : Nat → Nat) (ρ : Nat → Value) (L : List Nat) (E0 : Env) : Env := L.map (fun i => (d i, ρ (d i))) ++ E0
theorem look_frE {d : Nat → Nat} {ρ : Nat → Value} {E0 : Env} {t : Nat} : ∀ {L : List Nat}, (∃ i ∈ L, d i = t) → Env.look (frE d ρ L E0) t = some (ρ t)
  | [], h => by obtain ⟨i, hi, _⟩ := h; cases hi
  | j :: L, h => by
    show (bif Nat.beq (d j) t then some (ρ (d j)) else Env.look (frE d ρ L E0) t) = some (ρ t)
    by_cases hj : d j = t
    · subst hj
      simp
    · rw [nbeq hj]
      obtain ⟨i, hi, hd⟩ := h
      rcases List.mem_cons.1 hi with rfl | hi
      · exact absurd hd hj
      · exact look_frE ⟨i, hi, hd⟩
theorem look_frE_not {d : Nat → Nat} {ρ : Nat → Value} {E0 : Env} {t : Nat} : ∀ {L : List Nat}, (∀ i ∈ L, d i ≠ t) → Env.look (frE d ρ L E0) t = Env.look E0 t
  | [], h => rfl
  | j :: L, h => by
    show (bif Nat.beq (d j) t then some (ρ (d j)) else Env.look (frE d ρ L E0) t) = _
    rw [nbeq (h j (List.mem_cons_self ..))]
    exact look_frE_not fun i hi => h i (List.mem_cons_of_mem _ hi)
theorem look_app {E F : Env} {t : Nat} : Env.look (E ++ F) t = match Env.look E t with | some v => some v | none => Env.look F t := by
  induction E with
  | nil => rfl
  | cons p E ih =>
    obtain ⟨d, v⟩ := p
    show (bif Nat.beq d t then some v else Env.look (E ++ F) t) = match (bif Nat.beq d t then some v else Env.look E t) with | some v => some v | none => Env.look F t
    cases Nat.beq d t with
    | true => rfl
    | false => exact ih
/-- what must follow from what an operation yields -/
def FK (B : Nat) (w0 : World) (N : Nat) (spec : Value → List Hp → Prop) (di : Nat) (E : Env) (G : List Hp) (K : Act → World → Prop) : Prop := ∀ v c, spec v c → ∀ a w, EnvOK N ((di, v) :: E) a → St B w0 (c ++ G) w → K a w
theorem free_done {spec : Value → List Hp → Prop} {di : Nat} {E E' : Env} {G G' : List Hp} {K : Act → World → Prop} (hK : FK B w0 N spec di E G K) (v : Value) (c : List Hp) (hs : spec v c) (hE : E' = (di, v) :: E) (hG : Cov (c ++ G) G') : XW (Nx K Q) B w0 N G' E' .normal := fun a w ha hw => by
  subst hE
  exact hK v c hs a w ha (hw.cov hG)
/-- each waits for its inputs -/
def depOK (md : Region.Mode) (ops : Array Oper) (dep : Nat → List Nat) : Bool := (List.range ops.size).all fun i => match ops[i]? with
  | some o => (dep i).all fun m => o.after.any fun e => Region.binds md e && e.on == m
  | none => false
/-- .. and for earlier ones only -/
def backOK (md : Region.Mode) (ops : Array Oper) : Bool := (List.range ops.size).all fun i => match ops[i]? with
  | some o => o.after.all fun e => !Region.binds md e || decide (e.on < i)
  | none => false
theorem depOK_spec {dep : Nat → List Nat} (h : depOK md ops dep = true) {i : Nat} {o : Oper} (ho : ops[i]? = some o) {m : Nat} (hm : m ∈ dep i) : ∃ e ∈ o.after, Region.binds md e = true ∧ e.on = m := by
  have h1 := (List.all_eq_true.1 h) i (List.mem_range.2 (Array.getElem?_eq_some_iff.1 ho).1)
  rw [ho] at h1
  have h2 := (List.all_eq_true.1 h1) m hm
  obtain ⟨e, he, h3⟩ := Array.any_eq_true'.1 h2
  simp only [Bool.and_eq_true, beq_iff_eq] at h3
  exact ⟨e, he, h3.1, h3.2⟩
theorem backOK_spec (h : backOK md ops = true) {i : Nat} {o : Oper} (ho : ops[i]? = some o) {e : Edge} (he : e ∈ o.after) (hb : Region.binds md e = true) : e.on < i := by
  have h1 := (List.all_eq_true.1 h) i (List.mem_range.2 (Array.getElem?_eq_some_iff.1 ho).1)
  rw [ho] at h1
  have h2 := (Array.all_eq_true'.1 h1) e he
  rw [hb] at h2
  simpa using h2
theorem getD_set {l : Array Bool} {i j : Nat} {b : Bool} (hi : i < l.size) : (l.setIfInBounds i true).getD j b = if j = i then true else l.getD j b := by
  rw [Array.getD_eq_getD_getElem?, Array.getD_eq_getD_getElem?, Array.getElem?_setIfInBounds]
  by_cases hj : i = j
  · subst hj
    simp [hi]
  · rw [if_neg hj, if_neg (fun h => hj h.symm)]
theorem getD_any {l : Array Bool} {i : Nat} {b c : Bool} (hi : i < l.size) : l.getD i b = l.getD i c := by
  rw [Array.getD_eq_getD_getElem?, Array.getD_eq_getD_getElem?, Array.getElem?_eq_getElem hi]
  rfl
theorem cnt_set {p : Nat → Bool} {i : Nat} (hp : p i = true) : ∀ {n : Nat}, i < n → (List.range n).countP p = (List.range n).countP (fun j => p j && !(j == i)) + 1
  | 0, h => absurd h (Nat.not_lt_zero _)
  | n + 1, h => by
    rw [List.range_succ, List.countP_append, List.countP_append]
    by_cases hin : i = n
    · subst hin
      have h1 : (List.range i).countP (fun j => p j && !(j == i)) = (List.range i).countP p := by
        refine List.countP_congr fun j hj => ?_
        have hj2 := List.mem_range.1 hj
        have hne : (j == i) = false := by simp; omega
        simp [hne]
      rw [h1]
      simp [List.countP_cons, hp]
    · have h1 := cnt_set hp (n := n) (by omega)
      rw [h1]
      have hne : (n == i) = false := by simp; omega
      have h2 : [n].countP (fun j => p j && !(j == i)) = [n].countP p := by simp [List.countP_cons, hne]
      rw [h2]
      omega
theorem ready_nil (hb : backOK md ops = true) {listed : Array Bool} (hs : listed.size = ops.size) (h : Region.ready md ops listed = []) : ∀ i, i < ops.size → listed.getD i true = true := by
  intro i
  induction i using Nat.strongRecOn with
  | _ i ih =>
    intro hi
    cases hl : listed.getD i true with
    | true => rfl
    | false =>
      have hm : i ∈ Region.ready md ops listed := mem_ready.2 ⟨hl, ops[i], Array.getElem?_eq_getElem hi, fun e he hbd => by
        have h1 := backOK_spec hb (Array.getElem?_eq_getElem hi) he hbd
        rw [getD_any (c := true) (by omega)]
        exact ih e.on h1 (by omega)⟩
      rw [h] at hm
      cases hm
structure FrInv (ops : Array Oper) (dep : Nat → List Nat) (spec : Nat → (Nat → Value) → Value → List Hp → Prop) (d : Nat → Nat) (listed : Array Bool) (L : List Nat) (ρ : Nat → Value) (χ : Nat → List Hp) : Prop where
  size : listed.size = ops.size
  lt : ∀ i ∈ L, i < ops.size
  iff : ∀ i, i < ops.size → (listed.getD i true = true ↔ i ∈ L)
  dep : ∀ i ∈ L, ∀ m ∈ dep i, m ∈ L
  spec : ∀ i ∈ L, spec i ρ (ρ (d i)) (χ i)
theorem flat_mem {χ : Nat → List Hp} : ∀ {L : List Nat} {i : Nat}, i ∈ L → ∀ c ∈ χ i, c ∈ L.flatMap χ := fun {L i} hi c hc => List.mem_flatMap.2 ⟨i, hi, hc⟩
theorem aw_free {d : Nat → Nat} {dep : Nat → List Nat} {spec : Nat → (Nat → Value) → Value → List Hp → Prop} {E0 : Env} {G0 : List Hp} {K : List Nat}
    (hdep : depOK md ops dep = true) (hback : backOK md ops = true) (hinj : ∀ i, i < ops.size → ∀ j, j < ops.size → d i = d j → i = j)
    (hE0 : ∀ i, i < ops.size → Env.look E0 (d i) = none)
    (hloc : ∀ i, i < ops.size → ∀ (ρ ρ' : Nat → Value) (v : Value) (c : List Hp), (∀ m ∈ dep i, ρ (d m) = ρ' (d m)) → spec i ρ v c → spec i ρ' v c)
    (hrun : ∀ i, i < ops.size → ∀ (ρ : Nat → Value) (χ : Nat → List Hp) (X : List Hp) (Y : Env) (K' : Act → World → Prop), (∀ m ∈ dep i, spec m ρ (ρ (d m)) (χ m)) → FK B w0 N (spec i ρ) (d i) ((dep i).map (fun m => (d m, ρ (d m))) ++ (E0 ++ Y)) (G0 ++ X) K' →
      ∃ o, ops[i]? = some o ∧ OW P ops (Nx K' Q) B w0 N (G0 ++ X) ((dep i).map (fun m => (d m, ρ (d m))) ++ (E0 ++ Y)) [o])
    (hend : ∀ (ρ : Nat → Value) (χ : Nat → List Hp) (L : List Nat), (∀ i, i < ops.size → i ∈ L) → (∀ i, i < ops.size → spec i ρ (ρ (d i)) (χ i)) → XW Q B w0 N (L.flatMap χ ++ G0) (frE d ρ K E0) .normal) (hK : ∀ i ∈ K, i < ops.size) :
    AW P md ops Q B w0 N G0 E0 ops.size (Array.replicate ops.size false) := by
  have main : ∀ fuel L listed ρ χ a w, FrInv ops dep spec d listed L ρ χ → (List.range ops.size).countP (fun j => !listed.getD j true) = fuel → EnvOK N (frE d ρ L E0) a → St B w0 (L.flatMap χ ++ G0) w → wpAny P md ops Q fuel listed a w := by
    intro fuel
    have fin : ∀ L listed ρ χ a w, FrInv ops dep spec d listed L ρ χ → (∀ i, i < ops.size → listed.getD i true = true) → EnvOK N (frE d ρ L E0) a → St B w0 (L.flatMap χ ++ G0) w → Q .normal a w := by
      intro L listed ρ χ a w hI hall ha hw
      have hL : ∀ i, i < ops.size → i ∈ L := fun i hi => (hI.iff i hi).1 (hall i hi)
      refine hend ρ χ L hL (fun i hi => hI.spec i (hL i hi)) a w (ha.le fun t v ht => ?_) hw
      by_cases h1 : ∃ i ∈ K, d i = t
      · rw [look_frE h1] at ht
        obtain ⟨i, hi, hd⟩ := h1
        rw [look_frE ⟨i, hL i (hK i hi), hd⟩]
        exact ht
      · rw [look_frE_not (fun i hi hd => h1 ⟨i, hi, hd⟩)] at ht
        rw [look_frE_not fun i hi hd => ?_]
        · exact ht
        · rw [← hd, hE0 i (hI.lt i hi)] at ht
          cases ht
    induction fuel with
    | zero =>
      intro L listed ρ χ a w hI hc ha hw
      have hall : ∀ i, i < ops.size → listed.getD i true = true := fun i hi => by
        have h1 := (List.countP_eq_zero.1 hc) i (List.mem_range.2 hi)
        simpa using h1
      refine ⟨?_, fin L listed ρ χ a w hI hall ha hw⟩
      cases hr : Region.ready md ops listed with
      | nil => rfl
      | cons x l =>
        have hx : x ∈ Region.ready md ops listed := by rw [hr]; exact List.mem_cons_self ..
        obtain ⟨h1, o, ho, _⟩ := mem_ready.1 hx
        rw [hall x (Array.getElem?_eq_some_iff.1 ho).1] at h1
        cases h1
    | succ fuel ih =>
      intro L listed ρ χ a w hI hc ha hw
      refine ⟨fun hr => fin L listed ρ χ a w hI (ready_nil hback hI.size hr) ha hw, fun i hi => ?_⟩
      obtain ⟨h1, o, ho, h2⟩ := mem_ready.1 hi
      have hi2 : i < ops.size := (Array.getElem?_eq_some_iff.1 ho).1
      have hnL : i ∉ L := fun h => by rw [(hI.iff i hi2).2 h] at h1; cases h1
      have hdL : ∀ m ∈ dep i, m ∈ L := fun m hm => by
        obtain ⟨e, he, hb, hon⟩ := depOK_spec hdep ho hm
        have h3 := h2 e he hb
        rw [hon] at h3
        have hm2 : m < ops.size := by have := backOK_spec hback ho he hb; omega
        rw [getD_any (c := true) (by rw [hI.size]; exact hm2)] at h3
        exact (hI.iff m hm2).1 h3
      have hne : ∀ j ∈ L, d j ≠ d i := fun j hj hd => hnL (hinj j (hI.lt j hj) i hi2 hd ▸ hj)
      have hle : Env.le ((dep i).map (fun m => (d m, ρ (d m))) ++ (E0 ++ frE d ρ L E0)) (frE d ρ L E0) := fun t v ht => by
        rw [look_app] at ht
        by_cases h3 : ∃ j ∈ dep i, d j = t
        · have h4 := look_frE (d := d) (ρ := ρ) (E0 := []) h3
          unfold frE at h4
          rw [List.append_nil] at h4
          rw [h4] at ht
          obtain ⟨j, hj, hd⟩ := h3
          rw [look_frE ⟨j, hdL j hj, hd⟩]
          exact ht
        · have h4 := look_frE_not (d := d) (ρ := ρ) (E0 := []) (L := dep i) (fun j hj hd => h3 ⟨j, hj, hd⟩)
          unfold frE at h4
          rw [List.append_nil] at h4
          rw [h4] at ht
          simp only [Env.look] at ht
          rw [look_app] at ht
          cases h5 : Env.look E0 t with
          | none => rw [h5] at ht; exact ht
          | some u =>
            rw [h5] at ht
            simp only at ht
            rw [look_frE_not (fun j hj hd => (by rw [← hd, hE0 j (hI.lt j hj)] at h5; cases h5)), h5]
            exact ht
      have hw2 : St B w0 (G0 ++ L.flatMap χ) w := hw.cov (Cov.of_perm List.perm_append_comm)
      obtain ⟨o', ho', hr⟩ := hrun i hi2 ρ χ (L.flatMap χ) (frE d ρ L E0) (wpAny P md ops Q fuel (listed.setIfInBounds i true)) (fun m hm => hI.spec m (hdL m hm)) (fun v c hs a' w' ha' hw' => by
        have hcc : Cov (c ++ (L.flatMap χ ++ G0)) (c ++ (G0 ++ L.flatMap χ)) := Cov.of_perm (List.Perm.append_left _ List.perm_append_comm)
        have hρ : ∀ j ∈ L, (fun t => if t = d i then v else ρ t) (d j) = ρ (d j) := fun j hj => if_neg (hne j hj)
        have hχ : ∀ j ∈ L, (fun j => if j = i then c else χ j) j = χ j := fun j hj => if_neg (fun (h : j = i) => hnL (h ▸ hj))
        have hfl : ∀ M : List Nat, (∀ j ∈ M, j ∈ L) → M.flatMap (fun j => if j = i then c else χ j) = M.flatMap χ := fun M hM => by
          induction M with
          | nil => rfl
          | cons x M ihM =>
            rw [List.flatMap_cons, List.flatMap_cons, ihM fun j hj => hM j (List.mem_cons_of_mem _ hj)]
            have h8 := hχ x (hM x (List.mem_cons_self ..))
            simp only at h8
            rw [h8]
        refine ih (i :: L) _ (fun t => if t = d i then v else ρ t) (fun j => if j = i then c else χ j) a' w' ⟨by rw [Array.size_setIfInBounds]; exact hI.size, fun j hj => ?_, fun j hj => ?_, fun j hj m hm => ?_, fun j hj => ?_⟩ ?_ (ha'.le fun t u ht => ?_) ?_
        · rcases List.mem_cons.1 hj with rfl | hj
          · exact hi2
          · exact hI.lt j hj
        · rw [getD_set (by rw [hI.size]; exact hi2)]
          by_cases hji : j = i
          · rw [if_pos hji]
            exact ⟨fun _ => by rw [hji]; exact List.mem_cons_self .., fun _ => rfl⟩
          · rw [if_neg hji, hI.iff j hj]
            exact ⟨fun h => List.mem_cons_of_mem _ h, fun h => (List.mem_cons.1 h).resolve_left hji⟩
        · rcases List.mem_cons.1 hj with rfl | hj
          · exact List.mem_cons_of_mem _ (hdL m hm)
          · exact List.mem_cons_of_mem _ (hI.dep j hj m hm)
        · rcases List.mem_cons.1 hj with rfl | hj
          · show spec j _ (if d j = d j then v else ρ (d j)) (if j = j then c else χ j)
            rw [if_pos rfl, if_pos rfl]
            exact hloc j hi2 _ _ v c (fun m hm => (hρ m (hdL m hm)).symm) hs
          · have h8 := hρ j hj
            have h9 := hχ j hj
            simp only at h8 h9
            rw [h8, h9]
            exact hloc j (hI.lt j hj) _ _ _ _ (fun m hm => (hρ m (hI.dep j hj m hm)).symm) (hI.spec j hj)
        · have h3 := cnt_set (p := fun j => !listed.getD j true) (i := i) (by simp [h1]) hi2
          rw [hc] at h3
          have h4 : (List.range ops.size).countP (fun j => !(listed.setIfInBounds i true).getD j true) = (List.range ops.size).countP (fun j => (!listed.getD j true) && !(j == i)) := by
            refine List.countP_congr fun j hj => ?_
            rw [getD_set (by rw [hI.size]; exact hi2)]
            by_cases hji : j = i
            · simp [hji]
            · simp [hji]
          rw [h4]
          omega
        · by_cases htd : d i = t
          · subst htd
            rw [look_frE ⟨i, List.mem_cons_self .., rfl⟩] at ht
            simp only [if_true] at ht
            simp only [Env.look, Nat.beq_refl, cond_true]
            exact ht
          · have h3 : Env.look (frE d (fun t => if t = d i then v else ρ t) (i :: L) E0) t = Env.look (frE d ρ L E0) t := by
              by_cases h4 : ∃ j ∈ L, d j = t
              · rw [look_frE h4, look_frE (by obtain ⟨j, hj, hd⟩ := h4; exact ⟨j, List.mem_cons_of_mem _ hj, hd⟩)]
                obtain ⟨j, hj, hd⟩ := h4
                rw [← hd]
                exact congrArg some (hρ j hj)
              · rw [look_frE_not (fun j hj hd => h4 ⟨j, hj, hd⟩), look_frE_not fun j hj hd => ?_]
                rcases List.mem_cons.1 hj with rfl | hj
                · exact htd hd
                · exact h4 ⟨j, hj, hd⟩
            rw [h3] at ht
            simp only [Env.look, nbeq htd, cond_false]
            rw [look_app]
            by_cases h4 : ∃ j ∈ dep i, d j = t
            · have h5 := look_frE (d := d) (ρ := ρ) (E0 := []) h4
              unfold frE at h5
              rw [List.append_nil] at h5
              rw [h5]
              obtain ⟨j, hj, hd⟩ := h4
              rw [look_frE ⟨j, hdL j hj, hd⟩] at ht
              exact ht
            · have h5 := look_frE_not (d := d) (ρ := ρ) (E0 := []) (L := dep i) (fun j hj hd => h4 ⟨j, hj, hd⟩)
              unfold frE at h5
              rw [List.append_nil] at h5
              rw [h5]
              simp only [Env.look]
              rw [look_app]
              cases h6 : Env.look E0 t with
              | none => exact ht
              | some u' =>
                rw [look_frE_not (fun j hj hd => (by rw [← hd, hE0 j (hI.lt j hj)] at h6; cases h6)), h6] at ht
                exact ht
        · rw [List.flatMap_cons, if_pos rfl, hfl L (fun _ h => h), List.append_assoc]
          exact hw'.cov hcc)
      rw [ho] at ho'
      injection ho' with ho'
      subst ho'
      exact wpOp_of_list ho (hr a w (ha.le hle) hw2)
  intro a w ha hw
  refine main ops.size [] _ (fun _ => .bool false) (fun _ => []) a w ⟨Array.size_replicate .., fun i hi => by (cases hi), fun i hi => ?_, fun i hi => by (cases hi), fun i hi => by (cases hi)⟩ ?_ ha hw
  · rw [Array.getD_eq_getD_getElem?, Array.getElem?_replicate, if_pos hi]
    simp
  · rw [List.countP_eq_length.2 fun i hi => ?_, List.length_range]
    rw [Array.getD_eq_getD_getElem?, Array.getElem?_replicate, if_pos (List.mem_range.1 hi)]
    rfl
end Go.Sl
