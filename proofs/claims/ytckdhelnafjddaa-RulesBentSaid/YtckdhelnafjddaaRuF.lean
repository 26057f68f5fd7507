/- What the drawn regions of RulesBent yield, operation by operation, and what follows of it. Conditions: none. -/
import Derived.Test.YtckdhelnafjddaaRuL
namespace Go.Proofs.Ytckdhelnafjddaa
open Go Go.Sl Go.Proofs Go.RowKit
set_option maxRecDepth 20000
set_option linter.unusedVariables false
set_option linter.unusedSimpArgs false

def evV (m : EvM) (ao : Option Addr) : Value := .agg (m.cells ⟨ao, m.n.length, none, 0⟩).toArray
def EvM.one (m : EvM) (ao : Option Addr) : EvE := ⟨m, ⟨ao, m.n.length, none, 0⟩⟩
structure Bt where
  ao : Option Addr
  n : Nat
  why : Int
def enBt : Enc Bt := ⟨fun b => [.slice b.ao b.n b.n, .int .u8 b.why], 2, fun b => .agg [Value.slice b.ao b.n b.n, .int .u8 b.why].toArray, fun b => True⟩
theorem btTy : EncTy Try.prog 91 enBt := EncTy.agg Ty.ag91 (by decide) (fun _ => rfl) (fun _ _ => rfl) (fun a _ u hu => by
  simp only [enBt, List.mem_cons, List.not_mem_nil, or_false] at hu
  rcases hu with rfl | rfl <;> rfl)
theorem b_bent {ao : Option Addr} {n : Nat} {w : Int} : Build Try.prog 91 #[(0, .slice ao n n), (1, .int .u8 w)] (.agg #[.slice ao n n, .int .u8 w]) := fun w => by kernel_rfl
theorem evB_ok {k : Int} {n : List Int} (h1 : 0 ≤ k ∧ k ≤ 255) (hl : n.length ≤ 100) (h2 : ∀ x ∈ n, inQ x) : (evB k n).ok := ⟨h1, (show inQ (0 : Int) from ⟨by decide, by decide⟩), h2, by show n.length ≤ _; omega, by show 0 ≤ _; omega⟩
def mCl (b7 : Nat) : Value := .func (.func 35) #[] #[.pointer (some ⟨b7, 0, none⟩)]
def sCl (b7 b10 b9 : Nat) : Value := .func (.func 36) #[] #[.pointer (some ⟨b7, 0, none⟩), .pointer (some ⟨b10, 0, none⟩), .pointer (some ⟨b9, 0, none⟩)]
inductive FB where
  | val (v : Value)
  | q (l : List Int)
  | ev (m : EvM) (j : Nat)
  | evn (m : EvM)
  | evs (l : List (Nat × EvM))
  | bent (j : Nat) (w : Int)
  | fin (js : List Nat)
  | mv (j : Nat)
def FB.spec (ρ : Nat → Value) (v : Value) (c : List Hp) : FB → Prop
  | .val u => v = u ∧ c = []
  | .q l => ∃ ao x, v = .slice ao l.length l.length ∧ Ls enQ 22 (.slice ao l.length l.length) x l ∧ c = [x]
  | .ev m j => ∃ ao, ρ j = .slice ao m.n.length m.n.length ∧ v = evV m ao ∧ c = []
  | .evn m => ∃ ao x, v = evV m ao ∧ Ls enQ 22 (.slice ao m.n.length m.n.length) x m.n ∧ c = [x]
  | .evs l => ∃ es : List EvE, es.map enEv.val = l.map (fun p => ρ p.1) ∧ es.map (·.m) = l.map (·.2) ∧ ∃ ao x, v = .slice ao es.length es.length ∧ Ls enEv 62 (.slice ao es.length es.length) x es ∧ c = [x]
  | .bent j w => ∃ ao n, ρ j = .slice ao n n ∧ v = .agg #[.slice ao n n, .int .u8 w] ∧ c = []
  | .fin js => ∃ bs : List Bt, bs.map enBt.val = js.map ρ ∧ ∃ ao x, v = .slice ao bs.length bs.length ∧ Ls enBt 91 (.slice ao bs.length bs.length) x bs ∧ c = [x]
  | .mv j => v = ρ j ∧ c = []
def FB.slots : FB → List Nat
  | .ev _ j => [j]
  | .evs l => l.map (·.1)
  | .bent j _ => [j]
  | .fin js => js
  | .mv j => [j]
  | _ => []
theorem FB.loc {ρ ρ' : Nat → Value} {v : Value} {c : List Hp} {f : FB} (h : ∀ j ∈ f.slots, ρ j = ρ' j) (hs : FB.spec ρ v c f) : FB.spec ρ' v c f := by
  cases f with
  | val u => exact hs
  | q l => exact hs
  | ev m j =>
    obtain ⟨ao, h1, h2⟩ := hs
    exact ⟨ao, by rw [← h j (List.mem_singleton.2 rfl)]; exact h1, h2⟩
  | evn m => exact hs
  | evs l =>
    obtain ⟨es, h1, h2⟩ := hs
    exact ⟨es, h1.trans (List.map_congr_left fun p hp => h p.1 (List.mem_map.2 ⟨p, hp, rfl⟩)), h2⟩
  | bent j w =>
    obtain ⟨ao, n, h1, h2⟩ := hs
    exact ⟨ao, n, by rw [← h j (List.mem_singleton.2 rfl)]; exact h1, h2⟩
  | fin js =>
    obtain ⟨bs, h1, h2⟩ := hs
    exact ⟨bs, h1.trans (List.map_congr_left fun j hj => h j hj), h2⟩
  | mv j =>
    obtain ⟨h1, h2⟩ := hs
    exact ⟨by rw [← h j (List.mem_singleton.2 rfl)]; exact h1, h2⟩
def slotsOK (sp : List FB) (dep : Nat → List Nat) (d : Nat → Nat) (n : Nat) : Bool := (List.range n).all fun i => (sp.getD i (.val (.bool false))).slots.all fun j => (dep i).any fun m => Nat.beq (d m) j
theorem slots_loc {sp : List FB} {dep : Nat → List Nat} {d : Nat → Nat} {n : Nat} (hs : slotsOK sp dep d n = true) {i : Nat} (hi : i < n) {ρ ρ' : Nat → Value} (h : ∀ m ∈ dep i, ρ (d m) = ρ' (d m)) : ∀ j ∈ (sp.getD i (.val (.bool false))).slots, ρ j = ρ' j := fun j hj => by
  have h1 := (List.all_eq_true.1 ((List.all_eq_true.1 hs) i (List.mem_range.2 hi))) j hj
  obtain ⟨m, hm, h2⟩ := List.any_eq_true.1 h1
  have h3 : d m = j := Nat.eq_of_beq_eq_true h2
  rw [← h3]
  exact h m hm
def FB.evm : FB → Option EvM
  | .ev m _ => some m
  | .evn m => some m
  | _ => none
theorem ev_val {ρ : Nat → Value} {v : Value} {c : List Hp} {f : FB} (h : FB.spec ρ v c f) (m : EvM) (hf : f.evm = some m) : ∃ ao, v = evV m ao := by
  cases f with
  | ev m' j =>
    obtain ⟨ao, _, h2, _⟩ := h
    cases hf
    exact ⟨ao, h2⟩
  | evn m' =>
    obtain ⟨ao, x, h2, _⟩ := h
    cases hf
    exact ⟨ao, h2⟩
  | _ => cases hf
def AllFrom (p : Nat → Prop) : Nat → Nat → Prop
  | _, 0 => True
  | i, n + 1 => p i ∧ AllFrom p (i + 1) n
theorem AllFrom.all {p : Nat → Prop} : ∀ {n i : Nat}, AllFrom p i n → ∀ j, j < n → p (i + j)
  | n + 1, i, h, 0, _ => h.1
  | n + 1, i, h, j + 1, hj => by
    have h1 := AllFrom.all h.2 j (by omega)
    rw [show i + (j + 1) = i + 1 + j by omega]
    exact h1
theorem AllFrom.zero {p : Nat → Prop} {n : Nat} (h : AllFrom p 0 n) : ∀ j, j < n → p j := fun j hj => by
  have h1 := h.all j hj
  rwa [Nat.zero_add] at h1
/-- what must be shown of an operation -/
def FRun (P : Program) (ops : Array Oper) (Q : Exit → Act → World → Prop) (B : Nat) (w0 : World) (N : Nat) (d : Nat → Nat) (dep : Nat → List Nat) (sp : List FB) (E0 : Env) (G0 : List Hp) (i : Nat) : Prop :=
  ∀ (ρ : Nat → Value) (χ : Nat → List Hp) (X : List Hp) (Y : Env) (K' : Act → World → Prop), (∀ m ∈ dep i, FB.spec ρ (ρ (d m)) (χ m) (sp.getD m (.val (.bool false)))) → FK B w0 N (fun v c => FB.spec ρ v c (sp.getD i (.val (.bool false)))) (d i) ((dep i).map (fun m => (d m, ρ (d m))) ++ (E0 ++ Y)) (G0 ++ X) K' →
      ∃ o, ops[i]? = some o ∧ OW P ops (Nx K' Q) B w0 N (G0 ++ X) ((dep i).map (fun m => (d m, ρ (d m))) ++ (E0 ++ Y)) [o]
/-! ### what is there in the end -/
def EvAt (D : Hp) (v : Value) (m : EvM) : Prop := ∃ ao, v = evV m ao ∧ ∀ B w0, EvDeep B w0 m ⟨ao, m.n.length, none, 0⟩ D
theorem evn_at {ρ : Nat → Value} {v : Value} {c : List Hp} {m : EvM} {D : Hp} (h : FB.spec ρ v c (.evn m)) (hc : ∀ x ∈ c, ∀ p ∈ x, p ∈ D) (hm : m.d = []) : EvAt D v m := by
  obtain ⟨ao, x, h1, h2, rfl⟩ := h
  refine ⟨ao, h1, fun B w0 G hG => ⟨h2.vw fun p hp => hG p (hc x (List.mem_singleton.2 rfl) p hp), ?_⟩⟩
  rw [hm]
  exact Ls.nil.vw (e := 5) Sub.nil
theorem ev_at {ρ : Nat → Value} {v : Value} {c cj : List Hp} {m : EvM} {j : Nat} {D : Hp} (h : FB.spec ρ v c (.ev m j)) (hq : FB.spec ρ (ρ j) cj (.q m.n)) (hc : ∀ x ∈ cj, ∀ p ∈ x, p ∈ D) (hm : m.d = []) : EvAt D v m := by
  obtain ⟨ao, h1, h2, _⟩ := h
  obtain ⟨ao', x, h3, h4, rfl⟩ := hq
  rw [h1] at h3
  injection h3 with h3
  subst h3
  refine ⟨ao, h2, fun B w0 G hG => ⟨h4.vw fun p hp => hG p (hc x (List.mem_singleton.2 rfl) p hp), ?_⟩⟩
  rw [hm]
  exact Ls.nil.vw (e := 5) Sub.nil
/-- a list of events that can be read from one chunk -/
def Row (D : Hp) (ao : Option Addr) (n : Nat) (ms : List EvM) : Prop := ∃ es : List EvE, n = es.length ∧ es.map (·.m) = ms ∧ (∀ B w0 G, Sub D G → Vw enEv (St B w0 G) (.slice ao n n) es) ∧ ∀ x ∈ es, ∀ B w0, EvDeep B w0 x.m x.p D
theorem val_p {e : EvE} {m : EvM} {ao : Option Addr} (hm : e.m = m) (h : enEv.val e = evV m ao) : e.p = ⟨ao, m.n.length, none, 0⟩ := by
  obtain ⟨em, p⟩ := e
  obtain ⟨na, nc, da, dc⟩ := p
  dsimp only at hm
  subst hm
  simp only [enEv, evV, EvM.cells] at h
  injection h with h
  have h1 := congrArg Array.toList h
  simp only [List.cons.injEq, Value.slice.injEq] at h1
  obtain ⟨_, _, ⟨rfl, _, rfl⟩, ⟨rfl, _, rfl⟩, _⟩ := h1
  rfl
theorem row_of {ρ : Nat → Value} {v : Value} {c : List Hp} {l : List (Nat × EvM)} {D : Hp} (h : FB.spec ρ v c (.evs l)) (hc : ∀ x ∈ c, ∀ p ∈ x, p ∈ D) (hl : ∀ p ∈ l, EvAt D (ρ p.1) p.2) : ∃ ao, v = .slice ao l.length l.length ∧ Row D ao l.length (l.map (·.2)) := by
  obtain ⟨es, h1, h2, ao, x, h3, h4, rfl⟩ := h
  have hn : es.length = l.length := by simpa using congrArg List.length h2
  rw [← hn]
  refine ⟨ao, h3, es, rfl, h2, fun B w0 G hG => h4.vw fun p hp => hG p (hc x (List.mem_singleton.2 rfl) p hp), fun e he B w0 => ?_⟩
  obtain ⟨i, hi, rfl⟩ := List.getElem_of_mem he
  have hi2 : i < l.length := by omega
  obtain ⟨ao2, h5, h6⟩ := hl l[i] (List.getElem_mem hi2)
  have h7 : es[i].m = l[i].2 := by
    have := congrArg (fun t => t[i]?) h2
    simpa [hi, hi2] using this
  have h8 : enEv.val es[i] = ρ l[i].1 := by
    have := congrArg (fun t => t[i]?) h1
    simpa [hi, hi2] using this
  have h9 := val_p h7 (h8.trans h5)
  rw [h9, h7]
  exact h6 B w0
theorem flat_has {χ : Nat → List Hp} {L : List Nat} {i : Nat} (hi : i ∈ L) : ∀ x ∈ χ i, ∀ p ∈ x, p ∈ (L.flatMap χ).flatten := fun x hx p hp => List.mem_flatten.2 ⟨x, List.mem_flatMap.2 ⟨i, hi, hx⟩, hp⟩
theorem look_none {E0 : Env} {d : Nat → Nat} {n : Nat} (h : (List.range n).all (fun i => (Env.look E0 (d i)).isNone) = true) (i : Nat) (hi : i < n) : Env.look E0 (d i) = none := by
  have h1 := (List.all_eq_true.1 h) i (List.mem_range.2 hi)
  cases hq : Env.look E0 (d i) with
  | none => rfl
  | some v => rw [hq] at h1; cases h1
theorem Env.look_in {t : Nat} {v : Value} : ∀ {E : Env}, Env.look E t = some v → (t, v) ∈ E
  | [], h => by cases h
  | (d, u) :: E, h => by
    simp only [Env.look] at h
    by_cases hd : d = t
    · subst hd
      simp at h
      subst h
      exact List.mem_cons_self ..
    · rw [nbeq hd] at h
      exact List.mem_cons_of_mem _ (Env.look_in h)
def BentAt (D : Hp) (x : Bt) (r : List EvM × Int) : Prop := x.why = r.2 ∧ Row D x.ao x.n r.1
theorem bent_at {ρ : Nat → Value} {v : Value} {c : List Hp} {j : Nat} {w : Int} {D : Hp} {l : List (Nat × EvM)} (h : FB.spec ρ v c (.bent j w)) (hr : ∃ ao, ρ j = .slice ao l.length l.length ∧ Row D ao l.length (l.map (·.2))) : ∃ b, v = enBt.val b ∧ BentAt D b (l.map (·.2), w) := by
  obtain ⟨ao, n, h1, h2, _⟩ := h
  obtain ⟨ao2, h3, h4⟩ := hr
  rw [h1] at h3
  injection h3 with h5 h6
  subst h5 h6
  exact ⟨⟨ao, l.length, w⟩, h2, rfl, h4⟩
theorem bt_inj {a b : Bt} (h : enBt.val a = enBt.val b) : a = b := by
  obtain ⟨a1, a2, a3⟩ := a
  obtain ⟨b1, b2, b3⟩ := b
  simp only [enBt] at h
  injection h with h
  have h1 := congrArg Array.toList h
  simp only [List.cons.injEq, Value.slice.injEq, Value.int.injEq, and_true, true_and] at h1
  obtain ⟨⟨rfl, rfl, _⟩, rfl⟩ := h1
  rfl
def AllBent (D : Hp) (r : Nat → List EvM × Int) (ρ : Nat → Value) : Nat → List Nat → Prop
  | _, [] => True
  | i, j :: js => (∃ b, ρ j = enBt.val b ∧ BentAt D b (r i)) ∧ AllBent D r ρ (i + 1) js
theorem bents_from {D : Hp} {r : Nat → List EvM × Int} {ρ : Nat → Value} : ∀ {js : List Nat} {bs : List Bt} {i : Nat}, bs.map enBt.val = js.map ρ → AllBent D r ρ i js → ∀ q (h : q < bs.length), BentAt D bs[q] (r (i + q))
  | [], bs, i, hb, _, q, h => by
    have := congrArg List.length hb
    simp at this
    subst this
    exact absurd h (Nat.not_lt_zero _)
  | j :: js, [], i, hb, _, q, h => absurd h (Nat.not_lt_zero _)
  | j :: js, b :: bs, i, hb, ha, q, h => by
    simp only [List.map_cons, List.cons.injEq] at hb
    match q with
    | 0 =>
      obtain ⟨b', h1, h2⟩ := ha.1
      rw [← hb.1] at h1
      rw [bt_inj h1]
      exact h2
    | q + 1 =>
      have h1 := bents_from hb.2 ha.2 q (by simpa using h)
      rw [show i + (q + 1) = i + 1 + q by omega]
      exact h1
theorem bents_all {D : Hp} {r : Nat → List EvM × Int} {ρ : Nat → Value} {js : List Nat} {bs : List Bt} (hb : bs.map enBt.val = js.map ρ) (ha : AllBent D r ρ 0 js) : ∀ q (h : q < bs.length), BentAt D bs[q] (r q) := fun q h => by
  have h1 := bents_from hb ha q h
  rwa [Nat.zero_add] at h1
/-! ### short forms -/
def FB.or (f : FB) (x : Value) : Value := match f with
  | .val u => u
  | _ => x
theorem FB.or_eq {ρ : Nat → Value} {v : Value} {c : List Hp} {f : FB} (h : FB.spec ρ v c f) : f.or v = v := by
  cases f with
  | val u => exact h.1.symm
  | _ => rfl
/-- as FRun; what is a plain value stands as itself -/
def FRunV (P : Program) (ops : Array Oper) (Q : Exit → Act → World → Prop) (B : Nat) (w0 : World) (N : Nat) (d : Nat → Nat) (dep : Nat → List Nat) (sp : List FB) (E0 : Env) (G0 : List Hp) (i : Nat) : Prop :=
  ∀ (ρ : Nat → Value) (χ : Nat → List Hp) (X : List Hp) (Y : Env) (K' : Act → World → Prop), (∀ m ∈ dep i, FB.spec ρ (ρ (d m)) (χ m) (sp.getD m (.val (.bool false)))) → FK B w0 N (fun v c => FB.spec ρ v c (sp.getD i (.val (.bool false)))) (d i) ((dep i).map (fun m => (d m, (sp.getD m (.val (.bool false))).or (ρ (d m)))) ++ (E0 ++ Y)) (G0 ++ X) K' →
      ∃ o, ops[i]? = some o ∧ OW P ops (Nx K' Q) B w0 N (G0 ++ X) ((dep i).map (fun m => (d m, (sp.getD m (.val (.bool false))).or (ρ (d m)))) ++ (E0 ++ Y)) [o]
theorem FRunV.run {P : Program} {ops : Array Oper} {Q : Exit → Act → World → Prop} {B : Nat} {w0 : World} {N : Nat} {d : Nat → Nat} {dep : Nat → List Nat} {sp : List FB} {E0 : Env} {G0 : List Hp} {i : Nat} (h : FRunV P ops Q B w0 N d dep sp E0 G0 i) : FRun P ops Q B w0 N d dep sp E0 G0 i := fun ρ χ X Y K' hd hK => by
  have he : (dep i).map (fun m => (d m, (sp.getD m (.val (.bool false))).or (ρ (d m)))) = (dep i).map (fun m => (d m, ρ (d m))) := List.map_congr_left fun m hm => by rw [FB.or_eq (hd m hm)]
  rw [← he] at hK ⊢
  exact h ρ χ X Y K' hd hK
theorem AllFrom.imp {p q : Nat → Prop} (h : ∀ i, p i → q i) : ∀ {n i : Nat}, AllFrom p i n → AllFrom q i n
  | 0, _, _ => True.intro
  | n + 1, i, hp => ⟨h i hp.1, AllFrom.imp h hp.2⟩
section
variable {P : Program} {ops : Array Oper} {Q : Exit → Act → World → Prop} {B : Nat} {w0 : World} {N : Nat} {ρ : Nat → Value} {f : FB} {di : Nat} {E E' : Env} {G : List Hp} {K : Act → World → Prop}
theorem fd (hK : FK B w0 N (fun v c => FB.spec ρ v c f) di E G K) (v : Value) (c : List Hp) (hs : FB.spec ρ v c f) (hE : E' = (di, v) :: E) : OW P ops (Nx K Q) B w0 N (c ++ G) E' [] := ow_nil (free_done hK v c hs hE (Cov.refl _))
theorem fdV {u : Value} (hK : FK B w0 N (fun v c => FB.spec ρ v c (.val u)) di E G K) : OW P ops (Nx K Q) B w0 N G ((di, u) :: E) [] := fd hK u [] ⟨rfl, rfl⟩ rfl
theorem fdE {m : EvM} {u : Value} {G' : List Hp} (hK : FK B w0 N (fun v c => FB.spec ρ v c (.evn m)) di E G K) (h : ∃ x : Option Addr × Hp, u = evV m x.1 ∧ Ls enQ 22 (.slice x.1 m.n.length m.n.length) x.2 m.n ∧ G' = [x.2] ++ G) : OW P ops (Nx K Q) B w0 N G' ((di, u) :: E) [] := by
  obtain ⟨x, rfl, hx, rfl⟩ := h
  exact fd hK (evV m x.1) [x.2] ⟨x.1, x.2, rfl, hx, rfl⟩ rfl
theorem fdQ {l : List Int} {ao : Option Addr} {c : Hp} (hK : FK B w0 N (fun v c => FB.spec ρ v c (.q l)) di E G K) (h : Ls enQ 22 (.slice ao l.length l.length) c l) : OW P ops (Nx K Q) B w0 N (c :: G) ((di, .slice ao l.length l.length) :: E) [] := fd hK _ [c] ⟨ao, c, rfl, h, rfl⟩ rfl
end
end Go.Proofs.Ytckdhelnafjddaa
