/- InbufWhole: whatever the input it returns true, and the input reads as it did. Conditions: none. -/
import Derived.Test.YtbpnnkkbaakdjaaInLaw
import Derived.Test.YtbpnnkkbaakdjaaMixA
namespace Go.Proofs.Ytbpnnkkbaakdjaa.lawInbufWhole
open Go Go.Sl Go.Proofs Go.RowKit Go.ChangeShapes Go.WideShapes Go.ChangeAt Go.Proofs.Ytbpnnkkbaakdjaa
set_option maxRecDepth 20000
set_option linter.unusedVariables false
set_option linter.unusedSimpArgs false

/-! ### Pieces -/
structure Pc where
  a : Nat
  b : Nat
deriving DecidableEq
instance : Inhabited Pc := ⟨⟨0, 0⟩⟩
def Pc.cells (p : Pc) : List Value := [.int .i64 p.a, .int .i64 p.b]
def enPc : Enc Pc := ⟨Pc.cells, 2, fun p => .agg p.cells.toArray, fun _ => True⟩
/-- the pieces of a text: they cover it -/
structure Cut (n : Nat) (L : List Pc) : Prop where
  inn : ∀ p ∈ L, p.a ≤ p.b ∧ p.b ≤ n
  all_ : ∀ k, k < n → ∃ p ∈ L, p.a ≤ k ∧ k < p.b
  stop : ∃ p ∈ L, p.b = n
/-- what of a buffer is known when some pieces came -/
structure Gets (t : List UInt8) (L done : List Pc) (m : InM) : Prop where
  wf : m.WF
  right : m.Right t
  rd : m.read ≤ t.length
  high : m.high ≤ t.length
  fin : m.known = true → m.final = t.length
  known : (∃ p ∈ done, p.b = t.length) → m.known = true
  cov : ∀ p ∈ done, ∀ k : Nat, p.a ≤ k → k < p.b → (k : Int) < m.read ∨ (m.f k).isSome = true
  starts : ∀ x ∈ m.l, x.a = m.read ∨ ∃ p ∈ L, x.a = p.a

/-! ### Where ranges begin -/
theorem start_of {l : List Rg} (hg : Good l) {x : Rg} (hx : x ∈ l) : InR l x.a ∧ ¬ InR l (x.a - 1) := by
  have hxo := hg.1 x hx
  refine ⟨⟨x, hx, Int.le_refl _, hxo.2.1⟩, ?_⟩
  rintro ⟨y, hy, h1, h2⟩
  obtain ⟨i, hi, rfl⟩ := List.mem_iff_getElem.1 hx
  obtain ⟨j, hj, rfl⟩ := List.mem_iff_getElem.1 hy
  rcases Nat.lt_trichotomy i j with h | h | h
  · have := List.pairwise_iff_getElem.1 hg.2 i j hi hj h; have := hxo.2.1; omega
  · subst h; omega
  · have := List.pairwise_iff_getElem.1 hg.2 j i hj hi h; omega
theorem of_start {l : List Rg} {s : Int} (h1 : InR l s) (h2 : ¬ InR l (s - 1)) : ∃ x ∈ l, x.a = s := by
  obtain ⟨x, hx, h3, h4⟩ := h1
  refine ⟨x, hx, ?_⟩
  rcases Int.lt_or_le x.a s with h | h
  · exact absurd ⟨x, hx, by omega, by omega⟩ h2
  · omega
theorem len_sub {α : Type} [DecidableEq α] : ∀ {l m : List α}, l.Nodup → (∀ x ∈ l, x ∈ m) → l.length ≤ m.length
  | [], _, _, _ => Nat.zero_le _
  | x :: l, m, hn, hs => by
    have hx : x ∈ m := hs x List.mem_cons_self
    obtain ⟨h1, h2⟩ := List.nodup_cons.1 hn
    have h3 := len_sub (m := m.erase x) h2 fun y hy => by
      have hne : y ≠ x := fun h => h1 (h ▸ hy)
      exact (List.mem_erase_of_ne hne).2 (hs y (List.mem_cons_of_mem _ hy))
    have h4 := List.length_erase_of_mem hx
    have h5 := List.length_pos_of_mem hx
    simp only [List.length_cons]
    omega
theorem few {l : List Rg} (hg : Good l) {q : Int} {L : List Pc} (hs : ∀ x ∈ l, x.a = q ∨ ∃ p ∈ L, x.a = p.a) : l.length ≤ L.length + 1 := by
  have hn : (l.map Rg.a).Nodup := by
    rw [List.nodup_iff_pairwise_ne, List.pairwise_map]
    refine hg.2.imp_of_mem ?_
    intro x y hx hy h
    have := (hg.1 x hx).2.1
    omega
  have h := len_sub (m := q :: L.map fun p => (p.a : Int)) hn fun s hs2 => by
    obtain ⟨x, hx, rfl⟩ := List.mem_map.1 hs2
    rcases hs x hx with h | ⟨p, hp, h⟩
    · rw [h]; exact List.mem_cons_self
    · rw [h]; exact List.mem_cons_of_mem _ (List.mem_map.2 ⟨p, hp, rfl⟩)
  simpa using h
theorem starts_add {l : List Rg} {r : Rg} (hg : Good l) (hr : RgIn r) {x : Rg} (hx : x ∈ addE l r) : (∃ y ∈ l, y.a = x.a) ∨ x.a = r.a := by
  obtain ⟨g1, g2, _⟩ := addE_spec hg hr
  obtain ⟨h1, h2⟩ := start_of g1 hx
  rw [g2] at h1 h2
  rcases h1 with h3 | h3
  · obtain ⟨y, hy, e⟩ := of_start h3 fun h => h2 (.inl h)
    exact .inl ⟨y, hy, e⟩
  · right
    rcases Int.lt_or_le r.a x.a with h | h
    · exact absurd (.inr (by omega)) h2
    · omega
theorem starts_cut {l : List Rg} {r : Rg} (hg : Good l) (hr : RgIn r) {x : Rg} (hx : x ∈ cutE l r) : (∃ y ∈ l, y.a = x.a) ∨ x.a = r.b := by
  obtain ⟨g1, g2, _⟩ := cutE_spec hg hr
  obtain ⟨h1, h2⟩ := start_of g1 hx
  rw [g2] at h1 h2
  by_cases h3 : InR l (x.a - 1)
  · right
    by_cases h4 : r.a ≤ x.a - 1 ∧ x.a - 1 < r.b
    · have := h1.2; omega
    · exact absurd ⟨h3, h4⟩ h2
  · exact .inl (of_start h1.1 h3)

/-! ### A piece comes -/
theorem piece_of {t : List UInt8} {p : Pc} (h : p.a ≤ p.b ∧ p.b ≤ t.length) : Piece t p.a ((t.take p.b).drop p.a) := fun j hj => by
  have hl : ((t.take p.b).drop p.a).length = p.b - p.a := by rw [List.length_drop, List.length_take]; omega
  have h1 : ((p.a : Int) + (j : Int)).toNat = p.a + j := by omega
  rw [h1, List.getElem_drop, List.getElem_take, List.getElem?_eq_getElem (by omega)]
theorem Gets.add {t : List UInt8} {L done : List Pc} {m : InM} (h : Gets t L done m) (ht : t.length ≤ 300) (hL : L.length ≤ 16) {p : Pc} (hp : p ∈ L) (hpi : p.a ≤ p.b ∧ p.b ≤ t.length) :
    m.addE p.a ((t.take p.b).drop p.a) (decide (p.b = t.length)) = 0 ∧ Gets t L (done ++ [p]) (m.add p.a ((t.take p.b).drop p.a) (decide (p.b = t.length))) := by
  have hl : ((t.take p.b).drop p.a).length = p.b - p.a := by rw [List.length_drop, List.length_take]; omega
  have hend : (p.a : Int) + (((t.take p.b).drop p.a).length : Int) = p.b := by omega
  have hrd := h.wf.rd
  have h5 := h.rd
  have h6 := h.high
  generalize hd : (t.take p.b).drop p.a = d at *
  generalize hla : decide (p.b = t.length) = last at *
  have hlt : last = true → p.b = t.length := fun h => by rw [h] at hla; exact of_decide_eq_true hla
  have hb : ¬ m.addBad p.a d.length last := fun hb => by
    rcases hb with ⟨h1, h2 | ⟨h2, h3⟩⟩ | ⟨h1, h2⟩
    · have := h.fin h1; omega
    · have := h.fin h1; have := hlt h2; omega
    · have := hlt h1; omega
  have hf : ¬ m.read + 65536 < p.a + (d.length : Int) := by omega
  have hE : m.addE p.a d last = if max (p.a : Int) m.read < p.a + (d.length : Int) then m.storeE (max p.a m.read) (m.fresh p.a d) else 0 := by
    unfold InM.addE
    rw [if_neg hb, if_neg hf]
  have hfl : (m.fresh p.a d).length = d.length - (max (p.a : Int) m.read - p.a).toNat := List.length_drop ..
  have h0 : m.addE p.a d last = 0 := by
    rw [hE]
    split
    · unfold InM.storeE
      rw [if_neg]
      have hrg : RgIn ⟨max (p.a : Int) m.read, max (p.a : Int) m.read + (m.fresh p.a d).length⟩ := ⟨by dsimp only; omega, by dsimp only; omega⟩
      have h1 := few (addE_spec h.wf.gl hrg).1 (q := m.read) (L := L) fun x hx => by
        rcases starts_add h.wf.gl hrg hx with ⟨y, hy, e⟩ | e
        · rw [← e]; exact h.starts y hy
        · dsimp only at e
          rcases Int.lt_or_le m.read p.a with h2 | h2
          · exact .inr ⟨p, hp, by omega⟩
          · exact .inl (by omega)
      omega
    · rfl
  refine ⟨h0, ?_⟩
  have hw := InM.add_wf (m := m) (a := p.a) (d := d) (last := last) h.wf ⟨by omega, by omega⟩
  obtain ⟨e1, e2, e3, e4⟩ := InM.add_same h0
  have hr := InM.Right.add (m := m) (last := last) h.right (by omega) (hd ▸ piece_of hpi)
  have hmem := InM.add_mem (m := m) (k := 0) (by omega) h0 hb hf
  refine ⟨hw, hr, by rw [e1]; exact h.rd, by rw [e2]; omega, fun hk => ?_, fun ⟨q, hq, hqb⟩ => ?_, fun q hq k h1 h2 => ?_, fun x hx => ?_⟩
  · rw [e4]
    cases hll : last with
    | true => rw [if_pos rfl]; have := hlt hll; omega
    | false =>
      rw [if_neg (by decide)]
      rw [e3, hll, Bool.or_false] at hk
      exact h.fin hk
  · rw [e3]
    rcases List.mem_append.1 hq with h1 | h1
    · rw [h.known ⟨q, h1, hqb⟩]; rfl
    · have : q = p := by simpa using h1
      subst this
      rw [← hla, decide_eq_true hqb, Bool.or_true]
  · rw [e1, InM.add_mem (by omega) h0 hb hf]
    rcases List.mem_append.1 hq with h3 | h3
    · rcases h.cov q h3 k h1 h2 with h4 | h4
      · exact .inl h4
      · by_cases h7 : max (p.a : Int) m.read ≤ (k : Int) ∧ (k : Int) < p.a + (d.length : Int)
        · right
          rw [if_pos h7, List.getElem?_eq_getElem (by omega)]
          rfl
        · right
          rw [if_neg h7]
          exact h4
    · have : q = p := by simpa using h3
      subst this
      rcases Int.lt_or_le (k : Int) m.read with h4 | h4
      · exact .inl h4
      · right
        rw [if_pos (by omega), List.getElem?_eq_getElem (by omega)]
        rfl
  · rw [e1]
    have el : (m.add p.a d last).l = (m.add1 p.a d).l := by
      rw [show m.add p.a d last = (m.add2 p.a d last).rise (p.a + d.length) from if_pos h0]
      unfold InM.rise InM.add2
      split <;> split <;> rfl
    rw [el] at hx
    unfold InM.add1 at hx
    split at hx
    · unfold InM.store at hx
      split at hx
      · have hrg : RgIn ⟨max (p.a : Int) m.read, max (p.a : Int) m.read + (m.fresh p.a d).length⟩ := ⟨by dsimp only; omega, by dsimp only; omega⟩
        rcases starts_add h.wf.gl hrg hx with ⟨y, hy, e⟩ | e
        · rw [← e]; exact h.starts y hy
        · dsimp only at e
          rcases Int.lt_or_le m.read p.a with h2 | h2
          · exact .inr ⟨p, hp, by omega⟩
          · exact .inl (by omega)
      · exact h.starts x hx
    · exact h.starts x hx
/-- some bytes are read -/
theorem Gets.off {t : List UInt8} {L done : List Pc} {m : InM} (h : Gets t L done m) {n : Nat} (hn : (n : Int) ≤ m.ready) : Gets t L done (m.off n) := by
  have hrd := h.wf.rd
  obtain ⟨r1, r2, r3⟩ := InM.ready_spec h.wf
  have hmr : m.read + m.ready ≤ m.high := by
    rcases Int.lt_or_le 0 m.ready with h1 | h1
    · have := h.wf.low _ (r2 (m.read + m.ready - 1) (by omega) (by omega)); omega
    · omega
  have h6 := h.high
  have e1 : (m.off n).read = m.read + n := rfl
  refine ⟨InM.off_wf h.wf hn, h.right.off, by rw [e1]; omega, h.high, h.fin, h.known, fun q hq k h1 h2 => ?_, fun x hx => ?_⟩
  · rw [e1]
    rcases h.cov q hq k h1 h2 with h3 | h3
    · exact .inl (by omega)
    · show _ ∨ (gone m.f m.read n k).isSome = true
      unfold gone
      by_cases h4 : m.read ≤ (k : Int) ∧ (k : Int) < m.read + n
      · exact .inl (by omega)
      · rw [if_neg h4]; exact .inr h3
  · rw [e1]
    have hrg : RgIn ⟨m.read, m.read + n⟩ := ⟨by dsimp only; omega, by dsimp only; omega⟩
    obtain ⟨g1, g2, _⟩ := cutE_spec h.wf.gl hrg
    rcases starts_cut h.wf.gl hrg hx with ⟨y, hy, e⟩ | e
    · rcases h.starts y hy with h2 | h2
      · left
        have hxi := (g2 x.a).1 (start_of g1 hx).1
        have := hxi.2
        dsimp only at this
        omega
      · right; rw [← e]; exact h2
    · exact .inl e
theorem Gets.bytes {t : List UInt8} {L done : List Pc} {m : InM} (h : Gets t L done m) {n : Nat} (hn : (n : Int) ≤ m.ready) : t.take m.read.toNat ++ m.bytes n = t.take (m.off n).read.toNat := by
  rw [h.right.bytes h.wf hn]
  have hrd := h.wf.rd
  have e1 : (m.off n).read.toNat = m.read.toNat + n := by show (m.read + n).toNat = _; omega
  rw [e1, List.take_add]
/-- all came -/
theorem Gets.whole {t : List UInt8} {L done : List Pc} {m : InM} (h : Gets t L done m) (hc : Cut t.length L) (hd : ∀ p ∈ L, p ∈ done) : m.known = true ∧ m.final = t.length ∧ m.ready = t.length - m.read := by
  have hk : m.known = true := by
    obtain ⟨p, hp, hb⟩ := hc.stop
    exact h.known ⟨p, hd p hp, hb⟩
  have h5 := h.rd
  have hrd := h.wf.rd
  refine ⟨hk, h.fin hk, InM.ready_eq h.wf (by omega) (fun k h1 h2 => ?_) fun hi => ?_⟩
  · obtain ⟨p, hp, h3, h4⟩ := hc.all_ k.toNat (by omega)
    rw [h.wf.mem]
    rcases h.cov p (hd p hp) k.toNat h3 h4 with h7 | h7
    · omega
    · have : ((k.toNat : Nat) : Int) = k := by omega
      rw [this] at h7
      exact h7
  · have := h.wf.low _ hi
    have := h.high
    omega
theorem gets0 {t : List UInt8} {L : List Pc} : Gets t L [] in0 := ⟨in0_wf, in0_right t, (by show (0 : Int) ≤ _; omega), (by show (0 : Int) ≤ _; omega), (fun h => by cases h), (fun ⟨_, h, _⟩ => by simp at h), (fun _ h => by simp at h), (fun _ h => by simp [in0] at h)⟩

theorem pcTy : EncTy Try.prog 71 enPc := EncTy.agg Ty.ag71 (by decide) (fun _ => rfl) (fun _ _ => rfl) (fun a _ u hu => by
  simp only [enPc, Pc.cells, List.mem_cons, List.not_mem_nil, or_false] at hu
  rcases hu with rfl | rfl <;> rfl)
theorem b_pc {a b : Nat} : Build Try.prog 71 #[(0, .int .i64 a), (1, .int .i64 b)] (.agg (Pc.cells ⟨a, b⟩).toArray) := fun w => by kernel_rfl
@[simp] theorem enPc_ok (p : Pc) : enPc.ok p = True := rfl
theorem okPc (p : Pc) : enPc.ok p := trivial

/-- pieces up to a place -/
structure CutTo (n at_ : Nat) (L : List Pc) : Prop where
  inn : ∀ p ∈ L, p.a ≤ p.b ∧ p.b ≤ n
  all_ : ∀ k, k < at_ → ∃ p ∈ L, p.a ≤ k ∧ k < p.b
theorem CutTo.add {n at_ to : Nat} {L : List Pc} (h : CutTo n at_ L) (h1 : at_ ≤ to) (h2 : to ≤ n) : CutTo n to (L ++ [⟨at_, to⟩]) := ⟨fun p hp => by
    rcases List.mem_append.1 hp with h3 | h3
    · exact h.inn p h3
    · have : p = ⟨at_, to⟩ := by simpa using h3
      subst this
      exact ⟨h1, h2⟩, fun k hk => by
    rcases Nat.lt_or_ge k at_ with h3 | h3
    · obtain ⟨p, hp, h4⟩ := h.all_ k h3
      exact ⟨p, List.mem_append_left _ hp, h4⟩
    · exact ⟨⟨at_, to⟩, by simp, h3, hk⟩⟩
theorem CutTo.done {n at_ : Nat} {L : List Pc} (h : CutTo n at_ L) (h1 : at_ ≤ n) : Cut n (L ++ [⟨at_, n⟩]) := ⟨(h.add h1 (Nat.le_refl _)).inn, (h.add h1 (Nat.le_refl _)).all_, ⟨⟨at_, n⟩, by simp, rfl⟩⟩
theorem Cut.of_mem {n : Nat} {L L' : List Pc} (h : Cut n L) (hm : ∀ p, p ∈ L' ↔ p ∈ L) : Cut n L' := ⟨fun p hp => h.inn p ((hm p).1 hp), fun k hk => by
    obtain ⟨p, hp, h1⟩ := h.all_ k hk
    exact ⟨p, (hm p).2 hp, h1⟩, by
    obtain ⟨p, hp, h1⟩ := h.stop
    exact ⟨p, (hm p).2 hp, h1⟩⟩
theorem swap_mem {L : List Pc} {a b : Nat} (ha : a < L.length) (hb : b < L.length) (p : Pc) : p ∈ (L.set a L[b]).set b L[a] ↔ p ∈ L := by
  constructor
  · intro h
    rcases List.mem_or_eq_of_mem_set h with h1 | h1
    · rcases List.mem_or_eq_of_mem_set h1 with h2 | h2
      · exact h2
      · rw [h2]; exact List.getElem_mem hb
    · rw [h1]; exact List.getElem_mem ha
  · intro h
    obtain ⟨i, hi, rfl⟩ := List.mem_iff_getElem.1 h
    by_cases h1 : i = a
    · subst h1
      exact List.mem_iff_getElem.2 ⟨b, by simpa using hb, by simp⟩
    · by_cases h2 : i = b
      · subst h2
        exact List.mem_iff_getElem.2 ⟨a, by simpa using ha, by rw [List.getElem_set_ne h1]; simp⟩
      · exact List.mem_iff_getElem.2 ⟨i, by simpa using hi, by rw [List.getElem_set_ne (fun h => h2 h.symm), List.getElem_set_ne (fun h => h1 h.symm)]⟩

structure Lx where
  i : Nat
  L : List Pc
  at_ : Nat
  ao : Option Addr
  cap : Nat
  c : Hp
structure Sx where
  L : List Pc
  i : Nat
  c : Hp
structure Mx where
  j : Nat
  m : InM
  c : Hp
  ao : Option Addr
  cap : Nat
  cg : Hp
  e : Bool

set_option maxHeartbeats 8000000 in
theorem law {B : Nat} {w0 : World} {t cuts order : List UInt8} {many : Int} {aoT aoC aoO : Option Addr} {capT capC capO : Nat} (hmy : 0 ≤ many ∧ many ≤ 255) (hct : t.length ≤ capT) (hl : t.length ≤ 9223372036854775807) (hlc : cuts.length ≤ 9223372036854775807) (hlo : order.length ≤ 9223372036854775807) (hT : ∀ G, Vw enB (St B w0 G) (.slice aoT t.length capT) t) (hC : ∀ G, Vw enB (St B w0 G) (.slice aoC cuts.length capC) cuts) (hO : ∀ G, Vw enB (St B w0 G) (.slice aoO order.length capO) order) :
    FnC Try.prog 8 #[.slice aoT t.length capT, .slice aoC cuts.length capC, .slice aoO order.length capO, .int .u8 many] B w0 [] (R0 (.bool true)) := fun F => by
  refine fn_enter Try.func8 rfl (by kernel_rfl) Try.ntmps8 (by simp) ?_
  refine Go.Sl.cw_seq ?_
  refine Go.Sl.cw_region ?_
  refine Go.Sl.ow_val rfl rfl (Go.Sl.v_assign rfl) ?_
  refine Go.Sl.ow_nil ?_
  refine Go.Sl.xw_then ?_
  refine Go.Sl.cw_seq ?_
  refine Go.Sl.cw_seq ?_
  refine Go.Sl.cw_region ?_
  refine Go.Sl.ow_val rfl rfl (Go.Sl.v_call rfl rfl (inAwake_c)) ?_
  refine Go.Sl.ow_val rfl rfl (Go.Sl.v_not_true rfl) ?_
  refine Go.Sl.ow_nil ?_
  refine Go.Sl.xw_then ?_
  refine Go.Sl.cw_false rfl ?_
  refine Go.Sl.cw_skip ?_
  refine Go.Sl.xw_then ?_
  refine Go.Sl.cw_seq ?_
  refine Go.Sl.cw_seq ?_
  refine Go.Sl.cw_region ?_
  refine Go.Sl.ow_val rfl rfl (Go.Sl.v_move rfl) ?_
  refine Go.Sl.ow_val rfl rfl (Go.Sl.v_len rfl Try.underlying57 rfl) ?_
  refine Go.Sl.ow_val rfl rfl (Go.Sl.v_gtr rfl rfl) ?_
  refine Go.Sl.ow_val rfl rfl (Go.Sl.v_move rfl) ?_
  refine Go.Sl.ow_dec 34 rfl (fun hc34 => ?_) (fun hc34 => ?_)
  refine Go.Sl.ow_skip rfl rfl ?_
  refine Go.Sl.ow_skip rfl rfl ?_
  refine Go.Sl.ow_skip rfl rfl ?_
  refine Go.Sl.ow_val rfl rfl (Go.Sl.v_pick_true rfl rfl) ?_
  refine Go.Sl.ow_nil ?_
  refine Go.Sl.xw_then ?_
  refine Go.Sl.cw_true rfl ?_
  refine Go.Sl.cw_seq ?_
  refine Go.Sl.cw_region ?_
  refine Go.Sl.ow_val rfl rfl (Go.Sl.v_assign rfl) ?_
  refine Go.Sl.ow_nil ?_
  refine Go.Sl.xw_then ?_
  refine Go.Sl.cw_ret ?_
  refine Go.Sl.xw_then_ret ?_
  refine Go.Sl.ret1 rfl (Go.Sl.res_tmp rfl) ?_
  rotate_left
  refine Go.Sl.ow_val rfl rfl (Go.Sl.v_move rfl) ?_
  refine Go.Sl.ow_val rfl rfl (Go.Sl.v_len rfl Try.underlying57 rfl) ?_
  refine Go.Sl.ow_val rfl rfl (Go.Sl.v_gtr rfl rfl) ?_
  refine Go.Sl.ow_val rfl rfl (Go.Sl.v_pick_false rfl rfl) ?_
  refine Go.Sl.ow_nil ?_
  refine Go.Sl.xw_then ?_
  refine Go.Sl.cw_dec rfl (fun hc38 => ?_) (fun hc38 => ?_)
  refine Go.Sl.cw_seq ?_
  refine Go.Sl.cw_region ?_
  refine Go.Sl.ow_val rfl rfl (Go.Sl.v_assign rfl) ?_
  refine Go.Sl.ow_nil ?_
  refine Go.Sl.xw_then ?_
  refine Go.Sl.cw_ret ?_
  refine Go.Sl.xw_then_ret ?_
  refine Go.Sl.ret1 rfl (Go.Sl.res_tmp rfl) ?_
  rotate_left
  refine Go.Sl.cw_skip ?_
  refine Go.Sl.xw_then ?_
  rotate_left
  · exact done0 rfl (by first | exact Go.Sl.Cov.refl _ | (intro p; simp only [List.flatten_cons, List.flatten_nil, List.flatten_append, List.append_nil, List.nil_append, Go.Sl.cnt_append, Go.Sl.cnt_cons, Go.Sl.cnt_nil, List.set_cons_zero, List.set_cons_succ, List.length_nil, List.length_cons, Nat.zero_add, List.append]; omega))
  · exact done0 rfl (by first | exact Go.Sl.Cov.refl _ | (intro p; simp only [List.flatten_cons, List.flatten_nil, List.flatten_append, List.append_nil, List.nil_append, Go.Sl.cnt_append, Go.Sl.cnt_cons, Go.Sl.cnt_nil, List.set_cons_zero, List.set_cons_succ, List.length_nil, List.length_cons, Nat.zero_add, List.append]; omega))
  have ht : t.length ≤ 300 := by omega
  have hcl : cuts.length ≤ 15 := by omega
  refine Go.Sl.cw_seq ?_
  refine Go.Sl.cw_region ?_
  refine Go.Sl.ow_val rfl rfl (Go.Sl.v_assign rfl) ?_
  refine Go.Sl.ow_nil ?_
  refine Go.Sl.xw_then ?_
  refine Go.Sl.cw_seq ?_
  refine Go.Sl.cw_region ?_
  refine Go.Sl.ow_val rfl rfl (Go.Sl.v_assign rfl) ?_
  refine Go.Sl.ow_nil ?_
  refine Go.Sl.xw_then ?_
  refine Go.Sl.cw_cut2 (ι := (Lx)) [(0, _), (1, _), (2, _), (3, _), (8, _)] ⟨rfl, rfl, rfl, rfl, rfl, trivial⟩ ((fun x => [(9, .slice x.ao x.L.length x.cap), (10, .int .i64 x.at_)])) ((fun x => x.i = cuts.length ∧ x.L.length = x.i ∧ x.at_ ≤ t.length ∧ CutTo t.length x.at_ x.L ∧ Ls enPc 71 (.slice x.ao x.L.length x.cap) x.c x.L)) ((fun x => x.c :: F)) ?_ ?_
  · refine Go.Sl.cw_seq ?_
    refine Go.Sl.cw_region ?_
    refine Go.Sl.ow_val rfl rfl (Go.Sl.v_move rfl) ?_
    refine Go.Sl.ow_val rfl rfl (Go.Sl.v_len rfl Try.underlying57 rfl) ?_
    refine Go.Sl.ow_val rfl rfl (Go.Sl.v_move rfl) ?_
    refine Go.Sl.ow_nil ?_
    refine Go.Sl.xw_then ?_
    refine Go.Sl.cw_block ?_
    refine Go.Sl.cw_loop2 (ι := (Lx)) [(0, _), (1, _), (2, _), (3, _), (8, _), (39, _), (40, _)] ⟨rfl, rfl, rfl, rfl, rfl, rfl, rfl, trivial⟩ ((fun x => [(9, .slice x.ao x.L.length x.cap), (10, .int .i64 x.at_), (41, .int .i64 x.i)])) ((fun x => x.i ≤ cuts.length ∧ x.L.length = x.i ∧ x.at_ ≤ t.length ∧ CutTo t.length x.at_ x.L ∧ Ls enPc 71 (.slice x.ao x.L.length x.cap) x.c x.L)) ((fun x => cuts.length - x.i)) ((fun x => x.c :: F)) ((⟨0, [], 0, none, 0, []⟩ : Lx)) (by repeat (first | exact True.intro | refine And.intro rfl ?_)) (by first | exact Go.Sl.Cov.refl _ | (intro p; simp only [List.flatten_cons, List.flatten_nil, List.flatten_append, List.append_nil, List.nil_append, Go.Sl.cnt_append, Go.Sl.cnt_cons, Go.Sl.cnt_nil, List.set_cons_zero, List.set_cons_succ, List.length_nil, List.length_cons, Nat.zero_add, List.append]; omega)) ?_ ?_
    · exact ⟨Nat.zero_le _, rfl, Nat.zero_le _, ⟨by simp, fun k hk => absurd hk (Nat.not_lt_zero k)⟩, Ls.nil⟩
    rintro ⟨i, L, at_, ao, cap, cl⟩ ⟨hi, hLl, hat, hK, hLs⟩
    dsimp only at hi hLl hat hK hLs ⊢
    refine Go.Sl.cw_seq ?_
    refine Go.Sl.cw_region ?_
    refine Go.Sl.ow_val rfl rfl (Go.Sl.v_lss rfl rfl) ?_
    refine Go.Sl.ow_nil ?_
    refine Go.Sl.xw_then ?_
    refine Go.Sl.cw_seq ?_
    refine Go.Sl.cw_dec rfl (fun hc42 => ?_) (fun hc42 => ?_)
    refine Go.Sl.cw_skip ?_
    refine Go.Sl.xw_then ?_
    rotate_left
    refine Go.Sl.cw_exit ?_
    refine Go.Sl.xw_then_exit ?_
    refine Go.Sl.xw_round_exit ?_
    refine Go.Sl.xw_block_exit ?_
    rotate_left
    · have hi2 : i < cuts.length := by omega
      have hbt := (cuts[i]).toNat_lt
      have htm := tmodB (k := ((cuts[i]).toNat : Int)) (n := 40) (by omega) (by decide)
      obtain ⟨to, hto, hto1, hto2⟩ : ∃ to : Nat, min ((at_ : Int) + ((cuts[i]).toNat : Int).tmod 40) (t.length : Int) = to ∧ at_ ≤ to ∧ to ≤ t.length := ⟨(min ((at_ : Int) + ((cuts[i]).toNat : Int).tmod 40) (t.length : Int)).toNat, by omega, by omega, by omega⟩
      refine Go.Sl.cw_seq ?_
      refine Go.Sl.cw_block ?_
      refine Go.Sl.cw_seq ?_
      refine Go.Sl.cw_region ?_
      refine Go.Sl.ow_val rfl rfl (Go.Sl.v_indexAddr_vw Try.underlying57 (u8Ty) rfl rfl (hC []) rfl (by omega)) ?_
      refine Go.Sl.ow_val rfl rfl (Go.Sl.v_load rfl (Go.Sl.Vw.var (u8Ty) (hC _) (by omega))) ?_
      refine Go.Sl.ow_val rfl rfl (Go.Sl.v_assign rfl) ?_
      refine Go.Sl.ow_nil ?_
      refine Go.Sl.xw_then ?_
      refine Go.Sl.cw_seq ?_
      refine Go.Sl.cw_region ?_
      refine Go.Sl.ow_val rfl rfl (Go.Sl.v_move rfl) ?_
      refine Go.Sl.ow_val rfl rfl (Go.Sl.v_move rfl) ?_
      refine Go.Sl.ow_val rfl rfl (Go.Sl.v_rem rfl rfl (by decide)) ?_
      refine Go.Sl.ow_val rfl rfl (Go.Sl.v_convert Try.underlying5 Try.underlying3 rfl (Go.Sl.nw_i64 (by omega) (by omega))) ?_
      refine Go.Sl.ow_val rfl rfl (Go.Sl.v_add rfl rfl (Go.Sl.nw_i64 (by omega) (by omega))) ?_
      refine Go.Sl.ow_val rfl rfl (Go.Sl.v_move rfl) ?_
      refine Go.Sl.ow_val rfl rfl (Go.Sl.v_len rfl Try.underlying57 rfl) ?_
      refine Go.Sl.ow_val rfl rfl (Go.Sl.v_min rfl rfl) ?_
      refine Go.Sl.ow_val rfl rfl (Go.Sl.v_assign rfl) ?_
      refine Go.Sl.ow_nil ?_
      refine Go.Sl.xw_then ?_
      rw [hto]
      refine Go.Sl.cw_seq ?_
      refine Go.Sl.cw_region ?_
      refine Go.Sl.ow_val rfl rfl (Go.Sl.v_move rfl) ?_
      refine Go.Sl.ow_val rfl rfl (Go.Sl.v_move rfl) ?_
      refine Go.Sl.ow_val rfl rfl (Go.Sl.v_move rfl) ?_
      refine Go.Sl.ow_val rfl rfl (Go.Sl.v_build rfl (b_pc)) ?_
      (refine Go.Sl.ow_buildL (es := [((⟨at_, to⟩ : Pc))]) rfl rfl Try.underlying69 Ty.em69 (pcTy) rfl rfl (by simp [*]) (by simp only [List.length_cons, List.length_nil]; decide) ?_; intro ao57 c57 hL57)
      (refine Go.Sl.ow_appendL rfl rfl Try.underlying69 Try.underlying69 Ty.em69 (pcTy) rfl rfl (by assumption) (by repeat (first | exact Go.Sl.Sel.here | apply Go.Sl.Sel.there)) (Go.Sl.Ls.vw (by assumption) (by repeat (first | exact Go.Sl.Sub.here | assumption | refine Go.Sl.Sub.there ?_))) (by first | omega | (simp only [List.length_append, List.length_take, List.length_drop, List.length_nil, List.length_cons]; omega)) (by first | omega | (simp only [List.length_append, List.length_take, List.length_drop, List.length_nil, List.length_cons]; omega)) ?_; intro ao58 cap58 c58 hL58)
      refine Go.Sl.ow_val rfl rfl (Go.Sl.v_assign rfl) ?_
      refine Go.Sl.ow_nil ?_
      refine Go.Sl.xw_then ?_
      refine Go.Sl.cw_region ?_
      refine Go.Sl.ow_val rfl rfl (Go.Sl.v_move rfl) ?_
      refine Go.Sl.ow_val rfl rfl (Go.Sl.v_assign rfl) ?_
      refine Go.Sl.ow_nil ?_
      refine Go.Sl.xw_block ?_
      refine Go.Sl.xw_then ?_
      refine Go.Sl.cw_region ?_
      refine Go.Sl.ow_val rfl rfl (Go.Sl.v_add rfl rfl (Go.Sl.nw_i64 (by omega) (by omega))) ?_
      refine Go.Sl.ow_val rfl rfl (Go.Sl.v_move rfl) ?_
      refine Go.Sl.ow_nil ?_
      exact xw_round (⟨i + 1, L ++ [⟨at_, to⟩], to, ao58, cap58, c58⟩ : Lx) ⟨by dsimp only; omega, by dsimp only; rw [List.length_append, hLl]; rfl, hto2, hK.add hto1 hto2, hL58⟩ (by dsimp only; omega) (by first | exact Go.Sl.Cov.refl _ | (intro p; simp only [List.flatten_cons, List.flatten_nil, List.flatten_append, List.append_nil, List.nil_append, Go.Sl.cnt_append, Go.Sl.cnt_cons, Go.Sl.cnt_nil, List.set_cons_zero, List.set_cons_succ, List.length_nil, List.length_cons, Nat.zero_add, List.append]; omega)) (by repeat (first | exact True.intro | refine And.intro rfl ?_))
    · exact xw_joint (⟨i, L, at_, ao, cap, cl⟩ : Lx) ⟨by dsimp only; omega, hLl, hat, hK, hLs⟩ (by first | exact Go.Sl.Cov.refl _ | (intro p; simp only [List.flatten_cons, List.flatten_nil, List.flatten_append, List.append_nil, List.nil_append, Go.Sl.cnt_append, Go.Sl.cnt_cons, Go.Sl.cnt_nil, List.set_cons_zero, List.set_cons_succ, List.length_nil, List.length_cons, Nat.zero_add, List.append]; omega)) (by repeat (first | exact True.intro | refine And.intro rfl ?_))
  rintro ⟨i, L, at_, ao, cap, cl⟩ ⟨hi, hLl, hat, hK, hLs⟩
  dsimp only at hi hLl hat hK hLs ⊢
  have hK2 := hK.done hat
  have hL2 : (L ++ [⟨at_, t.length⟩] : List Pc).length ≤ 16 := by rw [List.length_append, hLl, hi]; simp; omega
  have hL3 : 0 < (L ++ [⟨at_, t.length⟩] : List Pc).length := by simp
  refine Go.Sl.cw_seq ?_
  refine Go.Sl.cw_region ?_
  refine Go.Sl.ow_val rfl rfl (Go.Sl.v_move rfl) ?_
  refine Go.Sl.ow_val rfl rfl (Go.Sl.v_move rfl) ?_
  refine Go.Sl.ow_val rfl rfl (Go.Sl.v_move rfl) ?_
  refine Go.Sl.ow_val rfl rfl (Go.Sl.v_len rfl Try.underlying57 rfl) ?_
  refine Go.Sl.ow_val rfl rfl (Go.Sl.v_build rfl (b_pc)) ?_
  (refine Go.Sl.ow_buildL (es := [((⟨at_, t.length⟩ : Pc))]) rfl rfl Try.underlying69 Ty.em69 (pcTy) rfl rfl (by simp [*]) (by simp only [List.length_cons, List.length_nil]; decide) ?_; intro ao66 c66 hL66)
  (refine Go.Sl.ow_appendL rfl rfl Try.underlying69 Try.underlying69 Ty.em69 (pcTy) rfl rfl (by assumption) (by repeat (first | exact Go.Sl.Sel.here | apply Go.Sl.Sel.there)) (Go.Sl.Ls.vw (by assumption) (by repeat (first | exact Go.Sl.Sub.here | assumption | refine Go.Sl.Sub.there ?_))) (by first | omega | (simp only [List.length_append, List.length_take, List.length_drop, List.length_nil, List.length_cons]; omega)) (by first | omega | (simp only [List.length_append, List.length_take, List.length_drop, List.length_nil, List.length_cons]; omega)) ?_; intro ao67 cap67 c67 hL67)
  refine Go.Sl.ow_val rfl rfl (Go.Sl.v_assign rfl) ?_
  refine Go.Sl.ow_nil ?_
  refine Go.Sl.xw_then ?_
  generalize L ++ [⟨at_, t.length⟩] = L1 at *
  refine Go.Sl.cw_cut2 (ι := ((List Pc × Hp))) [(0, _), (1, _), (3, _), (8, _), (9, _)] ⟨rfl, rfl, rfl, rfl, rfl, trivial⟩ ((fun _ => [])) ((fun x => x.1.length = L1.length ∧ Cut t.length x.1 ∧ Ls enPc 71 (.slice ao67 L1.length cap67) x.2 x.1)) ((fun x => x.2 :: F)) ?_ ?_
  · refine Go.Sl.cw_seq ?_
    refine Go.Sl.cw_region ?_
    refine Go.Sl.ow_val rfl rfl (Go.Sl.v_move rfl) ?_
    refine Go.Sl.ow_val rfl rfl (Go.Sl.v_len rfl Try.underlying57 rfl) ?_
    refine Go.Sl.ow_val rfl rfl (Go.Sl.v_move rfl) ?_
    refine Go.Sl.ow_nil ?_
    refine Go.Sl.xw_then ?_
    refine Go.Sl.cw_block ?_
    refine Go.Sl.cw_loop2 (ι := (Sx)) [(0, _), (1, _), (3, _), (8, _), (9, _), (68, _), (69, _)] ⟨rfl, rfl, rfl, rfl, rfl, rfl, rfl, trivial⟩ ((fun x => [(70, .int .i64 x.i)])) ((fun x => x.i ≤ order.length ∧ x.L.length = L1.length ∧ Cut t.length x.L ∧ Ls enPc 71 (.slice ao67 L1.length cap67) x.c x.L)) ((fun x => order.length - x.i)) ((fun x => x.c :: F)) ((⟨L1, 0, c67⟩ : Sx)) (by repeat (first | exact True.intro | refine And.intro rfl ?_)) (by first | exact Go.Sl.Cov.refl _ | (intro p; simp only [List.flatten_cons, List.flatten_nil, List.flatten_append, List.append_nil, List.nil_append, Go.Sl.cnt_append, Go.Sl.cnt_cons, Go.Sl.cnt_nil, List.set_cons_zero, List.set_cons_succ, List.length_nil, List.length_cons, Nat.zero_add, List.append]; omega)) ?_ ?_
    · exact ⟨Nat.zero_le _, rfl, hK2, hL67⟩
    rintro ⟨L, i, cl⟩ ⟨hi, hLl, hK, hLs⟩
    dsimp only at hi hLl hK hLs ⊢
    refine Go.Sl.cw_seq ?_
    refine Go.Sl.cw_region ?_
    refine Go.Sl.ow_val rfl rfl (Go.Sl.v_lss rfl rfl) ?_
    refine Go.Sl.ow_nil ?_
    refine Go.Sl.xw_then ?_
    refine Go.Sl.cw_seq ?_
    refine Go.Sl.cw_dec rfl (fun hc71 => ?_) (fun hc71 => ?_)
    refine Go.Sl.cw_skip ?_
    refine Go.Sl.xw_then ?_
    rotate_left
    refine Go.Sl.cw_exit ?_
    refine Go.Sl.xw_then_exit ?_
    refine Go.Sl.xw_round_exit ?_
    refine Go.Sl.xw_block_exit ?_
    rotate_left
    · have hi2 : i < order.length := by omega
      have hbt := (order[i]).toNat_lt
      have hLL := hLl
      obtain ⟨a, ha, ha2⟩ : ∃ a : Nat, (i : Int).tmod (L1.length : Int) = a ∧ a < L1.length := by
        have h := tmodB (k := (i : Int)) (n := (L1.length : Int)) (by omega) (by omega)
        exact ⟨((i : Int).tmod (L1.length : Int)).toNat, by omega, by omega⟩
      obtain ⟨b, hb, hb2⟩ : ∃ b : Nat, ((order[i].toNat : Nat) : Int).tmod (L1.length : Int) = b ∧ b < L1.length := by
        have h := tmodB (k := ((order[i].toNat : Nat) : Int)) (n := (L1.length : Int)) (by omega) (by omega)
        exact ⟨(((order[i].toNat : Nat) : Int).tmod (L1.length : Int)).toNat, by omega, by omega⟩
      refine Go.Sl.cw_seq ?_
      refine Go.Sl.cw_block ?_
      refine Go.Sl.cw_seq ?_
      refine Go.Sl.cw_region ?_
      refine Go.Sl.ow_val rfl rfl (Go.Sl.v_move rfl) ?_
      refine Go.Sl.ow_val rfl rfl (Go.Sl.v_indexAddr_vw Try.underlying57 (u8Ty) rfl rfl (hO []) rfl (by omega)) ?_
      refine Go.Sl.ow_val rfl rfl (Go.Sl.v_load rfl (Go.Sl.Vw.var (u8Ty) (hO _) (by omega))) ?_
      refine Go.Sl.ow_val rfl rfl (Go.Sl.v_assign rfl) ?_
      refine Go.Sl.ow_val rfl rfl (Go.Sl.v_assign rfl) ?_
      refine Go.Sl.ow_nil ?_
      refine Go.Sl.xw_then ?_
      refine Go.Sl.cw_seq ?_
      refine Go.Sl.cw_region ?_
      refine Go.Sl.ow_val rfl rfl (Go.Sl.v_move rfl) ?_
      refine Go.Sl.ow_val rfl rfl (Go.Sl.v_lss rfl rfl) ?_
      refine Go.Sl.ow_nil ?_
      refine Go.Sl.xw_then ?_
      refine Go.Sl.cw_dec rfl (fun hc76 => ?_) (fun hc76 => ?_)
      refine Go.Sl.cw_seq ?_
      refine Go.Sl.cw_quiet Ty.mixed (by decide +kernel) ?_
      refine Go.Sl.kw_val rfl rfl (Go.Sl.v_move rfl) ?_
      refine Go.Sl.kw_val rfl rfl (Go.Sl.v_move rfl) ?_
      refine Go.Sl.kw_val rfl rfl (Go.Sl.v_len rfl Try.underlying69 rfl) ?_
      refine Go.Sl.kw_val rfl rfl (Go.Sl.v_rem rfl rfl (by omega)) ?_
      refine Go.Sl.kw_val rfl rfl (Go.Sl.v_move rfl) ?_
      refine Go.Sl.kw_val rfl rfl (Go.Sl.v_convert Try.underlying5 Try.underlying3 rfl (Go.Sl.nw_i64 (by omega) (by omega))) ?_
      refine Go.Sl.kw_val rfl rfl (Go.Sl.v_move rfl) ?_
      refine Go.Sl.kw_val rfl rfl (Go.Sl.v_len rfl Try.underlying69 rfl) ?_
      refine Go.Sl.kw_val rfl rfl (Go.Sl.v_rem rfl rfl (by omega)) ?_
      refine Go.Sl.kw_val rfl rfl (Go.Sl.v_assign rfl) ?_
      refine Go.Sl.kw_val rfl rfl (Go.Sl.v_assign rfl) ?_
      refine Go.Sl.kw_nil ?_
      refine Go.Sl.xw_then ?_
      refine Go.Sl.cw_mix [] [13, 14, 15] [0, 1, 2, 3, 4, 5, 6, 7, 8, 9, 10, 11, 12] Ty.mixed rfl rfl rfl rfl (by decide +kernel) ?_
      refine Go.Sl.hw_pure rfl rfl (Go.Sl.v_move rfl) rfl ?_
      refine Go.Sl.hw_pure rfl rfl (Go.Sl.v_move rfl) rfl ?_
      refine Go.Sl.hw_pure rfl rfl (Go.Sl.v_move rfl) rfl ?_
      refine Go.Sl.hw_pure rfl rfl (Go.Sl.v_move rfl) rfl ?_
      refine Go.Sl.hw_pure rfl rfl (Go.Sl.v_move rfl) rfl ?_
      refine Go.Sl.hw_pure rfl rfl (Go.Sl.v_move rfl) rfl ?_
      rotate_left
      refine Go.Sl.cw_skip ?_
      refine Go.Sl.xw_block ?_
      refine Go.Sl.xw_then ?_
      refine Go.Sl.cw_region ?_
      refine Go.Sl.ow_val rfl rfl (Go.Sl.v_add rfl rfl (Go.Sl.nw_i64 (by omega) (by omega))) ?_
      refine Go.Sl.ow_val rfl rfl (Go.Sl.v_move rfl) ?_
      refine Go.Sl.ow_nil ?_
      rotate_left
      · rw [ha, hb]
        refine Go.Sl.hw_pure rfl rfl (Go.Sl.v_indexAddr_ls Try.underlying69 (pcTy) rfl rfl (by assumption) rfl (by omega)) rfl ?_
        refine Go.Sl.hw_read rfl rfl rfl (Go.Sl.v_load rfl (Go.Sl.Vw.var (pcTy) (Go.Sl.Ls.vw (by assumption) (by repeat (first | exact Go.Sl.Sub.here | assumption | refine Go.Sl.Sub.there ?_))) (by omega))) ?_
        refine Go.Sl.hw_pure rfl rfl (Go.Sl.v_move rfl) rfl ?_
        refine Go.Sl.hw_pure rfl rfl (Go.Sl.v_move rfl) rfl ?_
        refine Go.Sl.hw_pure rfl rfl (Go.Sl.v_indexAddr_ls Try.underlying69 (pcTy) rfl rfl (by assumption) rfl (by omega)) rfl ?_
        refine Go.Sl.hw_read rfl rfl rfl (Go.Sl.v_load rfl (Go.Sl.Vw.var (pcTy) (Go.Sl.Ls.vw (by assumption) (by repeat (first | exact Go.Sl.Sub.here | assumption | refine Go.Sl.Sub.there ?_))) (by omega))) ?_
        refine Go.Sl.hw_pure rfl rfl (Go.Sl.v_indexAddr_ls Try.underlying69 (pcTy) rfl rfl (by assumption) rfl (by omega)) rfl ?_
        refine Go.Sl.hw_nil ?_
        refine Go.Sl.sw_nil ?_
        have haL : a < L.length := by omega
        have hbL : b < L.length := by omega
        refine Go.Sl.ow_storeL rfl rfl rfl pcTy hLs (by repeat (first | exact Go.Sl.Sel.here | apply Go.Sl.Sel.there)) haL trivial ?_
        intro c98 hL98
        have hs1 : (L.set a L[b]).length = L.length := List.length_set
        refine Go.Sl.ow_val rfl rfl (Go.Sl.v_indexAddr_ls Try.underlying69 (pcTy) rfl rfl (by assumption) rfl (by omega)) ?_
        refine Go.Sl.ow_storeL rfl rfl rfl pcTy hL98 (by repeat (first | exact Go.Sl.Sel.here | apply Go.Sl.Sel.there)) (by omega) trivial ?_
        intro c99 hL99
        refine Go.Sl.ow_nil ?_
        refine Go.Sl.xw_np ?_
        refine Go.Sl.xw_block ?_
        refine Go.Sl.xw_then ?_
        refine Go.Sl.cw_region ?_
        refine Go.Sl.ow_val rfl rfl (Go.Sl.v_add rfl rfl (Go.Sl.nw_i64 (by omega) (by omega))) ?_
        refine Go.Sl.ow_val rfl rfl (Go.Sl.v_move rfl) ?_
        refine Go.Sl.ow_nil ?_
        exact xw_round (⟨(L.set a L[b]).set b L[a], i + 1, c99⟩ : Sx) ⟨by dsimp only; omega, by dsimp only; rw [List.length_set, hs1]; exact hLl, hK.of_mem (swap_mem haL hbL), hL99⟩ (by dsimp only; omega) (by first | exact Go.Sl.Cov.refl _ | (intro p; simp only [List.flatten_cons, List.flatten_nil, List.flatten_append, List.append_nil, List.nil_append, Go.Sl.cnt_append, Go.Sl.cnt_cons, Go.Sl.cnt_nil, List.set_cons_zero, List.set_cons_succ, List.length_nil, List.length_cons, Nat.zero_add, List.append]; omega)) (by repeat (first | exact True.intro | refine And.intro rfl ?_))
      · exact xw_round (⟨L, i + 1, cl⟩ : Sx) ⟨by dsimp only; omega, hLl, hK, hLs⟩ (by dsimp only; omega) (by first | exact Go.Sl.Cov.refl _ | (intro p; simp only [List.flatten_cons, List.flatten_nil, List.flatten_append, List.append_nil, List.nil_append, Go.Sl.cnt_append, Go.Sl.cnt_cons, Go.Sl.cnt_nil, List.set_cons_zero, List.set_cons_succ, List.length_nil, List.length_cons, Nat.zero_add, List.append]; omega)) (by repeat (first | exact True.intro | refine And.intro rfl ?_))
    · exact xw_joint ((L, cl) : List Pc × Hp) ⟨hLl, hK, hLs⟩ (by first | exact Go.Sl.Cov.refl _ | (intro p; simp only [List.flatten_cons, List.flatten_nil, List.flatten_append, List.append_nil, List.nil_append, Go.Sl.cnt_append, Go.Sl.cnt_cons, Go.Sl.cnt_nil, List.set_cons_zero, List.set_cons_succ, List.length_nil, List.length_cons, Nat.zero_add, List.append]; omega)) (by repeat (first | exact True.intro | refine And.intro rfl ?_))
  rintro ⟨L, cl⟩ ⟨hLl, hK, hLs⟩
  dsimp only at hLl hK hLs ⊢
  refine Go.Sl.cw_seq ?_
  refine Go.Sl.cw_region ?_
  (refine Go.Sl.ow_call rfl rfl rfl rfl (newIn_c) ?_; rintro _ _ ⟨x101, rfl, hq101, rfl⟩)
  refine Go.Sl.ow_val rfl rfl (Go.Sl.v_assign rfl) ?_
  refine Go.Sl.ow_nil ?_
  refine Go.Sl.xw_then ?_
  refine Go.Sl.cw_seq ?_
  refine Go.Sl.cw_region ?_
  refine Go.Sl.ow_val rfl rfl (Go.Sl.v_assign rfl) ?_
  refine Go.Sl.ow_nil ?_
  refine Go.Sl.xw_then ?_
  refine Go.Sl.cw_seq ?_
  refine Go.Sl.cw_region ?_
  refine Go.Sl.ow_val rfl rfl (Go.Sl.v_assign rfl) ?_
  refine Go.Sl.ow_nil ?_
  refine Go.Sl.xw_then ?_
  rw [← hLl] at hLs ⊢
  have hL216 : L.length ≤ 16 := by omega
  have htm3 := tmodB (k := many) (n := 3) hmy.1 (by decide)
  refine Go.Sl.cw_cut2 (ι := ((Hp × Mx))) [(0, _), (1, _), (18, _)] ⟨rfl, rfl, rfl, trivial⟩ ((fun x => [(19, .slice x.2.ao (t.take x.2.m.read.toNat).length x.2.cap), (20, .bool x.2.e)])) ((fun x => x.2.j = (L ++ L).length ∧ Gets t L ((L ++ L).take x.2.j) x.2.m ∧ InAt x.2.m x101.1 x.2.c ∧ Ls enB 5 (.slice x.2.ao (t.take x.2.m.read.toNat).length x.2.cap) x.2.cg (t.take x.2.m.read.toNat))) ((fun x => x.2.c :: x.2.cg :: F)) ?_ ?_
  · refine Go.Sl.cw_seq ?_
    refine Go.Sl.cw_region ?_
    refine Go.Sl.ow_val rfl rfl (Go.Sl.v_move rfl) ?_
    refine Go.Sl.ow_val rfl rfl (Go.Sl.v_move rfl) ?_
    (refine Go.Sl.ow_appendL rfl rfl Try.underlying69 Try.underlying69 Ty.em69 (pcTy) rfl rfl (by assumption) (by repeat (first | exact Go.Sl.Sel.here | apply Go.Sl.Sel.there)) (Ls.vw hLs (by repeat (first | exact Go.Sl.Sub.here | assumption | refine Go.Sl.Sub.there ?_))) (by first | omega | (simp only [List.length_append, List.length_take, List.length_drop, List.length_nil, List.length_cons]; omega)) (by first | omega | (simp only [List.length_append, List.length_take, List.length_drop, List.length_nil, List.length_cons]; omega)) ?_; intro ao104 cap104 c104 hL104)
    refine Go.Sl.ow_val rfl rfl (Go.Sl.v_len rfl Try.underlying69 rfl) ?_
    refine Go.Sl.ow_val rfl rfl (Go.Sl.v_move rfl) ?_
    refine Go.Sl.ow_nil ?_
    refine Go.Sl.xw_then ?_
    refine Go.Sl.cw_block ?_
    have hcap104 : (L ++ L).length ≤ 32 := by rw [List.length_append]; omega
    refine Go.Sl.cw_loop2 (ι := (Mx)) [(0, _), (1, _), (3, _), (18, _), (104, _), (105, _)] ⟨rfl, rfl, rfl, rfl, rfl, rfl, trivial⟩ ((fun x => [(19, .slice x.ao (t.take x.m.read.toNat).length x.cap), (20, .bool x.e), (106, .int .i64 x.j)])) ((fun x => x.j ≤ (L ++ L).length ∧ Gets t L ((L ++ L).take x.j) x.m ∧ InAt x.m x101.1 x.c ∧ Ls enB 5 (.slice x.ao (t.take x.m.read.toNat).length x.cap) x.cg (t.take x.m.read.toNat))) ((fun x => (L ++ L).length - x.j)) ((fun x => x.c :: x.cg :: c104 :: F)) ((⟨0, in0, x101.2, none, 0, [], false⟩ : Mx)) (by repeat (first | exact True.intro | refine And.intro rfl ?_)) (by first | exact Go.Sl.Cov.refl _ | (intro p; simp only [List.flatten_cons, List.flatten_nil, List.flatten_append, List.append_nil, List.nil_append, Go.Sl.cnt_append, Go.Sl.cnt_cons, Go.Sl.cnt_nil, List.set_cons_zero, List.set_cons_succ, List.length_nil, List.length_cons, Nat.zero_add, List.append]; omega)) ?_ ?_
    · exact ⟨Nat.zero_le _, gets0, hq101, Ls.nil⟩
    rintro ⟨j, m, c, ao, cap, cg, e⟩ ⟨hj, hG, hIn, hGot⟩
    dsimp only at hj hG hIn hGot ⊢
    refine Go.Sl.cw_seq ?_
    refine Go.Sl.cw_region ?_
    refine Go.Sl.ow_val rfl rfl (Go.Sl.v_lss rfl rfl) ?_
    refine Go.Sl.ow_nil ?_
    refine Go.Sl.xw_then ?_
    refine Go.Sl.cw_seq ?_
    refine Go.Sl.cw_dec rfl (fun hc107 => ?_) (fun hc107 => ?_)
    refine Go.Sl.cw_skip ?_
    refine Go.Sl.xw_then ?_
    rotate_left
    refine Go.Sl.cw_exit ?_
    refine Go.Sl.xw_then_exit ?_
    refine Go.Sl.xw_round_exit ?_
    refine Go.Sl.xw_block_exit ?_
    rotate_left
    · have hj2 : j < (L ++ L).length := by omega
      have hpL : (L ++ L)[j] ∈ L := by
        have h := List.getElem_mem hj2
        rcases List.mem_append.1 h with h1 | h1 <;> exact h1
      have hpi := hK.inn _ hpL
      have hdone : (L ++ L).take (j + 1) = (L ++ L).take j ++ [(L ++ L)[j]] := List.take_succ_eq_append_getElem hj2
      obtain ⟨hE, hG2⟩ := hG.add ht hL216 hpL hpi
      rw [← hdone] at hG2
      have hdl : ((t.take ((L ++ L)[j]).b).drop ((L ++ L)[j]).a).length = ((L ++ L)[j]).b - ((L ++ L)[j]).a := by rw [List.length_drop, List.length_take]; omega
      refine Go.Sl.cw_seq ?_
      refine Go.Sl.cw_block ?_
      refine Go.Sl.cw_seq ?_
      refine Go.Sl.cw_region ?_
      refine Go.Sl.ow_val rfl rfl (Go.Sl.v_move rfl) ?_
      refine Go.Sl.ow_val rfl rfl (Go.Sl.v_indexAddr_ls Try.underlying69 (pcTy) rfl rfl (by assumption) rfl (by omega)) ?_
      refine Go.Sl.ow_val rfl rfl (Go.Sl.v_load rfl (Go.Sl.Vw.var (pcTy) (Ls.vw (by assumption) (by repeat (first | exact Go.Sl.Sub.here | assumption | refine Go.Sl.Sub.there ?_))) (by omega))) ?_
      (refine Go.Sl.ow_alloc rfl rfl Ty.ze71 ?_; intro b22)
      refine Go.Sl.ow_val rfl rfl (Go.Sl.v_assign rfl) ?_
      refine Go.Sl.ow_storeE rfl (pcTy) rfl rfl .here (by first | rfl | assumption) (okPc _) ?_
      refine Go.Sl.ow_nil ?_
      refine Go.Sl.xw_then ?_
      generalize hpe : (L ++ L)[j] = p at *
      have hdec : decide ((p.b : Int) = (t.length : Int)) = decide (p.b = t.length) := decide_eq_decide.2 (by omega)
      have cA : ∀ {G : List Hp} {R : Hp → List Hp}, Sel G c R → Go.Sl.Fn Try.prog 45 #[.pointer (some ⟨x101.1, 0, none⟩), .int .u64 p.a, .slice (cutA aoT capT p.a 1) (p.b - p.a) (capT - p.a), .bool (decide ((p.b : Int) = (t.length : Int)))] B w0 G fun u G' => ∃ c' : Hp, u = .tuple #[.int .u64 (m.more (p.a + ((t.take p.b).drop p.a).length)), .int .i64 0] ∧ InAt (m.add p.a ((t.take p.b).drop p.a) (decide (p.b = t.length))) x101.1 c' ∧ G' = R c' := fun hs => by
        have h := inAdd_c (B := B) (w0 := w0) (last := decide (p.b = t.length)) (n := p.b - p.a) (a := p.a) hs hIn hG.wf (by omega) (hG.right.agree (by omega) (piece_of hpi)) (fun _ => Vw.sub2 u8Ty (Vw.sub1 u8Ty (hT _) hpi.2) (by rw [List.length_take]; omega))
        rw [hE, if_pos rfl] at h
        rw [hdec]
        exact h
      generalize hm2 : m.add p.a ((t.take p.b).drop p.a) (decide (p.b = t.length)) = m2 at *
      have hr2 : m2.read = m.read := by rw [← hm2]; exact (InM.add_same hE).1
      refine Go.Sl.cw_seq ?_
      refine Go.Sl.cw_mixA [15, 16, 17, 18, 19, 20] [0, 1, 2, 3, 4, 5, 6, 7, 8, 9, 10, 11, 12, 13, 14] ((((((((((((((((Array.replicate 21 false).setIfInBounds 0 true).setIfInBounds 1 true).setIfInBounds 2 true).setIfInBounds 3 true).setIfInBounds 4 true).setIfInBounds 5 true).setIfInBounds 6 true).setIfInBounds 7 true).setIfInBounds 8 true).setIfInBounds 9 true).setIfInBounds 10 true).setIfInBounds 11 true).setIfInBounds 12 true).setIfInBounds 13 true).setIfInBounds 14 true) Ty.mixed rfl rfl (by decide +kernel) rfl ?_
      refine Go.Sl.hwa_pure rfl rfl (Go.Sl.v_move rfl) rfl ?_
      refine Go.Sl.hwa_pure rfl rfl (Go.Sl.v_fieldAddr0 Ty.fd71_0 rfl) rfl ?_
      refine Go.Sl.hwa_read rfl rfl rfl (Go.Sl.v_load rfl (Go.Sl.Var.at1 Ty.sc3 .here (Go.Sl.GetN.lit rfl))) ?_
      refine Go.Sl.hwa_read rfl rfl rfl (Go.Sl.v_convert Try.underlying3 Try.underlying23 rfl (Go.Sl.nw_u64 (by omega) (by omega))) ?_
      refine Go.Sl.hwa_pure rfl rfl (Go.Sl.v_move rfl) rfl ?_
      refine Go.Sl.hwa_pure rfl rfl (Go.Sl.v_fieldAddr0 Ty.fd71_0 rfl) rfl ?_
      refine Go.Sl.hwa_read rfl rfl rfl (Go.Sl.v_load rfl (Go.Sl.Var.at1 Ty.sc3 .here (Go.Sl.GetN.lit rfl))) ?_
      refine Go.Sl.hwa_pure rfl rfl (Go.Sl.v_fieldAddr0 Ty.fd71_1 rfl) rfl ?_
      refine Go.Sl.hwa_read rfl rfl rfl (Go.Sl.v_load rfl (Go.Sl.Var.at1 Ty.sc3 .here (Go.Sl.GetN.lit rfl))) ?_
      refine Go.Sl.hwa_pure rfl rfl (Go.Sl.v_slice_lh Try.underlying57 Ty.el57 rfl rfl rfl rfl rfl (by omega) (by omega)) rfl ?_
      refine Go.Sl.hwa_pure rfl rfl (Go.Sl.v_fieldAddr0 Ty.fd71_1 rfl) rfl ?_
      refine Go.Sl.hwa_read rfl rfl rfl (Go.Sl.v_load rfl (Go.Sl.Var.at1 Ty.sc3 .here (Go.Sl.GetN.lit rfl))) ?_
      refine Go.Sl.hwa_pure rfl rfl (Go.Sl.v_move rfl) rfl ?_
      refine Go.Sl.hwa_pure rfl rfl (Go.Sl.v_len rfl Try.underlying57 rfl) rfl ?_
      refine Go.Sl.hwa_pure rfl rfl (Go.Sl.v_eql rfl rfl) rfl ?_
      refine Go.Sl.hwa_nil ?_
      refine Go.Sl.aw_step1 15 (by decide +kernel) rfl ?_
      (refine Go.Sl.ow_call rfl rfl rfl rfl (cA (by repeat (first | exact Go.Sl.Sel.here | apply Go.Sl.Sel.there))) ?_; rintro _ _ ⟨x127, rfl, hq127, rfl⟩)
      refine Go.Sl.ow_nil ?_
      refine Go.Sl.xw_nx ?_
      refine Go.Sl.aw_pure 16 rfl (by decide +kernel) rfl rfl (Go.Sl.v_move rfl) rfl ?_
      refine Go.Sl.aw_pure 17 rfl (by decide +kernel) rfl rfl (Go.Sl.v_extract rfl rfl) rfl ?_
      refine Go.Sl.aw_pure 18 rfl (by decide +kernel) rfl rfl (Go.Sl.v_extract rfl rfl) rfl ?_
      refine Go.Sl.aw_pure 19 rfl (by decide +kernel) rfl rfl (Go.Sl.v_assign rfl) rfl ?_
      refine Go.Sl.aw_pure 20 rfl (by decide +kernel) rfl rfl (Go.Sl.v_assign rfl) rfl ?_
      refine Go.Sl.aw_end (by decide +kernel) ?_
      refine Go.Sl.xw_np ?_
      refine Go.Sl.xw_then ?_
      refine Go.Sl.cw_seq ?_
      refine Go.Sl.cw_seq ?_
      refine Go.Sl.cw_region ?_
      refine Go.Sl.ow_val rfl rfl (Go.Sl.v_move rfl) ?_
      refine Go.Sl.ow_val rfl rfl (Go.Sl.v_neq rfl rfl) ?_
      refine Go.Sl.ow_nil ?_
      refine Go.Sl.xw_then ?_
      refine Go.Sl.cw_false rfl ?_
      refine Go.Sl.cw_skip ?_
      refine Go.Sl.xw_then ?_
      rw [← hr2] at hGot ⊢
      refine Go.Sl.cw_seq ?_
      refine Go.Sl.cw_region ?_
      refine Go.Sl.ow_val rfl rfl (Go.Sl.v_move rfl) ?_
      refine Go.Sl.ow_val rfl rfl (Go.Sl.v_rem rfl rfl (by decide)) ?_
      refine Go.Sl.ow_val rfl rfl (Go.Sl.v_move rfl) ?_
      refine Go.Sl.ow_val rfl rfl (Go.Sl.v_rem rfl rfl (by decide)) ?_
      refine Go.Sl.ow_val rfl rfl (Go.Sl.v_convert Try.underlying5 Try.underlying3 rfl (Go.Sl.nw_i64 (by omega) (by omega))) ?_
      refine Go.Sl.ow_val rfl rfl (Go.Sl.v_eql rfl rfl) ?_
      refine Go.Sl.ow_nil ?_
      refine Go.Sl.xw_then ?_
      refine Go.Sl.cw_dec rfl (fun hc137 => ?_) (fun hc137 => ?_)
      rotate_left
      refine Go.Sl.cw_skip ?_
      refine Go.Sl.xw_block ?_
      refine Go.Sl.xw_then ?_
      refine Go.Sl.cw_region ?_
      refine Go.Sl.ow_val rfl rfl (Go.Sl.v_add rfl rfl (Go.Sl.nw_i64 (by omega) (by omega))) ?_
      refine Go.Sl.ow_val rfl rfl (Go.Sl.v_move rfl) ?_
      refine Go.Sl.ow_nil ?_
      rotate_left
      · have hmy1 : (m2.many (1 + many) : Int) ≤ m2.ready := by
          have := (InM.ready_spec hG2.wf).1
          unfold InM.many
          omega
        have cR : ∀ {G : List Hp} {R : Hp → List Hp}, Sel G x127 R → Go.Sl.Fn Try.prog 46 #[.pointer (some ⟨x101.1, 0, none⟩), .int .i64 (1 + many)] B w0 G fun u G' => ∃ x : Option Addr × Nat × Hp × Hp, u = .tuple #[.slice x.1 (m2.bytes (m2.many (1 + many))).length x.2.1, .bool (m2.known && decide (m2.read + (m2.many (1 + many) : Int) = m2.final))] ∧ (Ls enB 5 (.slice x.1 (m2.bytes (m2.many (1 + many))).length x.2.1) x.2.2.1 (m2.bytes (m2.many (1 + many))) ∧ InAt (m2.off (m2.many (1 + many))) x101.1 x.2.2.2) ∧ G' = [x.2.2.1] ++ R x.2.2.2 := fun hs => inRead_c (B := B) (w0 := w0) (many := 1 + many) hs hq127 hG2.wf (by omega)
        have hgb := hG2.bytes hmy1
        have hG3 := hG2.off hmy1
        generalize m2.many (1 + many) = n at *
        have hb3 : (m2.bytes n).length = n := InM.bytes_len
        have hrd3 := hG3.wf.rd
        have hrdt := hG3.rd
        have hn300 : n ≤ 300 := by
          have e1 : (m2.off n).read = m2.read + n := rfl
          have := hG2.wf.rd
          omega
        have htl : (t.take m2.read.toNat).length ≤ 300 := by rw [List.length_take]; omega
        refine Go.Sl.cw_seq ?_
        refine Go.Sl.cw_region ?_
        refine Go.Sl.ow_val rfl rfl (Go.Sl.v_move rfl) ?_
        refine Go.Sl.ow_val rfl rfl (Go.Sl.v_move rfl) ?_
        refine Go.Sl.ow_val rfl rfl (Go.Sl.v_convert Try.underlying5 Try.underlying3 rfl (Go.Sl.nw_i64 (by omega) (by omega))) ?_
        refine Go.Sl.ow_val rfl rfl (Go.Sl.v_add rfl rfl (Go.Sl.nw_i64 (by omega) (by omega))) ?_
        (refine Go.Sl.ow_call rfl rfl rfl rfl (cR (by repeat (first | exact Go.Sl.Sel.here | apply Go.Sl.Sel.there))) ?_; rintro _ _ ⟨x143, rfl, hq143, rfl⟩)
        refine Go.Sl.ow_val rfl rfl (Go.Sl.v_move rfl) ?_
        refine Go.Sl.ow_val rfl rfl (Go.Sl.v_extract rfl rfl) ?_
        refine Go.Sl.ow_val rfl rfl (Go.Sl.v_extract rfl rfl) ?_
        refine Go.Sl.ow_val rfl rfl (Go.Sl.v_assign rfl) ?_
        refine Go.Sl.ow_val rfl rfl (Go.Sl.v_assign rfl) ?_
        refine Go.Sl.ow_nil ?_
        refine Go.Sl.xw_then ?_
        obtain ⟨hq143, hO3⟩ := hq143
        refine Go.Sl.cw_seq ?_
        refine Go.Sl.cw_region ?_
        refine Go.Sl.ow_val rfl rfl (Go.Sl.v_move rfl) ?_
        refine Go.Sl.ow_val rfl rfl (Go.Sl.v_move rfl) ?_
        (refine Go.Sl.ow_appendL rfl rfl Try.underlying57 Try.underlying57 Ty.em57 (u8Ty) rfl rfl (by assumption) (by repeat (first | exact Go.Sl.Sel.here | apply Go.Sl.Sel.there)) (Ls.vw hq143 (by repeat (first | exact Go.Sl.Sub.here | assumption | refine Go.Sl.Sub.there ?_))) (by first | omega | (simp only [List.length_append, List.length_take, List.length_drop, List.length_nil, List.length_cons]; omega)) (by first | omega | (simp only [List.length_append, List.length_take, List.length_drop, List.length_nil, List.length_cons]; omega)) ?_; intro ao148 cap148 c148 hL148)
        refine Go.Sl.ow_val rfl rfl (Go.Sl.v_move rfl) ?_
        refine Go.Sl.ow_val rfl rfl (Go.Sl.v_assign rfl) ?_
        refine Go.Sl.ow_val rfl rfl (Go.Sl.v_assign rfl) ?_
        refine Go.Sl.ow_nil ?_
        refine Go.Sl.xw_then ?_
        rw [hgb] at hL148 ⊢
        have hR : (t.take (m2.off n).read.toNat).length = (m2.off n).read.toNat := by rw [List.length_take]; omega
        have hls : m2.known = true → m2.final = t.length := hG2.fin
        have e1 : (m2.off n).read = m2.read + n := rfl
        refine Go.Sl.cw_seq ?_
        refine Go.Sl.cw_quiet Ty.mixed (by decide +kernel) ?_
        refine Go.Sl.kw_val rfl rfl (Go.Sl.v_move rfl) ?_
        refine Go.Sl.kw_val rfl rfl (Go.Sl.v_len rfl Try.underlying57 rfl) ?_
        refine Go.Sl.kw_val rfl rfl (Go.Sl.v_move rfl) ?_
        refine Go.Sl.kw_val rfl rfl (Go.Sl.v_len rfl Try.underlying57 rfl) ?_
        refine Go.Sl.kw_val rfl rfl (Go.Sl.v_gtr rfl rfl) ?_
        refine Go.Sl.kw_val rfl rfl (Go.Sl.v_move rfl) ?_
        refine Go.Sl.kw_dec 155 rfl (fun hc155 => ?_) (fun hc155 => ?_)
        (exfalso; omega)
        refine Go.Sl.kw_val rfl rfl (Go.Sl.v_move rfl) ?_
        refine Go.Sl.kw_val rfl rfl (Go.Sl.v_str Try.underlying9 Try.underlying57 Try.underlying5 rfl (Ls.vw hL148 (by repeat (first | exact Go.Sl.Sub.here | assumption | refine Go.Sl.Sub.there ?_)))) ?_
        refine Go.Sl.kw_val rfl rfl (Go.Sl.v_move rfl) ?_
        refine Go.Sl.kw_val rfl rfl (Go.Sl.v_move rfl) ?_
        refine Go.Sl.kw_val rfl rfl (Go.Sl.v_len rfl Try.underlying57 rfl) ?_
        refine Go.Sl.kw_val rfl rfl (Go.Sl.v_slice_nh Try.underlying57 Ty.el57 rfl rfl rfl (by omega)) ?_
        refine Go.Sl.kw_val rfl rfl (Go.Sl.v_str Try.underlying9 Try.underlying57 Try.underlying5 rfl (Vw.sub1 u8Ty (hT _) (m := (t.take (m2.off n).read.toNat).length) (by omega))) ?_
        refine Go.Sl.kw_val rfl rfl (Go.Sl.v_neqS rfl rfl) ?_
        refine Go.Sl.kw_val rfl rfl (Go.Sl.v_pick_false rfl rfl) ?_
        refine Go.Sl.kw_val rfl rfl (Go.Sl.v_move rfl) ?_
        refine Go.Sl.kw_dec 165 rfl (fun hc165 => ?_) (fun hc165 => ?_)
        refine Go.Sl.kw_skip rfl rfl ?_
        refine Go.Sl.kw_skip rfl rfl ?_
        refine Go.Sl.kw_skip rfl rfl ?_
        refine Go.Sl.kw_skip rfl rfl ?_
        refine Go.Sl.kw_skip rfl rfl ?_
        refine Go.Sl.kw_skip rfl rfl ?_
        refine Go.Sl.kw_skip rfl rfl ?_
        refine Go.Sl.kw_skip rfl rfl ?_
        refine Go.Sl.kw_val rfl rfl (Go.Sl.v_pick_true rfl rfl) ?_
        refine Go.Sl.kw_nil ?_
        refine Go.Sl.xw_then ?_
        refine Go.Sl.cw_true rfl ?_
        refine Go.Sl.cw_seq ?_
        refine Go.Sl.cw_region ?_
        refine Go.Sl.ow_val rfl rfl (Go.Sl.v_assign rfl) ?_
        refine Go.Sl.ow_nil ?_
        refine Go.Sl.xw_then ?_
        refine Go.Sl.cw_ret ?_
        refine Go.Sl.xw_block_ret ?_
        refine Go.Sl.xw_then_ret ?_
        refine Go.Sl.xw_round_ret ?_
        refine Go.Sl.xw_block_ret ?_
        refine Go.Sl.xw_joint_ret ?_
        refine Go.Sl.ret1 rfl (Go.Sl.res_tmp rfl) ?_
        rotate_left
        refine Go.Sl.kw_val rfl rfl (Go.Sl.v_move rfl) ?_
        refine Go.Sl.kw_val rfl rfl (Go.Sl.v_move rfl) ?_
        refine Go.Sl.kw_bool 167 rfl (fun hc167 => ?_) (fun hc167 => ?_)
        refine Go.Sl.kw_val rfl rfl (Go.Sl.v_move rfl) ?_
        refine Go.Sl.kw_val rfl rfl (Go.Sl.v_len rfl Try.underlying57 rfl) ?_
        refine Go.Sl.kw_val rfl rfl (Go.Sl.v_move rfl) ?_
        refine Go.Sl.kw_val rfl rfl (Go.Sl.v_len rfl Try.underlying57 rfl) ?_
        refine Go.Sl.kw_val rfl rfl (Go.Sl.v_lss rfl rfl) ?_
        refine Go.Sl.kw_val rfl rfl (Go.Sl.v_pick_true rfl rfl) ?_
        refine Go.Sl.kw_val rfl rfl (Go.Sl.v_pick_false rfl rfl) ?_
        refine Go.Sl.kw_nil ?_
        refine Go.Sl.xw_then ?_
        refine Go.Sl.cw_dec rfl (fun hc174 => ?_) (fun hc174 => ?_)
        refine Go.Sl.cw_seq ?_
        refine Go.Sl.cw_region ?_
        refine Go.Sl.ow_val rfl rfl (Go.Sl.v_assign rfl) ?_
        refine Go.Sl.ow_nil ?_
        refine Go.Sl.xw_then ?_
        refine Go.Sl.cw_ret ?_
        refine Go.Sl.xw_block_ret ?_
        refine Go.Sl.xw_then_ret ?_
        refine Go.Sl.xw_round_ret ?_
        refine Go.Sl.xw_block_ret ?_
        refine Go.Sl.xw_joint_ret ?_
        refine Go.Sl.ret1 rfl (Go.Sl.res_tmp rfl) ?_
        rotate_left
        refine Go.Sl.cw_skip ?_
        refine Go.Sl.xw_block ?_
        refine Go.Sl.xw_then ?_
        refine Go.Sl.cw_region ?_
        refine Go.Sl.ow_val rfl rfl (Go.Sl.v_add rfl rfl (Go.Sl.nw_i64 (by omega) (by omega))) ?_
        refine Go.Sl.ow_val rfl rfl (Go.Sl.v_move rfl) ?_
        refine Go.Sl.ow_nil ?_
        rotate_left
        refine Go.Sl.kw_skip rfl rfl ?_
        refine Go.Sl.kw_skip rfl rfl ?_
        refine Go.Sl.kw_skip rfl rfl ?_
        refine Go.Sl.kw_skip rfl rfl ?_
        refine Go.Sl.kw_skip rfl rfl ?_
        refine Go.Sl.kw_val rfl rfl (Go.Sl.v_pick_false rfl rfl) ?_
        refine Go.Sl.kw_val rfl rfl (Go.Sl.v_pick_false rfl rfl) ?_
        refine Go.Sl.kw_nil ?_
        refine Go.Sl.xw_then ?_
        refine Go.Sl.cw_false rfl ?_
        refine Go.Sl.cw_skip ?_
        refine Go.Sl.xw_block ?_
        refine Go.Sl.xw_then ?_
        refine Go.Sl.cw_region ?_
        refine Go.Sl.ow_val rfl rfl (Go.Sl.v_add rfl rfl (Go.Sl.nw_i64 (by omega) (by omega))) ?_
        refine Go.Sl.ow_val rfl rfl (Go.Sl.v_move rfl) ?_
        refine Go.Sl.ow_nil ?_
        rotate_left
        · exact absurd (by rw [hR]) hc165
        · exfalso
          obtain ⟨k1, k2⟩ := (Bool.and_eq_true ..).mp hc167
          have k3 := hls k1
          have k4 := of_decide_eq_true k2
          rw [hR] at hc174
          omega
        · exact xw_round (⟨j + 1, m2.off n, x143.2.2.2, ao148, cap148, c148, m2.known && decide (m2.read + (n : Int) = m2.final)⟩ : Mx) ⟨by dsimp only; omega, hG3, hO3, hL148⟩ (by dsimp only; omega) (by first | exact Go.Sl.Cov.refl _ | (intro p; simp only [List.flatten_cons, List.flatten_nil, List.flatten_append, List.append_nil, List.nil_append, Go.Sl.cnt_append, Go.Sl.cnt_cons, Go.Sl.cnt_nil, List.set_cons_zero, List.set_cons_succ, List.length_nil, List.length_cons, Nat.zero_add, List.append]; omega)) (by repeat (first | exact True.intro | refine And.intro rfl ?_))
        · exact xw_round (⟨j + 1, m2.off n, x143.2.2.2, ao148, cap148, c148, m2.known && decide (m2.read + (n : Int) = m2.final)⟩ : Mx) ⟨by dsimp only; omega, hG3, hO3, hL148⟩ (by dsimp only; omega) (by first | exact Go.Sl.Cov.refl _ | (intro p; simp only [List.flatten_cons, List.flatten_nil, List.flatten_append, List.append_nil, List.nil_append, Go.Sl.cnt_append, Go.Sl.cnt_cons, Go.Sl.cnt_nil, List.set_cons_zero, List.set_cons_succ, List.length_nil, List.length_cons, Nat.zero_add, List.append]; omega)) (by repeat (first | exact True.intro | refine And.intro rfl ?_))
      · exact xw_round (⟨j + 1, m2, x127, ao, cap, cg, e⟩ : Mx) ⟨by dsimp only; omega, hG2, hq127, hGot⟩ (by dsimp only; omega) (by first | exact Go.Sl.Cov.refl _ | (intro p; simp only [List.flatten_cons, List.flatten_nil, List.flatten_append, List.append_nil, List.nil_append, Go.Sl.cnt_append, Go.Sl.cnt_cons, Go.Sl.cnt_nil, List.set_cons_zero, List.set_cons_succ, List.length_nil, List.length_cons, Nat.zero_add, List.append]; omega)) (by repeat (first | exact True.intro | refine And.intro rfl ?_))
    · exact xw_joint ((c104, ⟨j, m, c, ao, cap, cg, e⟩) : Hp × Mx) ⟨by dsimp only; omega, hG, hIn, hGot⟩ (by first | exact Go.Sl.Cov.refl _ | (intro p; simp only [List.flatten_cons, List.flatten_nil, List.flatten_append, List.append_nil, List.nil_append, Go.Sl.cnt_append, Go.Sl.cnt_cons, Go.Sl.cnt_nil, List.set_cons_zero, List.set_cons_succ, List.length_nil, List.length_cons, Nat.zero_add, List.append]; omega)) (by repeat (first | exact True.intro | refine And.intro rfl ?_))
  rintro ⟨cl2, j, m, c, ao, cap, cg, e⟩ ⟨hj, hG, hIn, hGot⟩
  dsimp only at hj hG hIn hGot ⊢
  rw [hj, List.take_length] at hG
  obtain ⟨hk, hfin, hry⟩ := hG.whole hK fun p hp => List.mem_append_left _ hp
  have hrd := hG.wf.rd
  have hrdt := hG.rd
  have cW : ∀ {G : List Hp}, Go.Sl.Sub c G → Go.Sl.Fn Try.prog 47 #[.pointer (some ⟨x101.1, 0, none⟩)] B w0 G fun u G' => u = .bool true ∧ G' = G := fun hs => by
    have h := inWhole_c (B := B) (w0 := w0) hIn hs hG.wf (by omega)
    rw [hk, hfin, Bool.true_and, decide_eq_true (by omega)] at h
    exact h
  have hmn : m.many 1000 = t.length - m.read.toNat := by unfold InM.many; omega
  have hby := hG.bytes (n := t.length - m.read.toNat) (by omega)
  have hbl : (m.bytes (t.length - m.read.toNat)).length = t.length - m.read.toNat := InM.bytes_len
  have hall : t.take (m.off (t.length - m.read.toNat)).read.toNat = t := List.take_of_length_le (by show t.length ≤ (m.read + ((t.length - m.read.toNat : Nat) : Int)).toNat; omega)
  rw [hall] at hby
  have htl : (t.take m.read.toNat).length ≤ 300 := by rw [List.length_take]; omega
  have cR : ∀ {G : List Hp} {R : Hp → List Hp}, Sel G c R → Go.Sl.Fn Try.prog 46 #[.pointer (some ⟨x101.1, 0, none⟩), .int .i64 1000] B w0 G fun u G' => ∃ x : Option Addr × Nat × Hp × Hp, u = .tuple #[.slice x.1 (m.bytes (t.length - m.read.toNat)).length x.2.1, .bool true] ∧ (Ls enB 5 (.slice x.1 (m.bytes (t.length - m.read.toNat)).length x.2.1) x.2.2.1 (m.bytes (t.length - m.read.toNat)) ∧ InAt (m.off (t.length - m.read.toNat)) x101.1 x.2.2.2) ∧ G' = [x.2.2.1] ++ R x.2.2.2 := fun hs => by
    have h := inRead_c (B := B) (w0 := w0) (many := 1000) hs hIn hG.wf (by decide)
    rw [hmn, hk, hfin, Bool.true_and, decide_eq_true (by omega)] at h
    exact h
  refine Go.Sl.cw_seq ?_
  refine Go.Sl.cw_seq ?_
  refine Go.Sl.cw_region ?_
  refine Go.Sl.ow_val rfl rfl (Go.Sl.v_move rfl) ?_
  refine Go.Sl.ow_val rfl rfl (Go.Sl.v_call rfl rfl (cW (by repeat (first | exact Go.Sl.Sub.here | assumption | refine Go.Sl.Sub.there ?_)))) ?_
  refine Go.Sl.ow_val rfl rfl (Go.Sl.v_not_true rfl) ?_
  refine Go.Sl.ow_nil ?_
  refine Go.Sl.xw_then ?_
  refine Go.Sl.cw_false rfl ?_
  refine Go.Sl.cw_skip ?_
  refine Go.Sl.xw_then ?_
  refine Go.Sl.cw_seq ?_
  refine Go.Sl.cw_region ?_
  refine Go.Sl.ow_val rfl rfl (Go.Sl.v_move rfl) ?_
  (refine Go.Sl.ow_call rfl rfl rfl rfl (cR (by repeat (first | exact Go.Sl.Sel.here | apply Go.Sl.Sel.there))) ?_; rintro _ _ ⟨x181, rfl, hq181, rfl⟩)
  refine Go.Sl.ow_val rfl rfl (Go.Sl.v_move rfl) ?_
  refine Go.Sl.ow_val rfl rfl (Go.Sl.v_extract rfl rfl) ?_
  refine Go.Sl.ow_val rfl rfl (Go.Sl.v_extract rfl rfl) ?_
  refine Go.Sl.ow_val rfl rfl (Go.Sl.v_assign rfl) ?_
  refine Go.Sl.ow_val rfl rfl (Go.Sl.v_assign rfl) ?_
  refine Go.Sl.ow_nil ?_
  refine Go.Sl.xw_then ?_
  obtain ⟨hq181, hO3⟩ := hq181
  refine Go.Sl.cw_seq ?_
  refine Go.Sl.cw_region ?_
  refine Go.Sl.ow_val rfl rfl (Go.Sl.v_move rfl) ?_
  refine Go.Sl.ow_val rfl rfl (Go.Sl.v_move rfl) ?_
  (refine Go.Sl.ow_appendL rfl rfl Try.underlying57 Try.underlying57 Ty.em57 (u8Ty) rfl rfl (by assumption) (by repeat (first | exact Go.Sl.Sel.here | apply Go.Sl.Sel.there)) (Ls.vw hq181 (by repeat (first | exact Go.Sl.Sub.here | assumption | refine Go.Sl.Sub.there ?_))) (by first | omega | (simp only [List.length_append, List.length_take, List.length_drop, List.length_nil, List.length_cons]; omega)) (by first | omega | (simp only [List.length_append, List.length_take, List.length_drop, List.length_nil, List.length_cons]; omega)) ?_; intro ao186 cap186 c186 hL186)
  refine Go.Sl.ow_val rfl rfl (Go.Sl.v_assign rfl) ?_
  refine Go.Sl.ow_nil ?_
  refine Go.Sl.xw_then ?_
  rw [hby] at hL186 ⊢
  refine Go.Sl.cw_seq ?_
  refine Go.Sl.cw_region ?_
  refine Go.Sl.ow_val rfl rfl (Go.Sl.v_move rfl) ?_
  refine Go.Sl.ow_val rfl rfl (Go.Sl.v_move rfl) ?_
  refine Go.Sl.ow_skip rfl rfl ?_
  refine Go.Sl.ow_val rfl rfl (Go.Sl.v_pick_true rfl rfl) ?_
  refine Go.Sl.ow_val rfl rfl (Go.Sl.v_move rfl) ?_
  refine Go.Sl.ow_val rfl rfl (Go.Sl.v_move rfl) ?_
  refine Go.Sl.ow_val rfl rfl (Go.Sl.v_pick_true rfl rfl) ?_
  refine Go.Sl.ow_val rfl rfl (Go.Sl.v_move rfl) ?_
  refine Go.Sl.ow_val rfl rfl (Go.Sl.v_move rfl) ?_
  refine Go.Sl.ow_val rfl rfl (Go.Sl.v_str Try.underlying9 Try.underlying57 Try.underlying5 rfl (Ls.vw hL186 (by repeat (first | exact Go.Sl.Sub.here | assumption | refine Go.Sl.Sub.there ?_)))) ?_
  refine Go.Sl.ow_val rfl rfl (Go.Sl.v_move rfl) ?_
  refine Go.Sl.ow_val rfl rfl (Go.Sl.v_str Try.underlying9 Try.underlying57 Try.underlying5 rfl (hT _)) ?_
  refine Go.Sl.ow_val rfl rfl (Go.Sl.v_eqlS rfl rfl) ?_
  refine Go.Sl.ow_val rfl rfl (Go.Sl.v_pick_true rfl rfl) ?_
  refine Go.Sl.ow_val rfl rfl (Go.Sl.v_assign rfl) ?_
  refine Go.Sl.ow_nil ?_
  refine Go.Sl.xw_then ?_
  refine Go.Sl.cw_ret ?_
  refine Go.Sl.ret1 rfl (Go.Sl.res_tmp rfl) ?_
  exact done0 (congrArg Value.bool (decide_eq_true rfl)) (by first | exact Go.Sl.Cov.refl _ | (intro p; simp only [List.flatten_cons, List.flatten_nil, List.flatten_append, List.append_nil, List.nil_append, Go.Sl.cnt_append, Go.Sl.cnt_cons, Go.Sl.cnt_nil, List.set_cons_zero, List.set_cons_succ, List.length_nil, List.length_cons, Nat.zero_add, List.append]; omega))

theorem walk {H : Type} {enc : TypeId × Value → H} (W : World) (base : Nat) (args : Array Value) (ds : List (DataW H)) (p : List MemPlace)
    (hval : ∀ (j : Nat) t v, Try.f8.params[j]? = some t → args[j]? = some v → Value.okWide Try.prog W .any base t v)
    (hA : DataW.TrodAll enc Try.prog W 0 (fun _ => true) true Try.f8.params.toList args.toList ds p) :
    Calls Try.prog 8 args W fun e w' => e = .returned (.bool true) ∧ Below W.heap.size W w' := by
  rw [Try.params8] at hA hval
  obtain ⟨v0, vs0, d0, ds0, p0, q0, hargs, rfl, rfl, h0, r0⟩ := trodAll_cons hA
  obtain ⟨v1, vs1, d1, ds1, p1, q1, rfl, rfl, rfl, h1, r1⟩ := trodAll_cons r0
  obtain ⟨v2, vs2, d2, ds2, p2, q2, rfl, rfl, rfl, h2, r2⟩ := trodAll_cons r1
  obtain ⟨v3, vs3, d3, ds3, p3, q3, rfl, rfl, rfl, h3, r3⟩ := trodAll_cons r2
  obtain ⟨rfl, rfl, rfl⟩ := trodAll_nil r3
  obtain rfl : args = #[v0, v1, v2, v3] := by cases args; simp_all
  obtain ⟨t, aoT, capT, rfl, hl, hct, hT⟩ := open_bytes (hval 0 57 v0 rfl rfl) h0
  obtain ⟨cs, aoC, capC, rfl, hlc, _, hC⟩ := open_bytes (hval 1 57 v1 rfl rfl) h1
  obtain ⟨os, aoO, capO, rfl, hlo, _, hO⟩ := open_bytes (hval 2 57 v2 rfl rfl) h2
  obtain ⟨n3, rfl, w3⟩ := open_u8 (hval 3 5 v3 rfl rfl) h3
  exact (law w3 hct hl hlc hlo hT hC hO []).call

theorem own : ownKnob Try.prog.godebug = none := by kernel_rfl
theorem laidOut : laidOutB Try.prog = true := by kernel_rfl
theorem reads : ∀ t ∈ Try.f8.params.toList, Try.prog.readableRec t = true ∧ t < Try.prog.types.size := by
  rw [Try.params8]
  intro t ht
  simp only [List.mem_cons, List.not_mem_nil, or_false] at ht
  rcases ht with rfl | rfl | rfl | rfl
  · exact ⟨by kernel_rfl, of_decide_eq_true (by kernel_rfl)⟩
  · exact ⟨by kernel_rfl, of_decide_eq_true (by kernel_rfl)⟩
  · exact ⟨by kernel_rfl, of_decide_eq_true (by kernel_rfl)⟩
  · exact ⟨by kernel_rfl, of_decide_eq_true (by kernel_rfl)⟩

set_option maxRecDepth 100000 in
theorem lifted (os : Os) (started : os.Started) (H : Type) (enc : TypeId × Value → H) :
    ReturnsInHanded {} Try.checked os 8 .any (Rows.inbufWholeSpec.pre6 enc Try.prog Try.f8 Rows.inbufWholeRow.domain false) (Rows.inbufWholeSpec.post enc Try.prog Try.f8 false true false false) := by
  refine returnsInHanded_of_change (C := Try.checked) own started (by kernel_rfl) Try.func8
    (ChangeSpec.witness6 (enc := enc) (C := Try.checked) false ⟨#[], #[.slice none 0 0, .slice none 0 0, .slice none 0 0, .int .u8 0], []⟩ 8 (by kernel_rfl) (by kernel_rfl) (by kernel_rfl) (by kernel_rfl)) ?_
  intro W base args ds gs before hval hW _ _
  have hW' := hW
  obtain ⟨p, q, hA0, hV, rfl, _, _⟩ := hW
  obtain ⟨rfl, rfl⟩ := trodVars_none hV
  have hA : DataW.TrodAll enc Try.prog W 0 (fun _ => true) true Try.f8.params.toList args.toList ds p := hA0
  have hlen := trodAll_len hA
  refine (walk W base args ds p hval hA).mono fun e W' ⟨he, bel⟩ => ?_
  subst he
  rw [Try.params8] at hlen
  match ds, hlen.2, hA, hW' with
  | [d0, d1, d2, d3], _, hA, hW' => exact ⟨_, rfl, _, _, _, [], _, [], hW', trodAll_mk1 (shut_bool Try.underlying4 _), trodAll_stays laidOut bel reads hA, rfl, bel.frame _, fun h => by cases h⟩

theorem over : Rows.inbufWholeRow.holds Try.pinned (OpenSpec.ofChange Rows.inbufWholeSpec) :=
  OpenClaim.holds_of_wide 8 Try.f8 rfl rfl rfl rfl rfl rfl rfl ⟨rfl, rfl, rfl, rfl, rfl⟩ rfl rfl rfl rfl rfl (by kernel_rfl) Try.func8 (by kernel_rfl)
    (of_decide_eq_true (by kernel_rfl)) (by unfold Func.isWrapper; first | (rw [if_pos (by decide +kernel)]; kernel_rfl) | (rw [if_neg (by decide +kernel)]; exact ⟨rfl, rfl⟩))
    (fun os started H enc _ => lifted os started H enc)

theorem proved : Rows.InbufWholeSaid := over

end Go.Proofs.Ytbpnnkkbaakdjaa.lawInbufWhole
