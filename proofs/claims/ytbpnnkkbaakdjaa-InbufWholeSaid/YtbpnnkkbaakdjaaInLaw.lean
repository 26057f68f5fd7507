/- The laws of package inbuf: their fixed fact; buffers of one text. Conditions: none. -/
import Derived.Test.YtbpnnkkbaakdjaaInRead
import Derived.Test.YtbpnnkkbaakdjaaForm
namespace Go.Proofs.Ytbpnnkkbaakdjaa
open Go Go.Sl Go.Proofs
set_option maxRecDepth 20000
set_option linter.unusedVariables false
set_option linter.unusedSimpArgs false

/-! ### One text -/
/-- what is there is as it stands in the text -/
def InM.Right (m : InM) (X : List UInt8) : Prop := ∀ k b, m.f k = some b → 0 ≤ k ∧ X[k.toNat]? = some b
/-- bytes are a piece of the text -/
def Piece (X : List UInt8) (a : Int) (d : List UInt8) : Prop := ∀ j (h : j < d.length), X[(a + j).toNat]? = some d[j]
theorem InM.Right.agree {m : InM} {X : List UInt8} {a : Int} {d : List UInt8} (h : m.Right X) (ha : 0 ≤ a) (hd : Piece X a d) : m.Agree (max a m.read) (m.fresh a d) := fun j hj => by
  have hl : (m.fresh a d).length = d.length - (max a m.read - a).toNat := List.length_drop ..
  cases hf : m.f (max a m.read + j) with
  | none => exact .inl rfl
  | some b =>
    right
    have h1 := (h _ _ hf).2
    have h2 := hd ((max a m.read - a).toNat + j) (by omega)
    have h3 : (a + (((max a m.read - a).toNat + j : Nat) : Int)).toNat = (max a m.read + j).toNat := by congr 1; omega
    rw [h3, h1] at h2
    rw [h2]
    exact congrArg some (List.getElem_drop (xs := d) (i := (max a m.read - a).toNat) (h := by unfold InM.fresh at hj; exact hj)).symm
theorem InM.Right.add {m : InM} {X : List UInt8} {a : Int} {d : List UInt8} {last : Bool} (h : m.Right X) (ha : 0 ≤ a) (hd : Piece X a d) : (m.add a d last).Right X := by
  by_cases h0 : m.addE a d last = 0
  · have h0' := h0
    unfold InM.addE at h0'
    split at h0'
    · cases h0'
    rename_i hb
    split at h0'
    · cases h0'
    rename_i hfl
    intro k b hk
    rw [InM.add_mem ha h0 hb hfl] at hk
    split at hk
    · rename_i h1
      have h2 : (k - a).toNat < d.length := by omega
      rw [List.getElem?_eq_getElem h2] at hk
      have h3 := hd _ h2
      have h4 : (a + (((k - a).toNat : Nat) : Int)).toNat = k.toNat := by congr 1; omega
      rw [h4] at h3
      exact ⟨by omega, h3.trans hk⟩
    · exact h k b hk
  · rw [show m.add a d last = m from if_neg h0]
    exact h
theorem InM.Right.off {m : InM} {X : List UInt8} {n : Nat} (h : m.Right X) : (m.off n).Right X := fun k b hk => by
  have h1 : gone m.f m.read n k = some b := hk
  unfold gone at h1
  split at h1
  · cases h1
  · exact h k b h1
theorem InM.Right.bytes {m : InM} {X : List UInt8} {n : Nat} (h : m.Right X) (hw : m.WF) (hn : (n : Int) ≤ m.ready) : m.bytes n = (X.drop m.read.toNat).take n := by
  obtain ⟨r1, r2, r3⟩ := InM.ready_spec hw
  have hrd := hw.rd
  have hb : ∀ i : Nat, i < n → ∃ b, m.f (m.read + i) = some b ∧ X[m.read.toNat + i]? = some b := fun i hi => by
    have h1 := (hw.mem _).1 (r2 (m.read + i) (by omega) (by omega))
    obtain ⟨b, hb⟩ := Option.isSome_iff_exists.1 h1
    refine ⟨b, hb, ?_⟩
    have h2 := (h _ _ hb).2
    rw [← h2]
    congr 1
    omega
  refine List.ext_getElem? fun i => ?_
  by_cases hi : i < n
  · obtain ⟨b, h1, h2⟩ := hb i hi
    rw [List.getElem?_take_of_lt hi, List.getElem?_drop, h2]
    unfold InM.bytes
    rw [List.getElem?_map, List.getElem?_range hi]
    simp [h1]
  · rw [List.getElem?_eq_none (by rw [InM.bytes_len]; omega), List.getElem?_eq_none (by rw [List.length_take]; omega)]

/-! ### The fixed fact -/
def inA : InM := in0.add 2 [99, 100] false
def inB : InM := inA.add 0 [97, 98] false
theorem awI1 : in0.addE 2 [99, 100] false = 0 := by decide
theorem awI2 : inA.addE 0 [97, 98] false = 0 := by decide
theorem awI3 : in0.Agree (max 2 in0.read) (in0.fresh 2 [99, 100]) := fun _ _ => .inl rfl
theorem inA_wf : inA.WF := InM.add_wf in0_wf (by decide)
theorem inB_wf : inB.WF := InM.add_wf inA_wf (by decide)
theorem abcd1 : Piece [97, 98, 99, 100] 2 [99, 100] := fun j h => by
  match j, h with
  | 0, _ => rfl
  | 1, _ => rfl
theorem abcd2 : Piece [97, 98, 99, 100] 0 [97, 98] := fun j h => by
  match j, h with
  | 0, _ => rfl
  | 1, _ => rfl
theorem in0_right (X : List UInt8) : in0.Right X := fun k b h => by cases h
theorem awI4 : inA.Agree (max 0 inA.read) (inA.fresh 0 [97, 98]) := InM.Right.agree (InM.Right.add (in0_right _) (by decide) abcd1) (by decide) abcd2
theorem awI5 : inB.ready = 4 := by decide
theorem inAwake_c {B : Nat} {w0 : World} {G : List Hp} :
    Go.Sl.Fn Try.prog 43 #[] B w0 G fun u G' => u = .bool true ∧ G' = G := by
  refine Fn.pure ?_
  have a1 : ∀ {G : List Hp} {R : Hp → List Hp} {b : Nat} {c : Hp} {ao : Option Addr} {n cap : Nat}, InAt in0 b c → Sel G c R → (∀ c', Vw enB (St B w0 (R c')) (.slice ao n cap) [99, 100]) → Go.Sl.Fn Try.prog 45 #[.pointer (some ⟨b, 0, none⟩), .int .u64 2, .slice ao n cap, .bool false] B w0 G fun u G' => ∃ c' : Hp, u = .tuple #[.int .u64 4, .int .i64 0] ∧ InAt inA b c' ∧ G' = R c' := fun hO hs hV => by
    have h := inAdd_c (B := B) (w0 := w0) (last := false) hs hO in0_wf (by decide) awI3 hV
    rw [awI1] at h
    exact h
  have a2 : ∀ {G : List Hp} {R : Hp → List Hp} {b : Nat} {c : Hp} {ao : Option Addr} {n cap : Nat}, InAt inA b c → Sel G c R → (∀ c', Vw enB (St B w0 (R c')) (.slice ao n cap) [97, 98]) → Go.Sl.Fn Try.prog 45 #[.pointer (some ⟨b, 0, none⟩), .int .u64 0, .slice ao n cap, .bool false] B w0 G fun u G' => ∃ c' : Hp, u = .tuple #[.int .u64 0, .int .i64 0] ∧ InAt inB b c' ∧ G' = R c' := fun hO hs hV => by
    have h := inAdd_c (B := B) (w0 := w0) (last := false) hs hO inA_wf (by decide) awI4 hV
    rw [awI2] at h
    exact h
  have a3 : ∀ {G : List Hp} {b : Nat} {c : Hp}, InAt inB b c → Sub c G → Go.Sl.Fn Try.prog 59 #[.pointer (some ⟨b, 0, none⟩)] B w0 G fun u G' => u = .int .u64 4 ∧ G' = G := fun hO hs => by
    have h := inReady_c (B := B) (w0 := w0) hO hs inB_wf
    rw [awI5] at h
    exact h
  refine fn_enter Try.func43 rfl (by kernel_rfl) Try.ntmps43 (by simp) ?_
  refine Go.Sl.cw_seq ?_
  refine Go.Sl.cw_region ?_
  refine Go.Sl.ow_val rfl rfl (Go.Sl.v_assign rfl) ?_
  refine Go.Sl.ow_nil ?_
  refine Go.Sl.xw_then ?_
  refine Go.Sl.cw_seq ?_
  refine Go.Sl.cw_region ?_
  (refine Go.Sl.ow_call rfl rfl rfl rfl (newIn_c) ?_; rintro _ _ ⟨x6, rfl, hq6, rfl⟩)
  refine Go.Sl.ow_val rfl rfl (Go.Sl.v_assign rfl) ?_
  refine Go.Sl.ow_nil ?_
  refine Go.Sl.xw_then ?_
  refine Go.Sl.cw_seq ?_
  refine Go.Sl.cw_region ?_
  refine Go.Sl.ow_val rfl rfl (Go.Sl.v_move rfl) ?_
  (refine Go.Sl.ow_buildL (es := ([(99 : Int), 100])) rfl rfl Try.underlying57 Ty.em57 (iTy) rfl rfl (by simp [*]) (by simp only [List.length_cons, List.length_nil]; decide) ?_; intro ao9 c9 hL9)
  (refine ow_mark rfl rfl Try.underlying57 Try.underlying5 rfl (by assumption) (by simp) (by repeat (first | exact Go.Sl.Sel.here | apply Go.Sl.Sel.there)) ?_; intro c10 hr10)
  (refine Go.Sl.ow_call rfl rfl rfl rfl (a1 (by assumption) (by repeat (first | exact Go.Sl.Sel.here | apply Go.Sl.Sel.there)) (fun c' => Vw.bytes (l := [99, 100]) (Rd.vw (by assumption) (by repeat (first | exact Go.Sl.Sub.here | assumption | refine Go.Sl.Sub.there ?_))))) ?_; rintro _ _ ⟨x11, rfl, hq11, rfl⟩)
  refine Go.Sl.ow_val rfl rfl (Go.Sl.v_move rfl) ?_
  refine Go.Sl.ow_val rfl rfl (Go.Sl.v_extract rfl rfl) ?_
  refine Go.Sl.ow_val rfl rfl (Go.Sl.v_extract rfl rfl) ?_
  refine Go.Sl.ow_val rfl rfl (Go.Sl.v_assign rfl) ?_
  refine Go.Sl.ow_val rfl rfl (Go.Sl.v_assign rfl) ?_
  refine Go.Sl.ow_nil ?_
  refine Go.Sl.xw_then ?_
  refine Go.Sl.cw_seq ?_
  refine Go.Sl.cw_region ?_
  refine Go.Sl.ow_val rfl rfl (Go.Sl.v_move rfl) ?_
  (refine Go.Sl.ow_buildL (es := ([(97 : Int), 98])) rfl rfl Try.underlying57 Ty.em57 (iTy) rfl rfl (by simp [*]) (by simp only [List.length_cons, List.length_nil]; decide) ?_; intro ao16 c16 hL16)
  (refine ow_mark rfl rfl Try.underlying57 Try.underlying5 rfl (by assumption) (by simp) (by repeat (first | exact Go.Sl.Sel.here | apply Go.Sl.Sel.there)) ?_; intro c17 hr17)
  (refine Go.Sl.ow_call rfl rfl rfl rfl (a2 (by assumption) (by repeat (first | exact Go.Sl.Sel.here | apply Go.Sl.Sel.there)) (fun c' => Vw.bytes (l := [97, 98]) (Rd.vw (by assumption) (by repeat (first | exact Go.Sl.Sub.here | assumption | refine Go.Sl.Sub.there ?_))))) ?_; rintro _ _ ⟨x18, rfl, hq18, rfl⟩)
  refine Go.Sl.ow_val rfl rfl (Go.Sl.v_move rfl) ?_
  refine Go.Sl.ow_val rfl rfl (Go.Sl.v_extract rfl rfl) ?_
  refine Go.Sl.ow_val rfl rfl (Go.Sl.v_extract rfl rfl) ?_
  refine Go.Sl.ow_val rfl rfl (Go.Sl.v_assign rfl) ?_
  refine Go.Sl.ow_val rfl rfl (Go.Sl.v_assign rfl) ?_
  refine Go.Sl.ow_nil ?_
  refine Go.Sl.xw_then ?_
  refine Go.Sl.cw_seq ?_
  refine Go.Sl.cw_region ?_
  refine Go.Sl.ow_val rfl rfl (Go.Sl.v_move rfl) ?_
  refine Go.Sl.ow_val rfl rfl (Go.Sl.v_eql rfl rfl) ?_
  refine Go.Sl.ow_val rfl rfl (Go.Sl.v_move rfl) ?_
  refine Go.Sl.ow_dec 23 rfl (fun hc23 => ?_) (fun hc23 => ?_)
  rotate_left; (exfalso; omega); rotate_right
  refine Go.Sl.ow_val rfl rfl (Go.Sl.v_move rfl) ?_
  refine Go.Sl.ow_val rfl rfl (Go.Sl.v_eql rfl rfl) ?_
  refine Go.Sl.ow_val rfl rfl (Go.Sl.v_pick_true rfl rfl) ?_
  refine Go.Sl.ow_val rfl rfl (Go.Sl.v_move rfl) ?_
  refine Go.Sl.ow_dec 27 rfl (fun hc27 => ?_) (fun hc27 => ?_)
  rotate_left; (exfalso; omega); rotate_right
  refine Go.Sl.ow_val rfl rfl (Go.Sl.v_move rfl) ?_
  refine Go.Sl.ow_val rfl rfl (Go.Sl.v_call rfl rfl (a3 (by assumption) (by repeat (first | exact Go.Sl.Sub.here | assumption | refine Go.Sl.Sub.there ?_)))) ?_
  refine Go.Sl.ow_val rfl rfl (Go.Sl.v_eql rfl rfl) ?_
  refine Go.Sl.ow_val rfl rfl (Go.Sl.v_pick_true rfl rfl) ?_
  refine Go.Sl.ow_val rfl rfl (Go.Sl.v_assign rfl) ?_
  refine Go.Sl.ow_nil ?_
  refine Go.Sl.xw_then ?_
  refine Go.Sl.cw_ret ?_
  refine Go.Sl.ret1 rfl (Go.Sl.res_tmp rfl) ?_
  exact ⟨rfl, (by first | exact Go.Sl.Cov.refl _ | (intro p; simp only [List.flatten_cons, List.flatten_nil, List.flatten_append, List.append_nil, List.nil_append, Go.Sl.cnt_append, Go.Sl.cnt_cons, Go.Sl.cnt_nil, List.set_cons_zero, List.set_cons_succ, List.length_nil, List.length_cons, Nat.zero_add, List.append]; omega))⟩
end Go.Proofs.Ytbpnnkkbaakdjaa
