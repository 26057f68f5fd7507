/- What takes a frame's id, its fields, each as a contract. Conditions: numbers fit their types; not more than a hundred million bytes. -/
import Derived.Test.YtckdhelnafjddaaFrR2
namespace Go.Proofs.Ytckdhelnafjddaa
open Go Go.Sl Go.Proofs Go.RowKit Go.ChangeShapes Go.WideShapes Go.ChangeAt
set_option maxRecDepth 20000
set_option linter.unusedVariables false
set_option linter.unusedSimpArgs false

theorem bytes_len {s : Rs} {n : Int} : (pBytes n s).1.length ≤ n.toNat := by
  unfold pBytes bytesM
  split
  · simp
  · split
    · simp
    · rw [List.length_take]; omega
theorem z16_drop (n : Nat) (h : n ≤ 16) : z16.drop n = List.replicate (16 - n) 0 := by
  have : z16 = List.replicate 16 0 := rfl
  rw [this, List.drop_replicate]
theorem z8_drop (n : Nat) (h : n ≤ 8) : z8.drop n = List.replicate (8 - n) 0 := by
  have : z8 = List.replicate 8 0 := rfl
  rw [this, List.drop_replicate]
theorem pad16 {b : List UInt8} (h : b.length ≤ 16) : pad 16 b = b ++ z16.drop b.length := by
  unfold pad
  rw [z16_drop _ h, List.take_of_length_le h]
theorem pad8 {b : List UInt8} (h : b.length ≤ 8) : pad 8 b = b ++ z8.drop b.length := by
  unfold pad
  rw [z8_drop _ h, List.take_of_length_le h]
theorem tok_set {f : FrM} {p : FrP} {T : TypeId} {b : List UInt8} (hf : f.tok = z16) (h : b.length ≤ 16) : SetN (.cells (f.cells p).toArray T (0, 0)) 15 (b.flatMap enB.f) (.cells (({ f with tok := pad 16 b } : FrM).cells p).toArray T (0, 0)) := by
  have h1 : f.cells p = f.head p ++ ((z16.take b.length).map u8V ++ ((z16.drop b.length).map u8V ++ f.wd.map u8V)) := by
    have h2 : z16.map u8V = (z16.take b.length).map u8V ++ (z16.drop b.length).map u8V := by rw [← List.map_append, List.take_append_drop]
    rw [← List.append_assoc ((z16.take b.length).map u8V), ← h2, ← hf]
    rfl
  have h2 : ({ f with tok := pad 16 b } : FrM).cells p = f.head p ++ (b.flatMap enB.f ++ ((z16.drop b.length).map u8V ++ f.wd.map u8V)) := by
    rw [← fm_u8V, pad16 h]
    simp [FrM.cells, FrM.head, FrM.tail]
  rw [h1, h2]
  refine SetN.part rfl ?_
  rw [← fm_u8V, List.length_map, List.length_map, List.length_take]
  show b.length = min b.length 16
  omega
theorem wd_set {f : FrM} {p : FrP} {T : TypeId} {b : List UInt8} (ht : f.tok.length = 16) (hf : f.wd = z8) (h : b.length ≤ 8) : SetN (.cells (f.cells p).toArray T (0, 0)) 31 (b.flatMap enB.f) (.cells (({ f with wd := pad 8 b } : FrM).cells p).toArray T (0, 0)) := by
  have h1 : f.cells p = (f.head p ++ f.tok.map u8V) ++ ((z8.take b.length).map u8V ++ (z8.drop b.length).map u8V) := by
    rw [← List.map_append, List.take_append_drop, ← hf]
    simp [FrM.cells, FrM.head, FrM.tail]
  have h2 : ({ f with wd := pad 8 b } : FrM).cells p = (f.head p ++ f.tok.map u8V) ++ (b.flatMap enB.f ++ (z8.drop b.length).map u8V) := by
    rw [← fm_u8V, pad8 h]
    simp [FrM.cells, FrM.head, FrM.tail]
  rw [h1, h2]
  refine SetN.part (by simp [FrM.head, ht]) ?_
  rw [← fm_u8V, List.length_map, List.length_map, List.length_take]
  show b.length = min b.length 8
  omega
theorem Rd.left {α : Type} {En : Enc α} {v : Value} {c d : Hp} {l : List α} (h : Rd En v c l) : Rd En v (c ++ d) l := fun B w0 G hs => h B w0 G hs.left
theorem Rd.right {α : Type} {En : Enc α} {v : Value} {c d : Hp} {l : List α} (h : Rd En v d l) : Rd En v (c ++ d) l := fun B w0 G hs => h B w0 G hs.right
set_option maxHeartbeats 4000000 in
theorem takeId_c {B : Nat} {w0 : World} {G : List Hp} {R : Hp → List Hp} {s : Rs} {bf br : Nat} {c : Hp} (hsel : Sel G c R) (hO : FRAt (FrM.zero 24) s bf br c) (hb : Short s) :
    Go.Sl.Fn Try.prog 99 #[.pointer (some ⟨bf, 0, none⟩), .pointer (some ⟨br, 0, none⟩)] B w0 G fun u G' => ∃ c' : Hp, u = .tuple #[] ∧ FRAt (pFields 24 s).1 (pFields 24 s).2 bf br c' ∧ G' = R c' := by
  refine Fn.sel0 hsel fun F hR hF => ?_
  obtain ⟨p, cg, cd, cr, rfl, hF, hr⟩ := hO
  have hb1 := short_int hb
  have hb2 := short_int hb1
  have hb3 := short_byte hb2
  have i3 := byte_in (pInt (pInt s).2).2
  refine fn_enter Try.func99 rfl (by kernel_rfl) Try.ntmps99 (by simp) ?_
  refine cw_split4 ?_
  refine Go.Sl.cw_seq ?_
  refine Go.Sl.cw_region ?_
  refine Go.Sl.ow_val rfl rfl (Go.Sl.v_move rfl) ?_
  refine Go.Sl.ow_val rfl rfl (Go.Sl.v_move rfl) ?_
  refine Go.Sl.ow_val rfl rfl (Go.Sl.v_move rfl) ?_
  (refine Go.Sl.ow_call rfl rfl rfl rfl (rInt_c (s := s) (by repeat (first | exact Go.Sl.Sel.here | apply Go.Sl.Sel.there)) hr hb) ?_; rintro _ _ ⟨x8, rfl, hq8, rfl⟩)
  refine Go.Sl.ow_val rfl rfl (Go.Sl.v_move rfl) ?_
  (refine Go.Sl.ow_call rfl rfl rfl rfl (rInt_c (s := (pInt s).2) (by repeat (first | exact Go.Sl.Sel.here | apply Go.Sl.Sel.there)) hq8 hb1) ?_; rintro _ _ ⟨x10, rfl, hq10, rfl⟩)
  refine Go.Sl.ow_val rfl rfl (Go.Sl.v_nilCheck rfl) ?_
  refine Go.Sl.ow_val rfl rfl (Go.Sl.v_fieldAddr0 Ty.fd30_10 rfl) ?_
  refine Go.Sl.ow_store1 rfl rfl rfl rfl Ty.sc22 .here (Go.Sl.SetN.one (by first | decide | exact Nat.le_of_ble_eq_true rfl)) ?_
  refine Go.Sl.ow_val rfl rfl (Go.Sl.v_nilCheck rfl) ?_
  refine Go.Sl.ow_val rfl rfl (Go.Sl.v_fieldAddr0 Ty.fd30_11 rfl) ?_
  refine Go.Sl.ow_store1 rfl rfl rfl rfl Ty.sc22 .here (Go.Sl.SetN.one (by first | decide | exact Nat.le_of_ble_eq_true rfl)) ?_
  refine Go.Sl.ow_nil ?_
  refine Go.Sl.xw_then ?_
  refine Go.Sl.cw_seq ?_
  refine Go.Sl.cw_region ?_
  refine Go.Sl.ow_val rfl rfl (Go.Sl.v_move rfl) ?_
  (refine Go.Sl.ow_call rfl rfl rfl rfl (rByte_c (s := (pInt (pInt s).2).2) (by repeat (first | exact Go.Sl.Sel.here | apply Go.Sl.Sel.there)) hq10 hb2) ?_; rintro _ _ ⟨x16, rfl, hq16, rfl⟩)
  refine Go.Sl.ow_val rfl rfl (Go.Sl.v_convert Try.underlying5 Try.underlying3 rfl (Go.Sl.nw_i64 (by omega) (by omega))) ?_
  refine Go.Sl.ow_val rfl rfl (Go.Sl.v_assign rfl) ?_
  refine Go.Sl.ow_nil ?_
  refine Go.Sl.xw_then ?_
  have hA : pFields 24 s = ({ FrM.zero 24 with sq := (pInt s).1, pr := (pInt (pInt s).2).1, id := (pBytes (pByte (pInt (pInt s).2).2).1 (if (pByte (pInt (pInt s).2).2).1 = 0 ∨ 20 < (pByte (pInt (pInt s).2).2).1 then failM 6 (pByte (pInt (pInt s).2).2).2 else (pByte (pInt (pInt s).2).2).2)).1, tok := pad 16 (pBytes 16 (pBytes (pByte (pInt (pInt s).2).2).1 (if (pByte (pInt (pInt s).2).2).1 = 0 ∨ 20 < (pByte (pInt (pInt s).2).2).1 then failM 6 (pByte (pInt (pInt s).2).2).2 else (pByte (pInt (pInt s).2).2).2)).2).1 }, (if (pInt s).1 < (pInt (pInt s).2).1 then failM 10 (pBytes 16 (pBytes (pByte (pInt (pInt s).2).2).1 (if (pByte (pInt (pInt s).2).2).1 = 0 ∨ 20 < (pByte (pInt (pInt s).2).2).1 then failM 6 (pByte (pInt (pInt s).2).2).2 else (pByte (pInt (pInt s).2).2).2)).2).2 else (pBytes 16 (pBytes (pByte (pInt (pInt s).2).2).1 (if (pByte (pInt (pInt s).2).2).1 = 0 ∨ 20 < (pByte (pInt (pInt s).2).2).1 then failM 6 (pByte (pInt (pInt s).2).2).2 else (pByte (pInt (pInt s).2).2).2)).2).2)) := rfl
  rw [hA]
  clear hA hr hq8 hq10 hsel
  generalize pByte (pInt (pInt s).2).2 = q3 at *
  generalize pInt (pInt s).2 = q2 at *
  generalize pInt s = q1 at *
  refine Go.Sl.cw_cut2 (ι := (Hp)) [(0, _), (1, _), (4, _)] ⟨rfl, rfl, rfl, trivial⟩ ((fun _ => [])) ((fun x => RdAt (if q3.1 = 0 ∨ 20 < q3.1 then failM 6 q3.2 else q3.2).1 (if q3.1 = 0 ∨ 20 < q3.1 then failM 6 q3.2 else q3.2).2 br x)) ((fun x => [(bf, .cells ((((FrM.zero 24).cells p).set 12 (.int .u64 q1.1)).set 13 (.int .u64 q2.1)).toArray 30 (0, 0))] :: cg :: cd :: x :: F)) ?_ ?_
  · refine Go.Sl.cw_seq ?_
    refine Go.Sl.cw_region ?_
    refine Go.Sl.ow_val rfl rfl (Go.Sl.v_move rfl) ?_
    refine Go.Sl.ow_val rfl rfl (Go.Sl.v_eql rfl rfl) ?_
    refine Go.Sl.ow_val rfl rfl (Go.Sl.v_move rfl) ?_
    refine Go.Sl.ow_dec 20 rfl (fun hc20 => ?_) (fun hc20 => ?_)
    refine Go.Sl.ow_skip rfl rfl ?_
    refine Go.Sl.ow_skip rfl rfl ?_
    refine Go.Sl.ow_val rfl rfl (Go.Sl.v_pick_true rfl rfl) ?_
    refine Go.Sl.ow_nil ?_
    refine Go.Sl.xw_then ?_
    refine Go.Sl.cw_true rfl ?_
    refine Go.Sl.cw_region ?_
    refine Go.Sl.ow_val rfl rfl (Go.Sl.v_move rfl) ?_
    (refine Go.Sl.ow_call rfl rfl rfl rfl (rFail_c (s := q3.2) (k := 6) (by repeat (first | exact Go.Sl.Sel.here | apply Go.Sl.Sel.there)) hq16) ?_; rintro _ _ ⟨x25, rfl, hq25, rfl⟩)
    refine Go.Sl.ow_nil ?_
    rotate_left
    refine Go.Sl.ow_val rfl rfl (Go.Sl.v_move rfl) ?_
    refine Go.Sl.ow_val rfl rfl (Go.Sl.v_gtr rfl rfl) ?_
    refine Go.Sl.ow_val rfl rfl (Go.Sl.v_pick_false rfl rfl) ?_
    refine Go.Sl.ow_nil ?_
    refine Go.Sl.xw_then ?_
    refine Go.Sl.cw_dec rfl (fun hc23 => ?_) (fun hc23 => ?_)
    refine Go.Sl.cw_region ?_
    refine Go.Sl.ow_val rfl rfl (Go.Sl.v_move rfl) ?_
    (refine Go.Sl.ow_call rfl rfl rfl rfl (rFail_c (s := q3.2) (k := 6) (by repeat (first | exact Go.Sl.Sel.here | apply Go.Sl.Sel.there)) hq16) ?_; rintro _ _ ⟨x25, rfl, hq25, rfl⟩)
    refine Go.Sl.ow_nil ?_
    rotate_left
    refine Go.Sl.cw_skip ?_
    rotate_left
    · exact xw_joint x25 (by rw [if_pos (.inl hc20)]; exact hq25) (by first | exact Go.Sl.Cov.refl _ | (intro p; simp only [List.flatten_cons, List.flatten_nil, List.flatten_append, List.append_nil, List.nil_append, Go.Sl.cnt_append, Go.Sl.cnt_cons, Go.Sl.cnt_nil, List.set_cons_zero, List.set_cons_succ, List.length_nil, List.length_cons, Nat.zero_add, List.append]; omega)) (by repeat (first | exact True.intro | refine And.intro rfl ?_))
    · exact xw_joint x25 (by rw [if_pos (.inr hc23)]; exact hq25) (by first | exact Go.Sl.Cov.refl _ | (intro p; simp only [List.flatten_cons, List.flatten_nil, List.flatten_append, List.append_nil, List.nil_append, Go.Sl.cnt_append, Go.Sl.cnt_cons, Go.Sl.cnt_nil, List.set_cons_zero, List.set_cons_succ, List.length_nil, List.length_cons, Nat.zero_add, List.append]; omega)) (by repeat (first | exact True.intro | refine And.intro rfl ?_))
    · exact xw_joint x16 (by rw [if_neg (fun h => h.elim hc20 hc23)]; exact hq16) (by first | exact Go.Sl.Cov.refl _ | (intro p; simp only [List.flatten_cons, List.flatten_nil, List.flatten_append, List.append_nil, List.nil_append, Go.Sl.cnt_append, Go.Sl.cnt_cons, Go.Sl.cnt_nil, List.set_cons_zero, List.set_cons_succ, List.length_nil, List.length_cons, Nat.zero_add, List.append]; omega)) (by repeat (first | exact True.intro | refine And.intro rfl ?_))
  rintro c4 hr4
  have hb4 : Short (if q3.1 = 0 ∨ 20 < q3.1 then failM 6 q3.2 else q3.2) := by
    split
    · exact short_fail hb3
    · exact hb3
  generalize (if q3.1 = 0 ∨ 20 < q3.1 then failM 6 q3.2 else q3.2) = s4 at *
  have hb5 := short_bytes (n := q3.1) hb4
  refine Go.Sl.cw_seq ?_
  refine Go.Sl.cw_region ?_
  refine Go.Sl.ow_val rfl rfl (Go.Sl.v_move rfl) ?_
  refine Go.Sl.ow_val rfl rfl (Go.Sl.v_move rfl) ?_
  refine Go.Sl.ow_val rfl rfl (Go.Sl.v_move rfl) ?_
  (refine Go.Sl.ow_call rfl rfl rfl rfl (rBytes_c (s := s4) (by repeat (first | exact Go.Sl.Sel.here | apply Go.Sl.Sel.there)) hr4 hb4) ?_; rintro _ _ ⟨x29, rfl, hq29, rfl⟩)
  refine Go.Sl.ow_val rfl rfl (Go.Sl.v_nilCheck rfl) ?_
  refine Go.Sl.ow_val rfl rfl (Go.Sl.v_fieldAddr0 Ty.fd30_12 rfl) ?_
  refine Go.Sl.ow_store1 rfl rfl rfl rfl Ty.sc23 (.there .here) (Go.Sl.SetN.one (by first | decide | exact Nat.le_of_ble_eq_true rfl)) ?_
  refine Go.Sl.ow_nil ?_
  refine Go.Sl.xw_then ?_
  obtain ⟨ai, ki, ci, c5⟩ := x29
  obtain ⟨hLi, hr5⟩ := hq29
  dsimp only at hLi hr5 ⊢
  have hbl := bytes_len (s := (pBytes q3.1 s4).2) (n := 16)
  have hbl2 : (pBytes 16 (pBytes q3.1 s4).2).1.length ≤ 16 := hbl
  refine Go.Sl.cw_seq ?_
  refine Go.Sl.cw_mix [] [5, 6] [0, 1, 2, 3, 4] Ty.mixed rfl rfl rfl rfl (by decide +kernel) ?_
  refine Go.Sl.hw_pure rfl rfl (Go.Sl.v_move rfl) rfl ?_
  refine Go.Sl.hw_pure rfl rfl (Go.Sl.v_nilCheck rfl) rfl ?_
  refine Go.Sl.hw_pure rfl rfl (Go.Sl.v_fieldAddr0 Ty.fd30_13 rfl) rfl ?_
  refine Go.Sl.hw_pure rfl rfl (Go.Sl.v_sliceA_nn Try.underlying25 Ty.el25 rfl) rfl ?_
  refine Go.Sl.hw_pure rfl rfl (Go.Sl.v_move rfl) rfl ?_
  refine Go.Sl.hw_nil ?_
  refine Go.Sl.sw_nil ?_
  (refine Go.Sl.ow_call rfl rfl rfl rfl (rBytes_c (s := (pBytes q3.1 s4).2) (n := 16) (by repeat (first | exact Go.Sl.Sel.here | apply Go.Sl.Sel.there)) hr5 hb5) ?_; rintro _ _ ⟨x37, rfl, hq37, rfl⟩)
  obtain ⟨at_, kt, ct, c6⟩ := x37
  obtain ⟨hLt, hr6⟩ := hq37
  dsimp only at hLt hr6 ⊢
  have hone : ∀ u ∈ (pBytes 16 (pBytes q3.1 s4).2).1.flatMap enB.f, u.oneCell' = true := enc_one vbTy (fun _ _ => trivial)
  obtain ⟨L, hL⟩ : ∃ L, L = ({ FrM.zero 24 with sq := q1.1, pr := q2.1, id := (pBytes q3.1 s4).1, tok := pad 16 (pBytes 16 (pBytes q3.1 s4).2).1 } : FrM).cells { p with ia := ai, ic := ki } := ⟨_, rfl⟩
  have hset : SetN (.cells ((((((FrM.zero 24).cells p).set 12 (.int .u64 q1.1)).set 13 (.int .u64 q2.1)).set 14 (.slice ai (pBytes q3.1 s4).1.length ki))).toArray 30 (0, 0)) 15 ((pBytes 16 (pBytes q3.1 s4).2).1.flatMap enB.f) (.cells L.toArray 30 (0, 0)) := by
    rw [hL]
    exact tok_set (f := { FrM.zero 24 with sq := q1.1, pr := q2.1, id := (pBytes q3.1 s4).1 }) (p := { p with ia := ai, ic := ki }) rfl hbl2
  refine ow_copy (n := (pBytes 16 (pBytes q3.1 s4).2).1.length) rfl rfl rfl Try.underlying23 vbTy.size rfl rfl (Nat.min_eq_left hbl2) (Vw.reads_all vbTy (hLt.vw (by repeat (first | exact Go.Sl.Sub.here | assumption | refine Go.Sl.Sub.there ?_)))) hone (by repeat (first | exact Go.Sl.Sel.here | apply Go.Sl.Sel.there)) hset ?_
  have i1 : L[13]? = some (.int .u64 q2.1) := by rw [hL]; rfl
  have i2 : L[12]? = some (.int .u64 q1.1) := by rw [hL]; rfl
  have hfin : ∀ s cr, RdAt s.1 s.2 br cr → FRAt { FrM.zero 24 with sq := q1.1, pr := q2.1, id := (pBytes q3.1 s4).1, tok := pad 16 (pBytes 16 (pBytes q3.1 s4).2).1 } s bf br ([(bf, .cells L.toArray 30 (0, 0))] ++ (cg ++ ((cd ++ ci) ++ cr))) := fun s cr h => by
    rw [hL]
    exact ⟨{ p with ia := ai, ic := ki }, cg, cd ++ ci, cr, rfl, ⟨hF.r, Rd.left hF.d, Rd.right (Ls.rd hLi)⟩, h⟩
  refine Go.Sl.ow_nil ?_
  refine Go.Sl.xw_np ?_
  refine Go.Sl.xw_then ?_
  refine Go.Sl.cw_seq ?_
  refine Go.Sl.cw_quiet Ty.mixed (by decide +kernel) ?_
  refine Go.Sl.kw_val rfl rfl (Go.Sl.v_move rfl) ?_
  refine Go.Sl.kw_val rfl rfl (Go.Sl.v_nilCheck rfl) ?_
  refine Go.Sl.kw_val rfl rfl (Go.Sl.v_fieldAddr0 Ty.fd30_11 rfl) ?_
  refine Go.Sl.kw_val rfl rfl (Go.Sl.v_load rfl (Go.Sl.Var.at1 Ty.sc22 (.there (.there .here)) ((GetN.lit i1)))) ?_
  refine Go.Sl.kw_val rfl rfl (Go.Sl.v_move rfl) ?_
  refine Go.Sl.kw_val rfl rfl (Go.Sl.v_nilCheck rfl) ?_
  refine Go.Sl.kw_val rfl rfl (Go.Sl.v_fieldAddr0 Ty.fd30_10 rfl) ?_
  refine Go.Sl.kw_val rfl rfl (Go.Sl.v_load rfl (Go.Sl.Var.at1 Ty.sc22 (.there (.there .here)) ((GetN.lit i2)))) ?_
  refine Go.Sl.kw_val rfl rfl (Go.Sl.v_gtr rfl rfl) ?_
  refine Go.Sl.kw_nil ?_
  refine Go.Sl.xw_then ?_
  refine Go.Sl.cw_dec rfl (fun hc47 => ?_) (fun hc47 => ?_)
  refine Go.Sl.cw_region ?_
  refine Go.Sl.ow_val rfl rfl (Go.Sl.v_move rfl) ?_
  (refine Go.Sl.ow_call rfl rfl rfl rfl (rFail_c (s := (pBytes 16 (pBytes q3.1 s4).2).2) (k := 10) (by repeat (first | exact Go.Sl.Sel.here | apply Go.Sl.Sel.there)) hr6) ?_; rintro _ _ ⟨x49, rfl, hq49, rfl⟩)
  refine Go.Sl.ow_nil ?_
  refine Go.Sl.ret0n rfl ?_
  rotate_left
  refine Go.Sl.cw_skip ?_
  refine Go.Sl.ret0n rfl ?_
  rotate_left
  · rw [if_pos hc47]
    exact ⟨[(bf, .cells L.toArray 30 (0, 0))] ++ (cg ++ ((cd ++ ci) ++ x49)), rfl, hfin _ _ hq49, (by first | exact Go.Sl.Cov.refl _ | (intro p; simp only [List.flatten_cons, List.flatten_nil, List.flatten_append, List.append_nil, List.nil_append, Go.Sl.cnt_append, Go.Sl.cnt_cons, Go.Sl.cnt_nil, List.set_cons_zero, List.set_cons_succ, List.length_nil, List.length_cons, Nat.zero_add, List.append]; omega))⟩
  · rw [if_neg hc47]
    exact ⟨[(bf, .cells L.toArray 30 (0, 0))] ++ (cg ++ ((cd ++ ci) ++ c6)), rfl, hfin _ _ hr6, (by first | exact Go.Sl.Cov.refl _ | (intro p; simp only [List.flatten_cons, List.flatten_nil, List.flatten_append, List.append_nil, List.nil_append, Go.Sl.cnt_append, Go.Sl.cnt_cons, Go.Sl.cnt_nil, List.set_cons_zero, List.set_cons_succ, List.length_nil, List.length_cons, Nat.zero_add, List.append]; omega))⟩

theorem bits4 {k : Int} (h : 8 ≤ k ∧ k < 16) : (bitsOf .and .u64 k 4 ≠ 0 ↔ k.toNat / 4 % 2 = 1) ∧ (bitsOf .and .u64 k 2 ≠ 0 ↔ k.toNat / 2 % 2 = 1) ∧ (bitsOf .and .u64 k 1 ≠ 0 ↔ k.toNat % 2 = 1) := by
  obtain ⟨n, rfl⟩ := Int.eq_ofNat_of_zero_le (show 0 ≤ k by omega)
  have hn : n = 8 ∨ n = 9 ∨ n = 10 ∨ n = 11 ∨ n = 12 ∨ n = 13 ∨ n = 14 ∨ n = 15 := by omega
  rcases hn with rfl | rfl | rfl | rfl | rfl | rfl | rfl | rfl <;> decide +kernel
theorem long_len {s : Rs} {k : Int} (hk : 0 ≤ k ∧ k ≤ 100000) : (pLong k s).1.length ≤ k.toNat := by
  have h := bytes_len (s := (pCount k s).2) (n := (pCount k s).1)
  have h2 := (countM_le (l := s.1) (e := s.2) (k := k) (by omega)).2.2
  have h3 : (pLong k s) = pBytes (pCount k s).1 (pCount k s).2 := rfl
  rw [h3]
  have h4 : (pCount k s).1 ≤ max k 0 := h2
  omega
set_option maxHeartbeats 4000000 in
theorem takeStream_c {B : Nat} {w0 : World} {G : List Hp} {R : Hp → List Hp} {s : Rs} {bf br : Nat} {c : Hp} {k : Int} (hsel : Sel G c R) (hO : FRAt (FrM.zero 8) s bf br c) (hb : Short s) (hk : 8 ≤ k ∧ k < 16) :
    Go.Sl.Fn Try.prog 67 #[.pointer (some ⟨bf, 0, none⟩), .pointer (some ⟨br, 0, none⟩), .int .u64 k] B w0 G fun u G' => ∃ c' : Hp, u = .tuple #[] ∧ FRAt (pStream (decide (k.toNat / 4 % 2 = 1)) (decide (k.toNat / 2 % 2 = 1)) (decide (k.toNat % 2 = 1)) s).1 (pStream (decide (k.toNat / 4 % 2 = 1)) (decide (k.toNat / 2 % 2 = 1)) (decide (k.toNat % 2 = 1)) s).2 bf br c' ∧ G' = R c' := by
  refine Fn.sel0 hsel fun F hR hF => ?_
  obtain ⟨p, cg, cd, cr, rfl, hF, hr⟩ := hO
  obtain ⟨k4, k2, k1⟩ := bits4 hk
  have hb1 := short_int hb
  have hA : ∀ a b c : Bool, pStream a b c s = (pFits { FrM.zero 8 with st := (pInt s).1, off := ((if a = true then pInt else Pr.ret 0) (pInt s).2).1, data := ((if b = true then pLong 1200 else pLeft) ((if a = true then pInt else Pr.ret 0) (pInt s).2).2).1, fin := c }) ((if b = true then pLong 1200 else pLeft) ((if a = true then pInt else Pr.ret 0) (pInt s).2).2).2 := fun _ _ _ => rfl
  rw [hA]
  have k1d : decide (bitsOf .and .u64 k 1 ≠ 0) = decide (k.toNat % 2 = 1) := decide_eq_decide.2 k1
  obtain ⟨a, ha⟩ : ∃ a, a = decide (k.toNat / 4 % 2 = 1) := ⟨_, rfl⟩
  obtain ⟨b, hb0⟩ : ∃ b, b = decide (k.toNat / 2 % 2 = 1) := ⟨_, rfl⟩
  rw [← k1d, ← ha, ← hb0]
  clear hA k1d k1
  refine fn_enter Try.func67 rfl (by kernel_rfl) Try.ntmps67 (by simp) ?_
  refine cw_split4 ?_
  refine Go.Sl.cw_seq ?_
  refine Go.Sl.cw_region ?_
  refine Go.Sl.ow_val rfl rfl (Go.Sl.v_move rfl) ?_
  refine Go.Sl.ow_val rfl rfl (Go.Sl.v_move rfl) ?_
  (refine Go.Sl.ow_call rfl rfl rfl rfl (rInt_c (s := s) (by repeat (first | exact Go.Sl.Sel.here | apply Go.Sl.Sel.there)) hr hb) ?_; rintro _ _ ⟨x8, rfl, hq8, rfl⟩)
  refine Go.Sl.ow_val rfl rfl (Go.Sl.v_nilCheck rfl) ?_
  refine Go.Sl.ow_val rfl rfl (Go.Sl.v_fieldAddr0 Ty.fd30_1 rfl) ?_
  refine Go.Sl.ow_store1 rfl rfl rfl rfl Ty.sc22 .here (Go.Sl.SetN.one (by first | decide | exact Nat.le_of_ble_eq_true rfl)) ?_
  refine Go.Sl.ow_nil ?_
  refine Go.Sl.xw_then ?_
  have hin := int_in (pInt s).2
  clear hr hb hsel
  generalize pInt s = q1 at *
  refine Go.Sl.cw_cut2 (ι := (Hp)) [(0, _), (1, _), (2, _)] ⟨rfl, rfl, rfl, trivial⟩ ((fun _ => [])) ((fun x => RdAt ((if a = true then pInt else Pr.ret 0) q1.2).2.1 ((if a = true then pInt else Pr.ret 0) q1.2).2.2 br x)) ((fun x => [(bf, .cells ((((FrM.zero 8).cells p).set 1 (.int .u64 q1.1)).set 2 (.int .u64 ((if a = true then pInt else Pr.ret 0) q1.2).1)).toArray 30 (0, 0))] :: cg :: cd :: x :: F)) ?_ ?_
  · refine Go.Sl.cw_seq ?_
    refine Go.Sl.cw_region ?_
    refine Go.Sl.ow_val rfl rfl (Go.Sl.v_move rfl) ?_
    refine Go.Sl.ow_val rfl rfl (Go.Sl.v_and rfl rfl rfl) ?_
    refine Go.Sl.ow_val rfl rfl (Go.Sl.v_neq rfl rfl) ?_
    refine Go.Sl.ow_nil ?_
    refine Go.Sl.xw_then ?_
    refine Go.Sl.cw_dec rfl (fun hc13 => ?_) (fun hc13 => ?_)
    refine Go.Sl.cw_region ?_
    refine Go.Sl.ow_val rfl rfl (Go.Sl.v_move rfl) ?_
    refine Go.Sl.ow_val rfl rfl (Go.Sl.v_move rfl) ?_
    (refine Go.Sl.ow_call rfl rfl rfl rfl (rInt_c (s := q1.2) (by repeat (first | exact Go.Sl.Sel.here | apply Go.Sl.Sel.there)) hq8 hb1) ?_; rintro _ _ ⟨x16, rfl, hq16, rfl⟩)
    refine Go.Sl.ow_val rfl rfl (Go.Sl.v_nilCheck rfl) ?_
    refine Go.Sl.ow_val rfl rfl (Go.Sl.v_fieldAddr0 Ty.fd30_2 rfl) ?_
    refine Go.Sl.ow_store1 rfl rfl rfl rfl Ty.sc22 .here (Go.Sl.SetN.one (by first | decide | exact Nat.le_of_ble_eq_true rfl)) ?_
    refine Go.Sl.ow_nil ?_
    rotate_left
    refine Go.Sl.cw_skip ?_
    rotate_left
    · have h1 : a = true := by rw [ha]; exact decide_eq_true (k4.1 hc13)
      rw [if_pos h1]
      exact xw_joint x16 hq16 (by first | exact Go.Sl.Cov.refl _ | (intro p; simp only [List.flatten_cons, List.flatten_nil, List.flatten_append, List.append_nil, List.nil_append, Go.Sl.cnt_append, Go.Sl.cnt_cons, Go.Sl.cnt_nil, List.set_cons_zero, List.set_cons_succ, List.length_nil, List.length_cons, Nat.zero_add, List.append]; omega)) (by repeat (first | exact True.intro | refine And.intro rfl ?_))
    · have h1 : ¬ a = true := by rw [ha]; simpa using fun h => hc13 (k4.2 h)
      rw [if_neg h1]
      exact xw_joint x8 hq8 (by first | exact Go.Sl.Cov.refl _ | (intro p; simp only [List.flatten_cons, List.flatten_nil, List.flatten_append, List.append_nil, List.nil_append, Go.Sl.cnt_append, Go.Sl.cnt_cons, Go.Sl.cnt_nil, List.set_cons_zero, List.set_cons_succ, List.length_nil, List.length_cons, Nat.zero_add, List.append]; omega)) (by repeat (first | exact True.intro | refine And.intro rfl ?_))
  rintro c2 hr2
  have hb2 : Short ((if a = true then pInt else Pr.ret 0) q1.2).2 := by
    split
    · exact short_int hb1
    · exact hb1
  have ho2 : inU ((if a = true then pInt else Pr.ret 0) q1.2).1 := by
    unfold inU
    split
    · omega
    · simp [Pr.ret]
  generalize ((if a = true then pInt else Pr.ret 0) q1.2) = q2 at *
  skip
  refine Go.Sl.cw_cut2 (ι := ((Option Addr × Nat × Hp × Hp))) [(0, _), (1, _), (2, _)] ⟨rfl, rfl, rfl, trivial⟩ ((fun _ => [])) ((fun x => Ls enB 5 (.slice x.1 ((if b = true then pLong 1200 else pLeft) q2.2).1.length x.2.1) x.2.2.1 ((if b = true then pLong 1200 else pLeft) q2.2).1 ∧ RdAt ((if b = true then pLong 1200 else pLeft) q2.2).2.1 ((if b = true then pLong 1200 else pLeft) q2.2).2.2 br x.2.2.2)) ((fun x => [(bf, .cells (((((FrM.zero 8).cells p).set 1 (.int .u64 q1.1)).set 2 (.int .u64 q2.1)).set 5 (.slice x.1 ((if b = true then pLong 1200 else pLeft) q2.2).1.length x.2.1)).toArray 30 (0, 0))] :: cg :: cd :: x.2.2.1 :: x.2.2.2 :: F)) ?_ ?_
  · refine Go.Sl.cw_seq ?_
    refine Go.Sl.cw_region ?_
    refine Go.Sl.ow_val rfl rfl (Go.Sl.v_move rfl) ?_
    refine Go.Sl.ow_val rfl rfl (Go.Sl.v_and rfl rfl rfl) ?_
    refine Go.Sl.ow_val rfl rfl (Go.Sl.v_neq rfl rfl) ?_
    refine Go.Sl.ow_nil ?_
    refine Go.Sl.xw_then ?_
    refine Go.Sl.cw_dec rfl (fun hc21 => ?_) (fun hc21 => ?_)
    refine Go.Sl.cw_region ?_
    refine Go.Sl.ow_val rfl rfl (Go.Sl.v_move rfl) ?_
    refine Go.Sl.ow_val rfl rfl (Go.Sl.v_move rfl) ?_
    (refine Go.Sl.ow_call rfl rfl rfl rfl (rLong_c (s := q2.2) (by repeat (first | exact Go.Sl.Sel.here | apply Go.Sl.Sel.there)) hr2 hb2 (by decide)) ?_; rintro _ _ ⟨x24, rfl, hq24, rfl⟩)
    refine Go.Sl.ow_val rfl rfl (Go.Sl.v_nilCheck rfl) ?_
    refine Go.Sl.ow_val rfl rfl (Go.Sl.v_fieldAddr0 Ty.fd30_5 rfl) ?_
    refine Go.Sl.ow_store1 rfl rfl rfl rfl Ty.sc23 (.there .here) (Go.Sl.SetN.one (by first | decide | exact Nat.le_of_ble_eq_true rfl)) ?_
    refine Go.Sl.ow_nil ?_
    rotate_left
    refine Go.Sl.cw_region ?_
    refine Go.Sl.ow_val rfl rfl (Go.Sl.v_move rfl) ?_
    refine Go.Sl.ow_val rfl rfl (Go.Sl.v_move rfl) ?_
    refine Go.Sl.ow_val rfl rfl (Go.Sl.v_move rfl) ?_
    refine Go.Sl.ow_val rfl rfl (Go.Sl.v_call rfl rfl (rdLeft_c hr2 (by repeat (first | exact Go.Sl.Sub.here | assumption | refine Go.Sl.Sub.there ?_)))) ?_
    (refine Go.Sl.ow_call rfl rfl rfl rfl (rBytes_c (s := q2.2) (by repeat (first | exact Go.Sl.Sel.here | apply Go.Sl.Sel.there)) hr2 hb2) ?_; rintro _ _ ⟨x31, rfl, hq31, rfl⟩)
    refine Go.Sl.ow_val rfl rfl (Go.Sl.v_nilCheck rfl) ?_
    refine Go.Sl.ow_val rfl rfl (Go.Sl.v_fieldAddr0 Ty.fd30_5 rfl) ?_
    refine Go.Sl.ow_store1 rfl rfl rfl rfl Ty.sc23 (.there .here) (Go.Sl.SetN.one (by first | decide | exact Nat.le_of_ble_eq_true rfl)) ?_
    refine Go.Sl.ow_nil ?_
    rotate_left
    · have h1 : b = true := by rw [hb0]; exact decide_eq_true (k2.1 hc21)
      rw [if_pos h1]
      exact xw_joint x24 hq24 (by first | exact Go.Sl.Cov.refl _ | (intro p; simp only [List.flatten_cons, List.flatten_nil, List.flatten_append, List.append_nil, List.nil_append, Go.Sl.cnt_append, Go.Sl.cnt_cons, Go.Sl.cnt_nil, List.set_cons_zero, List.set_cons_succ, List.length_nil, List.length_cons, Nat.zero_add, List.append]; omega)) (by repeat (first | exact True.intro | refine And.intro rfl ?_))
    · have h1 : ¬ b = true := by rw [hb0]; simpa using fun h => hc21 (k2.2 h)
      rw [if_neg h1, show pLeft q2.2 = pBytes (q2.2.1.length : Int) q2.2 from rfl]
      exact xw_joint x31 hq31 (by first | exact Go.Sl.Cov.refl _ | (intro p; simp only [List.flatten_cons, List.flatten_nil, List.flatten_append, List.append_nil, List.nil_append, Go.Sl.cnt_append, Go.Sl.cnt_cons, Go.Sl.cnt_nil, List.set_cons_zero, List.set_cons_succ, List.length_nil, List.length_cons, Nat.zero_add, List.append]; omega)) (by repeat (first | exact True.intro | refine And.intro rfl ?_))
  rintro ⟨ad, kd, cD, c3⟩ ⟨hLd, hr3⟩
  dsimp only at hLd hr3 ⊢
  have hdl : ((if b = true then pLong 1200 else pLeft) q2.2).1.length ≤ 100000000 := by
    split
    · have := long_len (s := q2.2) (k := 1200) (by decide)
      omega
    · exact Nat.le_trans bytesM_le.1 hb2
  generalize ((if b = true then pLong 1200 else pLeft) q2.2) = q3 at *
  refine Go.Sl.cw_seq ?_
  refine Go.Sl.cw_region ?_
  refine Go.Sl.ow_val rfl rfl (Go.Sl.v_move rfl) ?_
  refine Go.Sl.ow_val rfl rfl (Go.Sl.v_move rfl) ?_
  refine Go.Sl.ow_val rfl rfl (Go.Sl.v_and rfl rfl rfl) ?_
  refine Go.Sl.ow_val rfl rfl (Go.Sl.v_neq rfl rfl) ?_
  refine Go.Sl.ow_val rfl rfl (Go.Sl.v_nilCheck rfl) ?_
  refine Go.Sl.ow_val rfl rfl (Go.Sl.v_fieldAddr0 Ty.fd30_6 rfl) ?_
  refine Go.Sl.ow_store1 rfl rfl rfl rfl Ty.sc4 .here (Go.Sl.SetN.one (by first | decide | exact Nat.le_of_ble_eq_true rfl)) ?_
  refine Go.Sl.ow_nil ?_
  refine Go.Sl.xw_then ?_
  refine Go.Sl.cw_region ?_
  refine Go.Sl.ow_val rfl rfl (Go.Sl.v_move rfl) ?_
  refine Go.Sl.ow_val rfl rfl (Go.Sl.v_move rfl) ?_
  refine ow_flat (([(bf, .cells ((((((FrM.zero 8).cells p).set 1 (.int .u64 q1.1)).set 2 (.int .u64 q2.1)).set 5 (.slice ad q3.1.length kd)).set 6 (.bool (decide (bitsOf .and .u64 k 1 ≠ 0)))).toArray 30 (0, 0))] ++ (cg ++ ((cd ++ cD) ++ c3))) :: F) (.of_eq (by simp)) ?_
  have hO : FRAt { FrM.zero 8 with st := q1.1, off := q2.1, data := q3.1, fin := decide (bitsOf .and .u64 k 1 ≠ 0) } q3.2 bf br ([(bf, .cells ((((((FrM.zero 8).cells p).set 1 (.int .u64 q1.1)).set 2 (.int .u64 q2.1)).set 5 (.slice ad q3.1.length kd)).set 6 (.bool (decide (bitsOf .and .u64 k 1 ≠ 0)))).toArray 30 (0, 0))] ++ (cg ++ ((cd ++ cD) ++ c3))) := ⟨{ p with da := ad, dc := kd }, cg, cd ++ cD, c3, rfl, ⟨hF.r, Rd.right (Ls.rd hLd), Rd.left hF.i⟩, hr3⟩
  (refine Go.Sl.ow_call rfl rfl rfl rfl (fits_c (by repeat (first | exact Go.Sl.Sel.here | apply Go.Sl.Sel.there)) hO ho2 hdl) ?_; rintro _ _ ⟨x42, rfl, hq42, rfl⟩)
  refine Go.Sl.ow_nil ?_
  refine Go.Sl.ret0n rfl ?_
  exact ⟨x42, rfl, hq42, (by first | exact Go.Sl.Cov.refl _ | (intro p; simp only [List.flatten_cons, List.flatten_nil, List.flatten_append, List.append_nil, List.nil_append, Go.Sl.cnt_append, Go.Sl.cnt_cons, Go.Sl.cnt_nil, List.set_cons_zero, List.set_cons_succ, List.length_nil, List.length_cons, Nat.zero_add, List.append]; omega))⟩
end Go.Proofs.Ytckdhelnafjddaa
