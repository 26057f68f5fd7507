/- What takes a frame apart, each as a contract. Conditions: numbers fit their types; not more than a hundred million bytes. -/
import Derived.Test.YtckdhelnafjddaaFrPut
namespace Go.Proofs.Ytckdhelnafjddaa
open Go Go.Sl Go.Proofs Go.RowKit Go.ChangeShapes Go.WideShapes Go.ChangeAt
set_option maxRecDepth 20000
set_option linter.unusedVariables false
set_option linter.unusedSimpArgs false

def Short (s : Rs) : Prop := s.1.length ≤ 100000000
theorem short_int {s : Rs} (h : Short s) : Short (pInt s).2 := Nat.le_trans nextM_le h
theorem short_count {s : Rs} {k : Int} (hk : k ≤ 9223372036854775807) (h : Short s) : Short (pCount k s).2 := Nat.le_trans (countM_le hk).1 h
theorem short_bytes {s : Rs} {n : Int} (h : Short s) : Short (pBytes n s).2 := Nat.le_trans bytesM_le.2 h
theorem short_byte {s : Rs} (h : Short s) : Short (pByte s).2 := Nat.le_trans (bytesM_le (n := 1)).2 h
theorem short_long {s : Rs} {k : Int} (hk : k ≤ 9223372036854775807) (h : Short s) : Short (pLong k s).2 := Nat.le_trans bytesM_le.2 (Nat.le_trans (countM_le hk).1 h)
theorem short_fail {s : Rs} {k : Int} (h : Short s) : Short (failM k s) := by
  unfold Short failM
  dsimp only
  split
  · exact h
  · simp
theorem short_if {s : Rs} {k : Int} {p : Prop} [Decidable p] (h : Short s) : Short (pIf p k s).2 := by
  unfold pIf
  dsimp only
  split
  · exact short_fail h
  · exact h
theorem short_least {s : Rs} (h : Short s) : Short (pLeast s).2 := by
  unfold Short pLeast leastM
  have := nextM_le (l := s.1) (e := s.2)
  split
  · split
    · simp
    · exact Nat.le_trans this h
  · exact Nat.le_trans this h
theorem next_in (l : List UInt8) (e : Int) : 0 ≤ (nextM l e).v ∧ (nextM l e).v < 4611686018427387904 := by
  unfold nextM
  split
  · simp
  · split
    · simp
    · rename_i h
      obtain ⟨_, _, _, h1, h2⟩ := takeV_ok (Decidable.not_not.1 h)
      exact ⟨h1, h2⟩
theorem int_in (s : Rs) : 0 ≤ (pInt s).1 ∧ (pInt s).1 < 4611686018427387904 := next_in _ _
theorem least_in (s : Rs) : 0 ≤ (pLeast s).1 ∧ (pLeast s).1 < 4611686018427387904 := by
  have := next_in s.1 s.2
  unfold pLeast leastM
  split
  · split
    · simp
    · exact this
  · simp
theorem byte_in (s : Rs) : 0 ≤ (pByte s).1 ∧ (pByte s).1 ≤ 255 := by
  have := ((bytesM s.1 s.2 1).1.headD 0).toNat_lt
  unfold pByte
  dsimp only
  omega

/-! ### A reader, by its state -/
section
variable {B : Nat} {w0 : World} {G : List Hp} {R : Hp → List Hp} {b : Nat} {c : Hp}
theorem rInt_c {s : Rs} (hsel : Sel G c R) (hO : RdAt s.1 s.2 b c) (hb : Short s) :
    Go.Sl.Fn Try.prog 93 #[.pointer (some ⟨b, 0, none⟩)] B w0 G fun u G' => ∃ c' : Hp, u = .int .u64 (pInt s).1 ∧ RdAt (pInt s).2.1 (pInt s).2.2 b c' ∧ G' = R c' := rdInt_c hsel hO hb
theorem rLeast_c {s : Rs} (hsel : Sel G c R) (hO : RdAt s.1 s.2 b c) (hb : Short s) :
    Go.Sl.Fn Try.prog 66 #[.pointer (some ⟨b, 0, none⟩)] B w0 G fun u G' => ∃ c' : Hp, u = .int .u64 (pLeast s).1 ∧ RdAt (pLeast s).2.1 (pLeast s).2.2 b c' ∧ G' = R c' := rdLeast_c hsel hO hb
theorem rByte_c {s : Rs} (hsel : Sel G c R) (hO : RdAt s.1 s.2 b c) (hb : Short s) :
    Go.Sl.Fn Try.prog 125 #[.pointer (some ⟨b, 0, none⟩)] B w0 G fun u G' => ∃ c' : Hp, u = .int .u8 (pByte s).1 ∧ RdAt (pByte s).2.1 (pByte s).2.2 b c' ∧ G' = R c' := rdByte_c hsel hO hb
theorem rCount_c {s : Rs} {k : Int} (hsel : Sel G c R) (hO : RdAt s.1 s.2 b c) (hb : Short s) (hk : 0 ≤ k ∧ k ≤ 100000) :
    Go.Sl.Fn Try.prog 98 #[.pointer (some ⟨b, 0, none⟩), .int .i64 k] B w0 G fun u G' => ∃ c' : Hp, u = .int .i64 (pCount k s).1 ∧ RdAt (pCount k s).2.1 (pCount k s).2.2 b c' ∧ G' = R c' := rdCount_c hsel hO hb (by omega)
theorem rBytes_c {s : Rs} {n : Int} (hsel : Sel G c R) (hO : RdAt s.1 s.2 b c) (hb : Short s) :
    Go.Sl.Fn Try.prog 95 #[.pointer (some ⟨b, 0, none⟩), .int .i64 n] B w0 G fun u G' => ∃ x : Option Addr × Nat × Hp × Hp, u = .slice x.1 (pBytes n s).1.length x.2.1 ∧ (Ls enB 5 (.slice x.1 (pBytes n s).1.length x.2.1) x.2.2.1 (pBytes n s).1 ∧ RdAt (pBytes n s).2.1 (pBytes n s).2.2 b x.2.2.2) ∧ G' = [x.2.2.1] ++ R x.2.2.2 := rdBytes_c hsel hO hb
theorem rLong_c {s : Rs} {k : Int} (hsel : Sel G c R) (hO : RdAt s.1 s.2 b c) (hb : Short s) (hk : 0 ≤ k ∧ k ≤ 100000) :
    Go.Sl.Fn Try.prog 94 #[.pointer (some ⟨b, 0, none⟩), .int .i64 k] B w0 G fun u G' => ∃ x : Option Addr × Nat × Hp × Hp, u = .slice x.1 (pLong k s).1.length x.2.1 ∧ (Ls enB 5 (.slice x.1 (pLong k s).1.length x.2.1) x.2.2.1 (pLong k s).1 ∧ RdAt (pLong k s).2.1 (pLong k s).2.2 b x.2.2.2) ∧ G' = [x.2.2.1] ++ R x.2.2.2 := rdLong_c hsel hO hb (by omega)
theorem rFail_c {s : Rs} {k : Int} (hsel : Sel G c R) (hO : RdAt s.1 s.2 b c) :
    Go.Sl.Fn Try.prog 68 #[.pointer (some ⟨b, 0, none⟩), .int .i64 k] B w0 G fun u G' => ∃ c' : Hp, u = .tuple #[] ∧ RdAt (failM k s).1 (failM k s).2 b c' ∧ G' = R c' := rdFail_c hsel hO
end

/-! ### A frame and a reader -/
structure FrRd (f : FrM) (p : FrP) (cg cd : Hp) : Prop where
  r : Ls enR 102 (.slice p.ra f.rg.length p.rc) cg f.rg
  d : Rd enB (.slice p.da f.data.length p.dc) cd f.data
  i : Rd enB (.slice p.ia f.id.length p.ic) cd f.id
def FRAt (f : FrM) (s : Rs) (bf br : Nat) (c : Hp) : Prop := ∃ p cg cd cr, c = [(bf, .cells (f.cells p).toArray 30 (0, 0))] ++ (cg ++ (cd ++ cr)) ∧ FrRd f p cg cd ∧ RdAt s.1 s.2 br cr
theorem cw_split4 {P : Program} {Q : Exit → Act → World → Prop} {B : Nat} {w0 : World} {N : Nat} {E : Env} {a b d e : Hp} {F : List Hp} {c : Code} (h : CW P Q B w0 N (a :: b :: d :: e :: F) E c) : CW P Q B w0 N ((a ++ (b ++ (d ++ e))) :: F) E c := cw_flat (a :: b :: d :: e :: F) (.of_eq (by simp)) h

theorem fits_c {B : Nat} {w0 : World} {G : List Hp} {R : Hp → List Hp} {f : FrM} {s : Rs} {bf br : Nat} {c : Hp} (hsel : Sel G c R) (hO : FRAt f s bf br c) (hoff : inU f.off) (hd : f.data.length ≤ 100000000) :
    Go.Sl.Fn Try.prog 96 #[.pointer (some ⟨bf, 0, none⟩), .pointer (some ⟨br, 0, none⟩)] B w0 G fun u G' => ∃ c' : Hp, u = .tuple #[] ∧ FRAt (pFits f s).1 (pFits f s).2 bf br c' ∧ G' = R c' := by
  refine Fn.sel0 hsel fun F hR hF => ?_
  unfold inU at hoff
  obtain ⟨p, cg, cd, cr, rfl, hF, hr⟩ := hO
  refine fn_enter Try.func96 rfl (by kernel_rfl) Try.ntmps96 (by simp) ?_
  refine cw_split4 ?_
  refine Go.Sl.cw_seq ?_
  refine Go.Sl.cw_quiet Ty.mixed (by decide +kernel) ?_
  refine Go.Sl.kw_val rfl rfl (Go.Sl.v_move rfl) ?_
  refine Go.Sl.kw_val rfl rfl (Go.Sl.v_nilCheck rfl) ?_
  refine Go.Sl.kw_val rfl rfl (Go.Sl.v_fieldAddr0 Ty.fd30_2 rfl) ?_
  refine Go.Sl.kw_val rfl rfl (Go.Sl.v_load rfl (Go.Sl.Var.at1 Ty.sc22 .here (Go.Sl.GetN.lit rfl))) ?_
  refine Go.Sl.kw_val rfl rfl (Go.Sl.v_move rfl) ?_
  refine Go.Sl.kw_val rfl rfl (Go.Sl.v_nilCheck rfl) ?_
  refine Go.Sl.kw_val rfl rfl (Go.Sl.v_fieldAddr0 Ty.fd30_5 rfl) ?_
  refine Go.Sl.kw_val rfl rfl (Go.Sl.v_load rfl (Go.Sl.Var.at1 Ty.sc23 .here (Go.Sl.GetN.lit rfl))) ?_
  refine Go.Sl.kw_val rfl rfl (Go.Sl.v_len rfl Try.underlying23 rfl) ?_
  refine Go.Sl.kw_val rfl rfl (Go.Sl.v_convert Try.underlying3 Try.underlying22 rfl (Go.Sl.nw_u64 (by omega) (by omega))) ?_
  refine Go.Sl.kw_val rfl rfl (Go.Sl.v_sub rfl rfl (Go.Sl.nw_u64 (by omega) (by omega))) ?_
  refine Go.Sl.kw_val rfl rfl (Go.Sl.v_gtr rfl rfl) ?_
  refine Go.Sl.kw_nil ?_
  refine Go.Sl.xw_then ?_
  refine Go.Sl.cw_dec rfl (fun hc15 => ?_) (fun hc15 => ?_)
  refine Go.Sl.cw_region ?_
  refine Go.Sl.ow_val rfl rfl (Go.Sl.v_move rfl) ?_
  (refine Go.Sl.ow_call rfl rfl rfl rfl (rFail_c (s := s) (by repeat (first | exact Go.Sl.Sel.here | apply Go.Sl.Sel.there)) hr) ?_; rintro _ _ ⟨x17, rfl, hq17, rfl⟩)
  refine Go.Sl.ow_nil ?_
  refine Go.Sl.ret0n rfl ?_
  rotate_left
  refine Go.Sl.cw_skip ?_
  refine Go.Sl.ret0n rfl ?_
  rotate_left
  · refine ⟨[(bf, .cells (f.cells p).toArray 30 (0, 0))] ++ (cg ++ (cd ++ x17)), rfl, ?_, (by first | exact Go.Sl.Cov.refl _ | (intro p; simp only [List.flatten_cons, List.flatten_nil, List.flatten_append, List.append_nil, List.nil_append, Go.Sl.cnt_append, Go.Sl.cnt_cons, Go.Sl.cnt_nil, List.set_cons_zero, List.set_cons_succ, List.length_nil, List.length_cons, Nat.zero_add, List.append]; omega))⟩
    show FRAt f (if _ then _ else _) bf br _
    rw [if_pos hc15]
    exact ⟨p, cg, cd, x17, rfl, hF, hq17⟩
  · refine ⟨[(bf, .cells (f.cells p).toArray 30 (0, 0))] ++ (cg ++ (cd ++ cr)), rfl, ?_, (by first | exact Go.Sl.Cov.refl _ | (intro p; simp only [List.flatten_cons, List.flatten_nil, List.flatten_append, List.append_nil, List.nil_append, Go.Sl.cnt_append, Go.Sl.cnt_cons, Go.Sl.cnt_nil, List.set_cons_zero, List.set_cons_succ, List.length_nil, List.length_cons, Nat.zero_add, List.append]; omega))⟩
    show FRAt f (if _ then _ else _) bf br _
    rw [if_neg hc15]
    exact ⟨p, cg, cd, cr, rfl, hF, hr⟩
theorem takeRange_c {B : Nat} {w0 : World} {G : List Hp} {R : Hp → List Hp} {f : FrM} {s : Rs} {bf br : Nat} {c : Hp} {top less : Int} (hsel : Sel G c R) (hO : FRAt f s bf br c) (ht : 0 ≤ top ∧ top < 4611686018427387904) (hl : 0 ≤ less ∧ less < 4611686018427387904) (hn : f.rg.length ≤ 1000) :
    Go.Sl.Fn Try.prog 123 #[.pointer (some ⟨bf, 0, none⟩), .pointer (some ⟨br, 0, none⟩), .int .u64 top, .int .u64 less] B w0 G fun u G' => ∃ c' : Hp, u = .bool (pOne top less f.rg s).1.1 ∧ FRAt { f with rg := (pOne top less f.rg s).1.2 } (pOne top less f.rg s).2 bf br c' ∧ G' = R c' := by
  refine Fn.sel0 hsel fun F hR hF => ?_
  obtain ⟨p, cg, cd, cr, rfl, hF, hr⟩ := hO
  have hp : pOne top less f.rg s = (if (if top < less then failM 10 s else s).2 ≠ 0 then ((false, f.rg), (if top < less then failM 10 s else s)) else ((true, f.rg ++ [⟨top - less, top + 1⟩]), (if top < less then failM 10 s else s))) := rfl
  rw [hp]
  refine fn_enter Try.func123 rfl (by kernel_rfl) Try.ntmps123 (by simp) ?_
  refine cw_split4 ?_
  refine Go.Sl.cw_seq ?_
  refine Go.Sl.cw_region ?_
  refine Go.Sl.ow_val rfl rfl (Go.Sl.v_assign rfl) ?_
  refine Go.Sl.ow_nil ?_
  refine Go.Sl.xw_then ?_
  refine Go.Sl.cw_cut2 (ι := (Hp)) [(0, _), (1, _), (2, _), (3, _), (8, _)] ⟨rfl, rfl, rfl, rfl, rfl, trivial⟩ ((fun _ => [])) ((fun x => RdAt (if top < less then failM 10 s else s).1 (if top < less then failM 10 s else s).2 br x)) ((fun x => [(bf, .cells (f.cells p).toArray 30 (0, 0))] :: cg :: cd :: x :: F)) ?_ ?_
  · refine Go.Sl.cw_seq ?_
    refine Go.Sl.cw_region ?_
    refine Go.Sl.ow_val rfl rfl (Go.Sl.v_move rfl) ?_
    refine Go.Sl.ow_val rfl rfl (Go.Sl.v_move rfl) ?_
    refine Go.Sl.ow_val rfl rfl (Go.Sl.v_gtr rfl rfl) ?_
    refine Go.Sl.ow_nil ?_
    refine Go.Sl.xw_then ?_
    refine Go.Sl.cw_dec rfl (fun hc11 => ?_) (fun hc11 => ?_)
    refine Go.Sl.cw_region ?_
    refine Go.Sl.ow_val rfl rfl (Go.Sl.v_move rfl) ?_
    (refine Go.Sl.ow_call rfl rfl rfl rfl (rFail_c (s := s) (by repeat (first | exact Go.Sl.Sel.here | apply Go.Sl.Sel.there)) hr) ?_; rintro _ _ ⟨x13, rfl, hq13, rfl⟩)
    refine Go.Sl.ow_nil ?_
    rotate_left
    refine Go.Sl.cw_skip ?_
    rotate_left
    · exact xw_joint x13 (by rw [if_pos hc11]; exact hq13) (by first | exact Go.Sl.Cov.refl _ | (intro p; simp only [List.flatten_cons, List.flatten_nil, List.flatten_append, List.append_nil, List.nil_append, Go.Sl.cnt_append, Go.Sl.cnt_cons, Go.Sl.cnt_nil, List.set_cons_zero, List.set_cons_succ, List.length_nil, List.length_cons, Nat.zero_add, List.append]; omega)) (by repeat (first | exact True.intro | refine And.intro rfl ?_))
    · exact xw_joint cr (by rw [if_neg hc11]; exact hr) (by first | exact Go.Sl.Cov.refl _ | (intro p; simp only [List.flatten_cons, List.flatten_nil, List.flatten_append, List.append_nil, List.nil_append, Go.Sl.cnt_append, Go.Sl.cnt_cons, Go.Sl.cnt_nil, List.set_cons_zero, List.set_cons_succ, List.length_nil, List.length_cons, Nat.zero_add, List.append]; omega)) (by repeat (first | exact True.intro | refine And.intro rfl ?_))
  rintro c2 hr2
  have hfl : top < less → (if top < less then failM 10 s else s).2 ≠ 0 := fun h => by
    rw [if_pos h]
    unfold failM
    dsimp only
    by_cases h2 : s.2 ≠ 0
    · rw [if_pos (.inr h2)]; exact h2
    · rw [if_neg (fun h3 => h3.elim (by decide) h2)]; decide
  generalize (if top < less then failM 10 s else s) = s2 at *
  refine Go.Sl.cw_seq ?_
  refine Go.Sl.cw_seq ?_
  refine Go.Sl.cw_region ?_
  refine Go.Sl.ow_val rfl rfl (Go.Sl.v_move rfl) ?_
  refine Go.Sl.ow_val rfl rfl (Go.Sl.v_call rfl rfl (rdErr_c hr2 (by repeat (first | exact Go.Sl.Sub.here | assumption | refine Go.Sl.Sub.there ?_)))) ?_
  refine Go.Sl.ow_val rfl rfl (Go.Sl.v_neq rfl rfl) ?_
  refine Go.Sl.ow_nil ?_
  refine Go.Sl.xw_then ?_
  refine Go.Sl.cw_dec rfl (fun hc16 => ?_) (fun hc16 => ?_)
  refine Go.Sl.cw_seq ?_
  refine Go.Sl.cw_region ?_
  refine Go.Sl.ow_val rfl rfl (Go.Sl.v_assign rfl) ?_
  refine Go.Sl.ow_nil ?_
  refine Go.Sl.xw_then ?_
  refine Go.Sl.cw_ret ?_
  refine Go.Sl.xw_then_ret ?_
  refine Go.Sl.ret1 rfl (Go.Sl.res_tmp rfl) ?_
  rotate_left
  refine Go.Sl.cw_skip ?_
  refine Go.Sl.xw_then ?_
  rotate_left
  · rw [if_pos hc16]
    exact ⟨[(bf, .cells (f.cells p).toArray 30 (0, 0))] ++ (cg ++ (cd ++ c2)), rfl, ⟨p, cg, cd, c2, rfl, hF, hr2⟩, (by first | exact Go.Sl.Cov.refl _ | (intro p; simp only [List.flatten_cons, List.flatten_nil, List.flatten_append, List.append_nil, List.nil_append, Go.Sl.cnt_append, Go.Sl.cnt_cons, Go.Sl.cnt_nil, List.set_cons_zero, List.set_cons_succ, List.length_nil, List.length_cons, Nat.zero_add, List.append]; omega))⟩
  rw [if_neg hc16]
  have hle : less ≤ top := by
    rcases Int.lt_or_le top less with h | h
    · exact absurd (hfl h) hc16
    · exact h
  have hFr := hF.r
  have hokr : enR.ok ⟨top - less, top + 1⟩ := ⟨⟨by dsimp only; omega, by dsimp only; omega⟩, ⟨by dsimp only; omega, by dsimp only; omega⟩⟩
  refine Go.Sl.cw_seq ?_
  refine Go.Sl.cw_region ?_
  refine Go.Sl.ow_val rfl rfl (Go.Sl.v_move rfl) ?_
  refine Go.Sl.ow_val rfl rfl (Go.Sl.v_move rfl) ?_
  refine Go.Sl.ow_val rfl rfl (Go.Sl.v_nilCheck rfl) ?_
  refine Go.Sl.ow_val rfl rfl (Go.Sl.v_fieldAddr0 Ty.fd30_7 rfl) ?_
  refine Go.Sl.ow_val rfl rfl (Go.Sl.v_load rfl (Go.Sl.Var.at1 Ty.sc27 .here (Go.Sl.GetN.lit rfl))) ?_
  refine Go.Sl.ow_val rfl rfl (Go.Sl.v_move rfl) ?_
  refine Go.Sl.ow_val rfl rfl (Go.Sl.v_move rfl) ?_
  refine Go.Sl.ow_val rfl rfl (Go.Sl.v_sub rfl rfl (Go.Sl.nw_u64 (by omega) (by omega))) ?_
  refine Go.Sl.ow_val rfl rfl (Go.Sl.v_move rfl) ?_
  refine Go.Sl.ow_val rfl rfl (Go.Sl.v_add rfl rfl (Go.Sl.nw_u64 (by omega) (by omega))) ?_
  refine Go.Sl.ow_val rfl rfl (Go.Sl.v_build rfl (b_rng)) ?_
  (refine Go.Sl.ow_buildL (es := [((⟨top - less, top + 1⟩ : Rg))]) rfl rfl Try.underlying27 Ty.em27 (rTy) rfl rfl (by first | (simp [*]; done) | (repeat (first | exact List.forall_mem_nil _ | refine List.forall_mem_cons.2 ⟨?_, ?_⟩ | assumption | (show _ ∧ _; omega)))) (by simp only [List.length_cons, List.length_nil]; decide) ?_; intro ao28 c28 hL28)
  (refine Go.Sl.ow_appendL rfl rfl Try.underlying27 Try.underlying27 Ty.em27 (rTy) rfl rfl (by assumption) (by repeat (first | exact Go.Sl.Sel.here | apply Go.Sl.Sel.there)) (Go.Sl.Ls.vw (by assumption) (by repeat (first | exact Go.Sl.Sub.here | assumption | refine Go.Sl.Sub.there ?_))) (by first | omega | (simp only [List.length_append, List.length_take, List.length_drop, List.length_nil, List.length_cons]; omega)) (by first | omega | (simp only [List.length_append, List.length_take, List.length_drop, List.length_nil, List.length_cons]; omega)) ?_; intro ao29 cap29 c29 hL29)
  refine Go.Sl.ow_val rfl rfl (Go.Sl.v_nilCheck rfl) ?_
  refine Go.Sl.ow_val rfl rfl (Go.Sl.v_fieldAddr0 Ty.fd30_7 rfl) ?_
  refine Go.Sl.ow_store1 rfl rfl rfl rfl Ty.sc27 (.there .here) (Go.Sl.SetN.one (by first | decide | exact Nat.le_of_ble_eq_true rfl)) ?_
  refine Go.Sl.ow_nil ?_
  refine Go.Sl.xw_then ?_
  refine Go.Sl.cw_seq ?_
  refine Go.Sl.cw_region ?_
  refine Go.Sl.ow_val rfl rfl (Go.Sl.v_assign rfl) ?_
  refine Go.Sl.ow_nil ?_
  refine Go.Sl.xw_then ?_
  refine Go.Sl.cw_ret ?_
  refine Go.Sl.ret1 rfl (Go.Sl.res_tmp rfl) ?_
  exact ⟨[(bf, .cells ((f.cells p).set 7 (.slice ao29 (f.rg ++ [(⟨top - less, top + 1⟩ : Rg)]).length cap29)).toArray 30 (0, 0))] ++ (c29 ++ (cd ++ c2)), rfl, ⟨{ p with ra := ao29, rc := cap29 }, c29, cd, c2, rfl, ⟨hL29, hF.d, hF.i⟩, hr2⟩, (by first | exact Go.Sl.Cov.refl _ | (intro p; simp only [List.flatten_cons, List.flatten_nil, List.flatten_append, List.append_nil, List.nil_append, Go.Sl.cnt_append, Go.Sl.cnt_cons, Go.Sl.cnt_nil, List.set_cons_zero, List.set_cons_succ, List.length_nil, List.length_cons, Nat.zero_add, List.append]; omega))⟩

/-- half turned round -/
theorem reverse_c {B : Nat} {w0 : World} {G : List Hp} {R : Hp → List Hp} {ao : Option Addr} {n cap : Nat} {c : Hp} {l : List Rg} (hsel : Sel G c R) (hL : Ls enR 102 (.slice ao n cap) c l) (hn : l.length ≤ 1000) :
    Go.Sl.Fn Try.prog 124 #[.slice ao n cap] B w0 G fun u G' => ∃ c' : Hp, u = .tuple #[] ∧ Ls enR 102 (.slice ao n cap) c' l.reverse ∧ G' = R c' := by
  refine Fn.sel0 hsel fun F hR hF => ?_
  have hl := hL.len
  subst hl
  refine fn_enter Try.func124 rfl (by kernel_rfl) Try.ntmps124 (by simp) ?_
  refine Go.Sl.cw_seq ?_
  refine Go.Sl.cw_region ?_
  refine Go.Sl.ow_val rfl rfl (Go.Sl.v_move rfl) ?_
  refine Go.Sl.ow_val rfl rfl (Go.Sl.v_len rfl Try.underlying27 rfl) ?_
  refine Go.Sl.ow_val rfl rfl (Go.Sl.v_sub rfl rfl (Go.Sl.nw_i64 (by omega) (by omega))) ?_
  refine Go.Sl.ow_val rfl rfl (Go.Sl.v_assign rfl) ?_
  refine Go.Sl.ow_val rfl rfl (Go.Sl.v_assign rfl) ?_
  refine Go.Sl.ow_nil ?_
  refine Go.Sl.xw_then ?_
  refine Go.Sl.cw_block ?_
  refine Go.Sl.cw_loop2 (ι := ((Nat × Int × List Rg × Hp))) [(0, _)] ⟨rfl, trivial⟩ ((fun x => [(2, .int .i64 x.1), (3, .int .i64 x.2.1)])) ((fun x => x.2.1 = (l.length : Int) - 1 - x.1 ∧ x.2.2.1.length = l.length ∧ 2 * x.1 ≤ l.length + 1 ∧ (∀ k (h : k < l.length) (h' : k < x.2.2.1.length), x.2.2.1[k] = if k < x.1 ∨ l.length ≤ k + x.1 then l[l.length - 1 - k] else l[k]) ∧ Ls enR 102 (.slice ao l.length cap) x.2.2.2 x.2.2.1)) ((fun x => l.length - x.1)) ((fun x => x.2.2.2 :: F)) (((0, (l.length : Int) - 1, l, c) : Nat × Int × List Rg × Hp)) (by repeat (first | exact True.intro | refine And.intro rfl ?_)) (by first | exact Go.Sl.Cov.refl _ | (intro p; simp only [List.flatten_cons, List.flatten_nil, List.flatten_append, List.append_nil, List.nil_append, Go.Sl.cnt_append, Go.Sl.cnt_cons, Go.Sl.cnt_nil, List.set_cons_zero, List.set_cons_succ, List.length_nil, List.length_cons, Nat.zero_add, List.append]; omega)) ?_ ?_
  · exact ⟨by dsimp only; omega, rfl, Nat.zero_le _, fun k h _ => by dsimp only; rw [if_neg (by omega)], hL⟩
  rintro ⟨i, j, m, ci⟩ ⟨hj, hm, hi, hx, hLi⟩
  dsimp only at hj hm hi hx hLi ⊢
  refine Go.Sl.cw_seq ?_
  refine Go.Sl.cw_seq ?_
  refine Go.Sl.cw_region ?_
  refine Go.Sl.ow_val rfl rfl (Go.Sl.v_move rfl) ?_
  refine Go.Sl.ow_val rfl rfl (Go.Sl.v_move rfl) ?_
  refine Go.Sl.ow_val rfl rfl (Go.Sl.v_lss rfl rfl) ?_
  refine Go.Sl.ow_nil ?_
  refine Go.Sl.xw_then ?_
  refine Go.Sl.cw_dec rfl (fun hc9 => ?_) (fun hc9 => ?_)
  refine Go.Sl.cw_skip ?_
  refine Go.Sl.xw_then ?_
  rotate_left
  refine Go.Sl.cw_exit ?_
  refine Go.Sl.xw_then_exit ?_
  refine Go.Sl.xw_round_exit ?_
  refine Go.Sl.xw_block_exit ?_
  refine Go.Sl.ret0n rfl ?_
  rotate_left
  · have hok := hLi.ok
    have i1 : i < m.length := by omega
    have i2 : j.toNat < m.length := by omega
    have hone1 := one2 _ (hok _ (List.getElem_mem i1))
    have hone2 := one2 _ (hok _ (List.getElem_mem i2))
    refine Go.Sl.cw_seq ?_
    refine Go.Sl.cw_block ?_
    refine Go.Sl.cw_mix [] [13, 14, 15] [0, 1, 2, 3, 4, 5, 6, 7, 8, 9, 10, 11, 12] Ty.mixed rfl rfl rfl rfl (by decide +kernel) ?_
    refine Go.Sl.hw_pure rfl rfl (Go.Sl.v_move rfl) rfl ?_
    refine Go.Sl.hw_pure rfl rfl (Go.Sl.v_move rfl) rfl ?_
    refine Go.Sl.hw_pure rfl rfl (Go.Sl.v_move rfl) rfl ?_
    refine Go.Sl.hw_pure rfl rfl (Go.Sl.v_move rfl) rfl ?_
    refine Go.Sl.hw_pure rfl rfl (Go.Sl.v_move rfl) rfl ?_
    refine Go.Sl.hw_pure rfl rfl (Go.Sl.v_move rfl) rfl ?_
    refine Go.Sl.hw_pure rfl rfl (Go.Sl.v_indexAddr_ls Try.underlying27 (rTy) rfl rfl (by assumption) (Int.toNat_of_nonneg (by omega)).symm (by omega)) rfl ?_
    refine Go.Sl.hw_read rfl rfl rfl (Go.Sl.v_load rfl (Go.Sl.Vw.var (rTy) ((hLi.vw (by repeat (first | exact Go.Sl.Sub.here | assumption | refine Go.Sl.Sub.there ?_)))) (by omega))) ?_
    refine Go.Sl.hw_pure rfl rfl (Go.Sl.v_move rfl) rfl ?_
    refine Go.Sl.hw_pure rfl rfl (Go.Sl.v_move rfl) rfl ?_
    refine Go.Sl.hw_pure rfl rfl (Go.Sl.v_indexAddr_ls Try.underlying27 (rTy) rfl rfl (by assumption) rfl (by omega)) rfl ?_
    refine Go.Sl.hw_read rfl rfl rfl (Go.Sl.v_load rfl (Go.Sl.Vw.var (rTy) ((hLi.vw (by repeat (first | exact Go.Sl.Sub.here | assumption | refine Go.Sl.Sub.there ?_)))) (by omega))) ?_
    refine Go.Sl.hw_pure rfl rfl (Go.Sl.v_indexAddr_ls Try.underlying27 (rTy) rfl rfl (by assumption) rfl (by omega)) rfl ?_
    refine Go.Sl.hw_nil ?_
    refine Go.Sl.sw_nil ?_
    refine ow_storeL (i := i) (a := m[j.toNat]) rfl rfl rfl rTy hLi (by repeat (first | exact Go.Sl.Sel.here | apply Go.Sl.Sel.there)) i1 (hok _ (List.getElem_mem i2)) ?_
    intro c1 hL1
    have hl1 : (m.set i m[j.toNat]).length = l.length := by rw [List.length_set]; exact hm
    refine Go.Sl.ow_val rfl rfl (Go.Sl.v_indexAddr_ls Try.underlying27 (rTy) rfl rfl (by assumption) (Int.toNat_of_nonneg (by omega)).symm (by omega)) ?_
    refine ow_storeL (i := j.toNat) (a := m[i]) rfl rfl rfl rTy hL1 (by repeat (first | exact Go.Sl.Sel.here | apply Go.Sl.Sel.there)) (by rw [List.length_set]; exact i2) (hok _ (List.getElem_mem i1)) ?_
    intro c3 hL3
    refine Go.Sl.ow_nil ?_
    refine Go.Sl.xw_np ?_
    refine Go.Sl.xw_block ?_
    refine Go.Sl.xw_then ?_
    refine Go.Sl.cw_region ?_
    refine Go.Sl.ow_val rfl rfl (Go.Sl.v_move rfl) ?_
    refine Go.Sl.ow_val rfl rfl (Go.Sl.v_add rfl rfl (Go.Sl.nw_i64 (by omega) (by omega))) ?_
    refine Go.Sl.ow_val rfl rfl (Go.Sl.v_move rfl) ?_
    refine Go.Sl.ow_val rfl rfl (Go.Sl.v_sub rfl rfl (Go.Sl.nw_i64 (by omega) (by omega))) ?_
    refine Go.Sl.ow_val rfl rfl (Go.Sl.v_assign rfl) ?_
    refine Go.Sl.ow_val rfl rfl (Go.Sl.v_assign rfl) ?_
    refine Go.Sl.ow_nil ?_
    refine xw_round ((i + 1, j - 1, (m.set i m[j.toNat]).set j.toNat m[i], c3) : Nat × Int × List Rg × Hp) ⟨by dsimp only; omega, by dsimp only; rw [List.length_set, List.length_set]; exact hm, by dsimp only; omega, fun k h h' => ?_, hL3⟩ (by dsimp only; omega) (by first | exact Go.Sl.Cov.refl _ | (intro p; simp only [List.flatten_cons, List.flatten_nil, List.flatten_append, List.append_nil, List.nil_append, Go.Sl.cnt_append, Go.Sl.cnt_cons, Go.Sl.cnt_nil, List.set_cons_zero, List.set_cons_succ, List.length_nil, List.length_cons, Nat.zero_add, List.append]; omega)) (by repeat (first | exact True.intro | refine And.intro rfl ?_))
    dsimp only
    have hji : j.toNat = l.length - 1 - i := by omega
    have hmi := hx i (by omega) i1
    have hmj := hx j.toNat (by omega) i2
    rw [if_neg (by omega)] at hmi hmj
    simp only [List.getElem_set]
    by_cases h1 : j.toNat = k
    · subst h1
      rw [if_pos rfl, hmi, if_pos (by omega)]
      congr 1
      omega
    · rw [if_neg h1]
      by_cases h2 : i = k
      · subst h2
        rw [if_pos rfl, hmj, if_pos (by omega)]
        congr 1
      · have h' : k < m.length := by omega
        rw [if_neg h2, hx k h h']
        by_cases h3 : k < i ∨ l.length ≤ k + i
        · rw [if_pos h3, if_pos (by omega)]
        · rw [if_neg h3, if_neg (by omega)]
  have he : m = l.reverse := by
    refine List.ext_getElem (by rw [List.length_reverse]; exact hm) fun k h1 h2 => ?_
    have h3 : k < l.length := by omega
    rw [hx k h3 h1, List.getElem_reverse]
    by_cases h4 : k < i ∨ l.length ≤ k + i
    · rw [if_pos h4]
    · rw [if_neg h4]
      congr 1
      omega
  rw [he] at hLi
  exact ⟨ci, rfl, hLi, (by first | exact Go.Sl.Cov.refl _ | (intro p; simp only [List.flatten_cons, List.flatten_nil, List.flatten_append, List.append_nil, List.nil_append, Go.Sl.cnt_append, Go.Sl.cnt_cons, Go.Sl.cnt_nil, List.set_cons_zero, List.set_cons_succ, List.length_nil, List.length_cons, Nat.zero_add, List.append]; omega))⟩
end Go.Proofs.Ytckdhelnafjddaa
