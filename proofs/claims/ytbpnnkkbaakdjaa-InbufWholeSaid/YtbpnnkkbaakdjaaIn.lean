/- What the methods of inbuf.Buffer do, each as a contract. Conditions: numbers fit their types. -/
import Derived.Test.YtbpnnkkbaakdjaaSpanMore
import Derived.Test.YtbpnnkkbaakdjaaMap
import Derived.Test.YtbpnnkkbaakdjaaMake
import Derived.Test.YtbpnnkkbaakdjaaBytes
namespace Go.Proofs.Ytbpnnkkbaakdjaa
open Go Go.Sl Go.Proofs
set_option maxRecDepth 20000
set_option linter.unusedVariables false
set_option linter.unusedSimpArgs false

theorem sub_pre {c : Hp} {X G : List Hp} (h : Sub c G) : Sub c (X ++ G) := fun p hp => by
  have := h p hp
  rw [List.flatten_append]
  exact List.mem_append_right _ this
theorem u8Ty : EncTy Try.prog 5 enB := enB_ty Ty.sc5
theorem zB : ZeroE Try.prog 5 enB 0 1 := ZeroE.of (by kernel_rfl) trivial
structure InM where
  read : Int
  high : Int
  final : Int
  known : Bool
  l : List Rg
  f : Int → Option UInt8
/-- the bytes as values -/
def mv (f : Int → Option UInt8) (k : Int) : Option Value := (f k).map fun b => Value.int .u8 b.toNat
def InAt (m : InM) (b : Nat) (c : Hp) : Prop := ∃ bp bm cp cm, c = [(b, .cells [.int .u64 m.read, .int .u64 m.high, .int .u64 m.final, .bool m.known, .pointer (some ⟨bp, 0, none⟩), .map (some bm)].toArray 137 (0, 0))] ++ (cp ++ cm) ∧ SetAt ⟨32, m.l⟩ bp cp ∧ MapF .u64 (mv m.f) bm cm
theorem InAt.of {m : InM} {b bp bm : Nat} {r h fi : Int} {k : Bool} {l : List Rg} {f : Int → Option UInt8} {cp cm : Hp} (hP : SetAt ⟨32, l⟩ bp cp) (hM : MapF .u64 (mv f) bm cm) (he : m = ⟨r, h, fi, k, l, f⟩) : InAt m b ([(b, .cells [.int .u64 r, .int .u64 h, .int .u64 fi, .bool k, .pointer (some ⟨bp, 0, none⟩), .map (some bm)].toArray 137 (0, 0))] ++ (cp ++ cm)) := by
  subst he
  exact ⟨bp, bm, cp, cm, rfl, hP, hM⟩
structure InM.WF (m : InM) : Prop where
  gl : Good m.l
  len : m.l.length ≤ 32
  rd : 0 ≤ m.read ∧ m.read ≤ m.high ∧ m.high ≤ 4611686018427387903
  mem : ∀ k, InR m.l k ↔ (m.f k).isSome = true
  low : ∀ k, InR m.l k → m.read ≤ k ∧ k < m.high
  fin : m.known = true → m.high ≤ m.final ∧ m.final ≤ 4611686018427387903
theorem InM.WF.sp {m : InM} (h : m.WF) : (⟨32, m.l⟩ : SetM).WF := ⟨h.gl, by have := h.len; dsimp only; omega, by dsimp only; omega⟩
def in0 : InM := ⟨0, 0, 0, false, [], fun _ => none⟩
theorem in0_wf : in0.WF := ⟨Good.nil, by simp [in0], by simp [in0], fun k => by simp [in0, InR.nil], fun k h => absurd h InR.nil, fun h => by cases h⟩
theorem b_in0 : Build Try.prog 137 #[] (.agg [Value.int .u64 0, .int .u64 0, .int .u64 0, .bool false, .pointer none, .map none].toArray) := fun w => by kernel_rfl
theorem cw_split3' {P : Program} {Q : Exit → Act → World → Prop} {B : Nat} {w0 : World} {N : Nat} {E : Env} {k : Code} {a b d : Hp} {F : List Hp} (h : CW P Q B w0 N (a :: b :: d :: F) E k) : CW P Q B w0 N ((a ++ (b ++ d)) :: F) E k := cw_flat (a :: b :: d :: F) (.of_eq (by simp)) h
theorem ow_join3 {P : Program} {ops : Array Oper} {Q : Exit → Act → World → Prop} {B : Nat} {w0 : World} {N : Nat} {E : Env} {rest : List Oper} {a b d : Hp} {F : List Hp} (h : OW P ops Q B w0 N ((a ++ (b ++ d)) :: F) E rest) : OW P ops Q B w0 N (a :: b :: d :: F) E rest := ow_flat ((a ++ (b ++ d)) :: F) (.of_eq (by simp)) h

theorem inOpen0_c {B : Nat} {w0 : World} {G : List Hp} {R : Hp → List Hp} {b : Nat} (hsel : Sel G [(b, .cells [Value.int .u64 0, .int .u64 0, .int .u64 0, .bool false, .pointer none, .map none].toArray 137 (0, 0))] R) :
    Go.Sl.Fn Try.prog 78 #[.pointer (some ⟨b, 0, none⟩)] B w0 G fun u G' => ∃ c : Hp, u = .tuple #[] ∧ InAt in0 b c ∧ G' = R c := by
  refine Fn.sel0 hsel fun F hR hF => ?_
  refine fn_enter Try.func78 rfl (by kernel_rfl) Try.ntmps78 (by simp) ?_
  refine Go.Sl.cw_seq ?_
  refine Go.Sl.cw_region ?_
  refine Go.Sl.ow_val rfl rfl (Go.Sl.v_move rfl) ?_
  refine Go.Sl.ow_val rfl rfl (Go.Sl.v_nilCheck rfl) ?_
  refine Go.Sl.ow_val rfl rfl (Go.Sl.v_fieldAddr0 Ty.fd137_4 rfl) ?_
  refine Go.Sl.ow_val rfl rfl (Go.Sl.v_load rfl (Go.Sl.Var.at1 Ty.sc25 .here (Go.Sl.GetN.lit rfl))) ?_
  refine Go.Sl.ow_val rfl rfl (Go.Sl.v_eql_nil_none Try.underlying25 rfl) ?_
  refine Go.Sl.ow_nil ?_
  refine Go.Sl.xw_then ?_
  refine Go.Sl.cw_true rfl ?_
  refine Go.Sl.cw_seq ?_
  refine Go.Sl.cw_region ?_
  refine Go.Sl.ow_val rfl rfl (Go.Sl.v_move rfl) ?_
  (refine Go.Sl.ow_call rfl rfl rfl rfl (newSet_c) ?_; rintro _ _ ⟨x8, rfl, hq8, rfl⟩)
  refine Go.Sl.ow_val rfl rfl (Go.Sl.v_nilCheck rfl) ?_
  refine Go.Sl.ow_val rfl rfl (Go.Sl.v_fieldAddr0 Ty.fd137_4 rfl) ?_
  refine Go.Sl.ow_store1 rfl rfl rfl rfl Ty.sc25 (.there .here) (Go.Sl.SetN.one (by first | decide | exact Nat.le_of_ble_eq_true rfl)) ?_
  refine Go.Sl.ow_nil ?_
  refine Go.Sl.xw_then ?_
  refine Go.Sl.cw_region ?_
  refine Go.Sl.ow_val rfl rfl (Go.Sl.v_move rfl) ?_
  refine Go.Sl.ow_makeMap (kd := .u64) rfl rfl ?_
  intro bm cm hM
  refine Go.Sl.ow_val rfl rfl (Go.Sl.v_nilCheck rfl) ?_
  refine Go.Sl.ow_val rfl rfl (Go.Sl.v_fieldAddr0 Ty.fd137_5 rfl) ?_
  refine Go.Sl.ow_store1 rfl rfl rfl rfl Ty.sc135 (.there (.there .here)) (Go.Sl.SetN.one (by first | decide | exact Nat.le_of_ble_eq_true rfl)) ?_
  refine Go.Sl.ow_nil ?_
  refine Go.Sl.ret0n rfl ?_
  exact ⟨[(b, .cells [Value.int .u64 0, .int .u64 0, .int .u64 0, .bool false, .pointer (some ⟨x8.1, 0, none⟩), .map (some bm)].toArray 137 (0, 0))] ++ (x8.2 ++ cm), rfl, ⟨x8.1, bm, x8.2, cm, rfl, hq8, hM⟩, (by first | exact Go.Sl.Cov.refl _ | (intro p; simp only [List.flatten_cons, List.flatten_nil, List.flatten_append, List.append_nil, List.nil_append, Go.Sl.cnt_append, Go.Sl.cnt_cons, Go.Sl.cnt_nil, List.set_cons_zero, List.set_cons_succ, List.length_nil, List.length_cons, Nat.zero_add, List.append]; omega))⟩
theorem inOpen_c {B : Nat} {w0 : World} {G : List Hp} {m : InM} {b : Nat} {c : Hp} (hO : InAt m b c) (hs : Sub c G) :
    Go.Sl.Fn Try.prog 78 #[.pointer (some ⟨b, 0, none⟩)] B w0 G fun u G' => u = .tuple #[] ∧ G' = G := by
  refine Fn.pure ?_
  obtain ⟨bp, bm, cp, cm, rfl, hP, hM⟩ := hO
  have hs1 := hs.left
  refine fn_enter Try.func78 rfl (by kernel_rfl) Try.ntmps78 (by simp) ?_
  refine Go.Sl.cw_seq ?_
  refine Go.Sl.cw_region ?_
  refine Go.Sl.ow_val rfl rfl (Go.Sl.v_move rfl) ?_
  refine Go.Sl.ow_val rfl rfl (Go.Sl.v_nilCheck rfl) ?_
  refine Go.Sl.ow_val rfl rfl (Go.Sl.v_fieldAddr0 Ty.fd137_4 rfl) ?_
  refine Go.Sl.ow_val rfl rfl (Go.Sl.v_load rfl (Go.Sl.Var.sub1 Ty.sc25 (by repeat (first | assumption | refine Go.Sl.Sub.there ?_)) (.head _) (Go.Sl.GetN.lit rfl))) ?_
  refine Go.Sl.ow_val rfl rfl (Go.Sl.v_eql_nil_some Try.underlying25 rfl) ?_
  refine Go.Sl.ow_nil ?_
  refine Go.Sl.xw_then ?_
  refine Go.Sl.cw_false rfl ?_
  refine Go.Sl.cw_skip ?_
  refine Go.Sl.ret0n rfl ?_
  exact ⟨rfl, (by first | exact Go.Sl.Cov.refl _ | (intro p; simp only [List.flatten_cons, List.flatten_nil, List.flatten_append, List.append_nil, List.nil_append, Go.Sl.cnt_append, Go.Sl.cnt_cons, Go.Sl.cnt_nil, List.set_cons_zero, List.set_cons_succ, List.length_nil, List.length_cons, Nat.zero_add, List.append]; omega))⟩
theorem newIn_c {B : Nat} {w0 : World} {G : List Hp} :
    Go.Sl.Fn Try.prog 44 #[] B w0 G fun u G' => ∃ x : Nat × Hp, u = .pointer (some ⟨x.1, 0, none⟩) ∧ InAt in0 x.1 x.2 ∧ G' = [x.2] ++ G := by
  refine Fn.new ?_
  refine fn_enter Try.func44 rfl (by kernel_rfl) Try.ntmps44 (by simp) ?_
  refine Go.Sl.cw_seq ?_
  refine Go.Sl.cw_region ?_
  refine Go.Sl.ow_val rfl rfl (Go.Sl.v_assign rfl) ?_
  refine Go.Sl.ow_nil ?_
  refine Go.Sl.xw_then ?_
  refine Go.Sl.cw_seq ?_
  refine Go.Sl.cw_region ?_
  refine Go.Sl.ow_val rfl rfl (Go.Sl.v_build rfl (b_in0)) ?_
  (refine Go.Sl.ow_box rfl rfl rfl rfl ?_; intro b3)
  refine Go.Sl.ow_val rfl rfl (Go.Sl.v_assign rfl) ?_
  refine Go.Sl.ow_nil ?_
  refine Go.Sl.xw_then ?_
  refine Go.Sl.cw_seq ?_
  refine Go.Sl.cw_region ?_
  refine Go.Sl.ow_val rfl rfl (Go.Sl.v_move rfl) ?_
  (refine Go.Sl.ow_call rfl rfl rfl rfl (inOpen0_c (by repeat (first | exact Go.Sl.Sel.here | apply Go.Sl.Sel.there))) ?_; rintro _ _ ⟨x5, rfl, hq5, rfl⟩)
  refine Go.Sl.ow_nil ?_
  refine Go.Sl.xw_then ?_
  refine Go.Sl.cw_seq ?_
  refine Go.Sl.cw_region ?_
  refine Go.Sl.ow_val rfl rfl (Go.Sl.v_move rfl) ?_
  refine Go.Sl.ow_val rfl rfl (Go.Sl.v_assign rfl) ?_
  refine Go.Sl.ow_nil ?_
  refine Go.Sl.xw_then ?_
  refine Go.Sl.cw_ret ?_
  refine Go.Sl.ret1 rfl (Go.Sl.res_tmp rfl) ?_
  exact ⟨(b3, x5), rfl, hq5, (by first | exact Go.Sl.Cov.refl _ | (intro p; simp only [List.flatten_cons, List.flatten_nil, List.flatten_append, List.append_nil, List.nil_append, Go.Sl.cnt_append, Go.Sl.cnt_cons, Go.Sl.cnt_nil, List.set_cons_zero, List.set_cons_succ, List.length_nil, List.length_cons, Nat.zero_add, List.append]; omega))⟩

/-! ### Ready -/
def InM.ready (m : InM) : Int := if (firstR m.l m.read).2 = true ∧ (firstR m.l m.read).1.a = m.read then (firstR m.l m.read).1.b - (firstR m.l m.read).1.a else 0
theorem firstR_ok {l : List Rg} {n : Int} (hg : Good l) (hn : 0 ≤ n ∧ n ≤ 18446744073709551615) : enR.ok (firstR l n).1 := by
  unfold firstR
  split
  · rename_i h
    have h3 := hg.1 _ (List.getElem_mem h)
    exact ⟨by have := h3.1; have := h3.2.1; have := h3.2.2; dsimp only; omega, by have := h3.1; have := h3.2.1; have := h3.2.2; dsimp only; omega⟩
  · exact ok_z
/-- so many bytes are there, and no more in a row -/
theorem InM.ready_spec {m : InM} (hw : m.WF) : 0 ≤ m.ready ∧ (∀ k, m.read ≤ k → k < m.read + m.ready → InR m.l k) ∧ ¬ InR m.l (m.read + m.ready) := by
  unfold InM.ready
  rcases first_low (n := m.read) hw.gl with ⟨h3, h4⟩ | ⟨h3, h4, h5, h6, h7, h8⟩
  · rw [if_neg (by rw [h3]; simp)]
    exact ⟨Int.le_refl _, fun k h1 h2 => by omega, fun h => by have := h4 _ h; omega⟩
  · by_cases ha : (firstR m.l m.read).1.a = m.read
    · rw [if_pos ⟨h3, ha⟩]
      refine ⟨by omega, fun k h1 h2 => h6 k (by omega) (by omega), ?_⟩
      rw [show m.read + ((firstR m.l m.read).1.b - (firstR m.l m.read).1.a) = (firstR m.l m.read).1.b from by omega]
      exact h8
    · rw [if_neg (fun h => ha h.2)]
      refine ⟨Int.le_refl _, fun k h1 h2 => by omega, fun h => ?_⟩
      have := h7 _ h (by omega)
      omega
theorem InM.ready_eq {m : InM} (hw : m.WF) {n : Int} (h0 : 0 ≤ n) (h1 : ∀ k, m.read ≤ k → k < m.read + n → InR m.l k) (h2 : ¬ InR m.l (m.read + n)) : m.ready = n := by
  obtain ⟨g0, g1, g2⟩ := InM.ready_spec hw
  rcases Int.lt_trichotomy m.ready n with h | h | h
  · exact absurd (h1 (m.read + m.ready) (by omega) (by omega)) g2
  · exact h
  · exact absurd (g1 (m.read + n) (by omega) (by omega)) h2
theorem inReady_c {B : Nat} {w0 : World} {G : List Hp} {m : InM} {b : Nat} {c : Hp} (hO : InAt m b c) (hs : Sub c G) (hw : m.WF) :
    Go.Sl.Fn Try.prog 59 #[.pointer (some ⟨b, 0, none⟩)] B w0 G fun u G' => u = .int .u64 m.ready ∧ G' = G := by
  refine Fn.pure ?_
  obtain ⟨bp, bm, cp, cm, rfl, hP, hM⟩ := hO
  have hs1 := hs.left
  have hsp := hs.right.left
  have hrd := hw.rd
  have hfo := firstR_ok (n := m.read) hw.gl (by omega)
  have hf2 := len2 _ hfo
  have hf3 := one2 _ hfo
  refine fn_enter Try.func59 rfl (by kernel_rfl) Try.ntmps59 (by simp) ?_
  refine Go.Sl.cw_seq ?_
  refine Go.Sl.cw_region ?_
  refine Go.Sl.ow_val rfl rfl (Go.Sl.v_assign rfl) ?_
  refine Go.Sl.ow_nil ?_
  refine Go.Sl.xw_then ?_
  refine Go.Sl.cw_seq ?_
  refine Go.Sl.cw_seq ?_
  refine Go.Sl.cw_region ?_
  refine Go.Sl.ow_val rfl rfl (Go.Sl.v_move rfl) ?_
  refine Go.Sl.ow_val rfl rfl (Go.Sl.v_eql_nil_some Try.underlying72 rfl) ?_
  refine Go.Sl.ow_nil ?_
  refine Go.Sl.xw_then ?_
  refine Go.Sl.cw_false rfl ?_
  refine Go.Sl.cw_skip ?_
  refine Go.Sl.xw_then ?_
  refine Go.Sl.cw_seq ?_
  refine Go.Sl.cw_mixR [12] [13, 14] [0, 1, 2, 3, 4, 5, 6, 7, 8, 9, 10, 11] Ty.mixed rfl rfl rfl rfl (by decide +kernel) ?_
  refine Go.Sl.hwr_pure rfl rfl (Go.Sl.v_move rfl) rfl ?_
  refine Go.Sl.hwr_pure rfl rfl (Go.Sl.v_nilCheck rfl) rfl ?_
  refine Go.Sl.hwr_pure rfl rfl (Go.Sl.v_fieldAddr0 Ty.fd137_4 rfl) rfl ?_
  refine Go.Sl.hwr_load rfl rfl rfl rfl (Go.Sl.v_load rfl (Go.Sl.Var.sub1 Ty.sc25 (by repeat (first | assumption | refine Go.Sl.Sub.there ?_)) (.head _) (Go.Sl.GetN.lit rfl))) ?_
  refine Go.Sl.hwr_pure rfl rfl (Go.Sl.v_move rfl) rfl ?_
  refine Go.Sl.hwr_pure rfl rfl (Go.Sl.v_nilCheck rfl) rfl ?_
  refine Go.Sl.hwr_pure rfl rfl (Go.Sl.v_fieldAddr0 Ty.fd137_0 rfl) rfl ?_
  refine Go.Sl.hwr_load rfl rfl rfl rfl (Go.Sl.v_load rfl (Go.Sl.Var.sub1 Ty.sc23 (by repeat (first | assumption | refine Go.Sl.Sub.there ?_)) (.head _) (Go.Sl.GetN.lit rfl))) ?_
  refine Go.Sl.hwr_call rfl rfl rfl (fun _ => Go.Sl.v_call rfl rfl (setFirst_l hP (sub_pre hsp) hw.sp)) ?_
  refine Go.Sl.hwr_pure rfl rfl (Go.Sl.v_move rfl) rfl ?_
  refine Go.Sl.hwr_pure rfl rfl (Go.Sl.v_extract rfl rfl) rfl ?_
  refine Go.Sl.hwr_pure rfl rfl (Go.Sl.v_extract rfl rfl) rfl ?_
  refine Go.Sl.hwr_nil ?_
  (refine Go.Sl.sw_alloc rfl rfl Ty.ze28 ?_; intro b3)
  refine Go.Sl.sw_nil ?_
  refine Go.Sl.ow_storeN rfl rfl rfl Ty.ag28 (by first | rfl | assumption) (by first | assumption | simp) .here (Go.Sl.SetN.all (by first | rfl | assumption | simp_all)) ?_
  refine Go.Sl.ow_val rfl rfl (Go.Sl.v_assign rfl) ?_
  refine Go.Sl.ow_nil ?_
  refine Go.Sl.xw_np ?_
  refine Go.Sl.xw_then ?_
  refine Go.Sl.cw_seq ?_
  refine Go.Sl.cw_seq ?_
  refine Go.Sl.cw_quiet Ty.mixed (by decide +kernel) ?_
  refine Go.Sl.kw_val rfl rfl (Go.Sl.v_move rfl) ?_
  refine Go.Sl.kw_val rfl rfl (Go.Sl.v_not_bool rfl) ?_
  refine Go.Sl.kw_val rfl rfl (Go.Sl.v_move rfl) ?_
  refine Go.Sl.kw_bool 21 rfl (fun hc21 => ?_) (fun hc21 => ?_)
  refine Go.Sl.kw_skip rfl rfl ?_
  refine Go.Sl.kw_skip rfl rfl ?_
  refine Go.Sl.kw_skip rfl rfl ?_
  refine Go.Sl.kw_skip rfl rfl ?_
  refine Go.Sl.kw_skip rfl rfl ?_
  refine Go.Sl.kw_skip rfl rfl ?_
  refine Go.Sl.kw_skip rfl rfl ?_
  refine Go.Sl.kw_val rfl rfl (Go.Sl.v_pick_true rfl rfl) ?_
  refine Go.Sl.kw_nil ?_
  refine Go.Sl.xw_then ?_
  refine Go.Sl.cw_true rfl ?_
  refine Go.Sl.cw_seq ?_
  refine Go.Sl.cw_region ?_
  refine Go.Sl.ow_val rfl rfl (Go.Sl.v_assign rfl) ?_
  refine Go.Sl.ow_nil ?_
  refine Go.Sl.xw_then ?_
  refine Go.Sl.cw_ret ?_
  refine Go.Sl.xw_then_ret ?_
  refine Go.Sl.ret1 rfl (Go.Sl.res_tmp rfl) ?_
  rotate_left
  refine Go.Sl.kw_val rfl rfl (Go.Sl.v_fieldAddr0 Ty.fd28_0 rfl) ?_
  refine Go.Sl.kw_val rfl rfl (Go.Sl.v_load rfl (Go.Sl.Var.at1 Ty.sc23 .here (Go.Sl.GetN.lit rfl))) ?_
  refine Go.Sl.kw_val rfl rfl (Go.Sl.v_move rfl) ?_
  refine Go.Sl.kw_val rfl rfl (Go.Sl.v_nilCheck rfl) ?_
  refine Go.Sl.kw_val rfl rfl (Go.Sl.v_fieldAddr0 Ty.fd137_0 rfl) ?_
  refine Go.Sl.kw_val rfl rfl (Go.Sl.v_load rfl (Go.Sl.Var.sub1 Ty.sc23 (by repeat (first | assumption | refine Go.Sl.Sub.there ?_)) (.head _) (Go.Sl.GetN.lit rfl))) ?_
  refine Go.Sl.kw_val rfl rfl (Go.Sl.v_neq rfl rfl) ?_
  refine Go.Sl.kw_val rfl rfl (Go.Sl.v_pick_false rfl rfl) ?_
  refine Go.Sl.kw_nil ?_
  refine Go.Sl.xw_then ?_
  refine Go.Sl.cw_dec rfl (fun hc29 => ?_) (fun hc29 => ?_)
  refine Go.Sl.cw_seq ?_
  refine Go.Sl.cw_region ?_
  refine Go.Sl.ow_val rfl rfl (Go.Sl.v_assign rfl) ?_
  refine Go.Sl.ow_nil ?_
  refine Go.Sl.xw_then ?_
  refine Go.Sl.cw_ret ?_
  refine Go.Sl.xw_then_ret ?_
  refine Go.Sl.ret1 rfl (Go.Sl.res_tmp rfl) ?_
  rotate_left
  refine Go.Sl.cw_skip ?_
  refine Go.Sl.xw_then ?_
  refine Go.Sl.cw_seq ?_
  refine Go.Sl.cw_region ?_
  refine Go.Sl.ow_val rfl rfl (Go.Sl.v_fieldAddr0 Ty.fd28_1 rfl) ?_
  refine Go.Sl.ow_val rfl rfl (Go.Sl.v_load rfl (Go.Sl.Var.at1 Ty.sc23 .here (Go.Sl.GetN.lit rfl))) ?_
  refine Go.Sl.ow_val rfl rfl (Go.Sl.v_fieldAddr0 Ty.fd28_0 rfl) ?_
  refine Go.Sl.ow_val rfl rfl (Go.Sl.v_load rfl (Go.Sl.Var.at1 Ty.sc23 .here (Go.Sl.GetN.lit rfl))) ?_
  refine Go.Sl.ow_val rfl rfl (Go.Sl.v_sub rfl rfl rfl) ?_
  refine Go.Sl.ow_val rfl rfl (Go.Sl.v_assign rfl) ?_
  refine Go.Sl.ow_nil ?_
  refine Go.Sl.xw_then ?_
  refine Go.Sl.cw_ret ?_
  refine Go.Sl.ret1 rfl (Go.Sl.res_tmp rfl) ?_
  rotate_left
  · exact ⟨by rw [show m.ready = 0 from if_neg (fun h => by rw [h.1] at hc21; cases hc21)], (by first | exact Go.Sl.Cov.refl _ | (intro p; simp only [List.flatten_cons, List.flatten_nil, List.flatten_append, List.append_nil, List.nil_append, Go.Sl.cnt_append, Go.Sl.cnt_cons, Go.Sl.cnt_nil, List.set_cons_zero, List.set_cons_succ, List.length_nil, List.length_cons, Nat.zero_add, List.append]; omega))⟩
  · exact ⟨by rw [show m.ready = 0 from if_neg (fun h => hc29 h.2)], (by first | exact Go.Sl.Cov.refl _ | (intro p; simp only [List.flatten_cons, List.flatten_nil, List.flatten_append, List.append_nil, List.nil_append, Go.Sl.cnt_append, Go.Sl.cnt_cons, Go.Sl.cnt_nil, List.set_cons_zero, List.set_cons_succ, List.length_nil, List.length_cons, Nat.zero_add, List.append]; omega))⟩
  · have hf : (firstR m.l m.read).2 = true := by simpa using hc21
    have hlt : (firstR m.l m.read).1.a < (firstR m.l m.read).1.b := by
      rcases first_low (n := m.read) hw.gl with ⟨h3, h4⟩ | ⟨h3, h4, h5, h6, h7, h8⟩
      · rw [h3] at hf; cases hf
      · exact h5
    have h1 := hfo.1.1
    have h2 := hfo.2.2
    rw [Go.Sl.nw_u64 (by omega) (by omega)]
    exact ⟨by rw [show m.ready = (firstR m.l m.read).1.b - (firstR m.l m.read).1.a from if_pos ⟨hf, by simpa using hc29⟩], (by first | exact Go.Sl.Cov.refl _ | (intro p; simp only [List.flatten_cons, List.flatten_nil, List.flatten_append, List.append_nil, List.nil_append, Go.Sl.cnt_append, Go.Sl.cnt_cons, Go.Sl.cnt_nil, List.set_cons_zero, List.set_cons_succ, List.length_nil, List.length_cons, Nat.zero_add, List.append]; omega))⟩
/-! ### Peek -/
theorem v_byte {N : Nat} {B : Nat} {w0 : World} {G : List Hp} {E : Env} {ty : TypeId} {x y : Operand} {b : Nat} {k : Int} {f : Int → Option UInt8} {c : Hp} (hx : Env.ev E x = some (.map (some b))) (hy : Env.ev E y = some (.int .u64 k)) (hs : Sub c G) (hM : MapF .u64 (mv f) b c) : OpV Try.prog (St B w0 G) N E (.lookup 135 x y false) ty (enB.val ((f k).getD 0)) := by
  have h1 := v_lookupM0 (P := Try.prog) (N := N) (B := B) (w0 := w0) (ty := ty) Try.underlying135 Try.underlying23 (z := .int .u8 0) (fun w => by kernel_rfl) hx hy hs hM
  rw [show (mv f k).getD (Value.int .u8 0) = enB.val ((f k).getD 0) from by unfold mv; cases f k <;> rfl] at h1
  exact h1
theorem v_byteOk {N : Nat} {B : Nat} {w0 : World} {G : List Hp} {E : Env} {ty : TypeId} {x y : Operand} {b : Nat} {k : Int} {f : Int → Option UInt8} {c : Hp} (hx : Env.ev E x = some (.map (some b))) (hy : Env.ev E y = some (.int .u64 k)) (hs : Sub c G) (hM : MapF .u64 (mv f) b c) : OpV Try.prog (St B w0 G) N E (.lookup 135 x y true) ty (.tuple #[enB.val ((f k).getD 0), .bool (f k).isSome]) := by
  have h1 := v_lookupM (P := Try.prog) (N := N) (B := B) (w0 := w0) (ty := ty) Try.underlying135 Try.underlying23 (z := .int .u8 0) (fun w => by kernel_rfl) hx hy hs hM
  rw [show (mv f k).getD (Value.int .u8 0) = enB.val ((f k).getD 0) from by unfold mv; cases f k <;> rfl, show (mv f k).isSome = (f k).isSome from by unfold mv; cases f k <;> rfl] at h1
  exact h1
def InM.bytes (m : InM) (n : Nat) : List UInt8 := (List.range n).map fun i : Nat => (m.f (m.read + (i : Int))).getD 0
theorem InM.bytes_len {m : InM} {n : Nat} : (m.bytes n).length = n := by simp [InM.bytes]
theorem bytes_step {m : InM} {n j : Nat} (hj : j < n) : (((m.bytes n).take j) ++ List.replicate (n - j) 0).set j ((m.f (m.read + j)).getD 0) = ((m.bytes n).take (j + 1)) ++ List.replicate (n - (j + 1)) 0 := by
  have hl : ((m.bytes n).take j).length = j := by rw [List.length_take, InM.bytes_len]; omega
  have hr : List.replicate (n - j) (0 : UInt8) = 0 :: List.replicate (n - (j + 1)) 0 := by rw [← List.replicate_succ]; congr 1; omega
  have hjb : j < (m.bytes n).length := by rw [InM.bytes_len]; exact hj
  have hg : (m.bytes n)[j] = (m.f (m.read + j)).getD 0 := by simp [InM.bytes]
  rw [List.take_succ_eq_append_getElem hjb, hr, List.set_append, if_neg (by omega), hl, Nat.sub_self, List.set_cons_zero, hg, List.append_assoc]
  rfl
def InM.many (m : InM) (many : Int) : Nat := (min m.ready many).toNat
theorem inPeek_c {B : Nat} {w0 : World} {G : List Hp} {m : InM} {b : Nat} {c : Hp} {many : Int} (hO : InAt m b c) (hs : Sub c G) (hw : m.WF) (hm : -9223372036854775808 ≤ many ∧ many ≤ 1000000) :
    Go.Sl.Fn Try.prog 60 #[.pointer (some ⟨b, 0, none⟩), .int .i64 many] B w0 G fun u G' => ∃ x : Option Addr × Nat × Hp, u = .slice x.1 (m.bytes (m.many many)).length x.2.1 ∧ Ls enB 5 (.slice x.1 (m.bytes (m.many many)).length x.2.1) x.2.2 (m.bytes (m.many many)) ∧ G' = [x.2.2] ++ G := by
  refine Fn.new ?_
  have hO' := hO
  obtain ⟨bp, bm, cp, cm, rfl, hP, hM⟩ := hO
  have hs1 := hs.left
  have hsm := hs.right.right
  have hrd := hw.rd
  have hry := (InM.ready_spec hw).1
  rw [InM.bytes_len]
  refine fn_enter Try.func60 rfl (by kernel_rfl) Try.ntmps60 (by simp) ?_
  refine Go.Sl.cw_seq ?_
  refine Go.Sl.cw_region ?_
  refine Go.Sl.ow_val rfl rfl (Go.Sl.v_assign rfl) ?_
  refine Go.Sl.ow_nil ?_
  refine Go.Sl.xw_then ?_
  refine Go.Sl.cw_seq ?_
  refine Go.Sl.cw_seq ?_
  refine Go.Sl.cw_region ?_
  refine Go.Sl.ow_val rfl rfl (Go.Sl.v_move rfl) ?_
  refine Go.Sl.ow_val rfl rfl (Go.Sl.v_eql_nil_some Try.underlying72 rfl) ?_
  refine Go.Sl.ow_val rfl rfl (Go.Sl.v_move rfl) ?_
  refine Go.Sl.ow_val rfl rfl (Go.Sl.v_move rfl) ?_
  refine Go.Sl.ow_val rfl rfl (Go.Sl.v_leq rfl rfl) ?_
  refine Go.Sl.ow_val rfl rfl (Go.Sl.v_pick_false rfl rfl) ?_
  refine Go.Sl.ow_nil ?_
  refine Go.Sl.xw_then ?_
  refine Go.Sl.cw_dec rfl (fun hc12 => ?_) (fun hc12 => ?_)
  refine Go.Sl.cw_seq ?_
  refine Go.Sl.cw_region ?_
  refine Go.Sl.ow_val rfl rfl (Go.Sl.v_assign rfl) ?_
  refine Go.Sl.ow_nil ?_
  refine Go.Sl.xw_then ?_
  refine Go.Sl.cw_ret ?_
  refine Go.Sl.xw_then_ret ?_
  refine Go.Sl.ret1 rfl (Go.Sl.res_tmp rfl) ?_
  rotate_left
  refine Go.Sl.cw_skip ?_
  refine Go.Sl.xw_then ?_
  refine Go.Sl.cw_seq ?_
  refine Go.Sl.cw_region ?_
  refine Go.Sl.ow_val rfl rfl (Go.Sl.v_move rfl) ?_
  refine Go.Sl.ow_val rfl rfl (Go.Sl.v_call rfl rfl (inReady_c hO' hs hw)) ?_
  refine Go.Sl.ow_val rfl rfl (Go.Sl.v_move rfl) ?_
  refine Go.Sl.ow_val rfl rfl (Go.Sl.v_convert Try.underlying3 Try.underlying23 rfl (Go.Sl.nw_u64 (by omega) (by omega))) ?_
  refine Go.Sl.ow_val rfl rfl (Go.Sl.v_min rfl rfl) ?_
  rotate_left
  · have h0 : m.many many = 0 := by unfold InM.many; omega
    rw [h0, show m.bytes 0 = [] from rfl]
    exact ⟨(none, 0, []), rfl, Ls.nil, (by first | exact Go.Sl.Cov.refl _ | (intro p; simp only [List.flatten_cons, List.flatten_nil, List.flatten_append, List.append_nil, List.nil_append, Go.Sl.cnt_append, Go.Sl.cnt_cons, Go.Sl.cnt_nil, List.set_cons_zero, List.set_cons_succ, List.length_nil, List.length_cons, Nat.zero_add, List.append]; omega))⟩
  have hmn : min m.ready many = (m.many many : Int) := by unfold InM.many; omega
  rw [hmn]
  generalize m.many many = n at *
  refine Go.Sl.ow_makeL (En := enB) (a0 := 0) (n := n) rfl rfl Try.underlying57 u8Ty zB rfl rfl rfl rfl (by omega) (by omega) ?_
  intro ao18 c18 hL18
  refine Go.Sl.ow_val rfl rfl (Go.Sl.v_assign rfl) ?_
  refine Go.Sl.ow_nil ?_
  refine Go.Sl.xw_then ?_
  refine Go.Sl.cw_seq ?_
  refine Go.Sl.cw_seq ?_
  refine Go.Sl.cw_region ?_
  refine Go.Sl.ow_val rfl rfl (Go.Sl.v_move rfl) ?_
  refine Go.Sl.ow_val rfl rfl (Go.Sl.v_len rfl Try.underlying57 rfl) ?_
  refine Go.Sl.ow_val rfl rfl (Go.Sl.v_move rfl) ?_
  refine Go.Sl.ow_nil ?_
  refine Go.Sl.xw_then ?_
  refine Go.Sl.cw_block ?_
  refine Go.Sl.cw_loop2 (ι := ((Nat × Hp))) [(0, _), (4, _), (5, _), (20, _)] ⟨rfl, rfl, rfl, rfl, trivial⟩ ((fun x => [(21, .int .i64 x.1)])) ((fun x => x.1 ≤ n ∧ Ls enB 5 (.slice ao18 n n) x.2 (((m.bytes n).take x.1) ++ List.replicate (n - x.1) 0))) ((fun x => n - x.1)) ((fun x => x.2 :: G)) (((0, c18) : Nat × Hp)) (by repeat (first | exact True.intro | refine And.intro rfl ?_)) (by first | exact Go.Sl.Cov.refl _ | (intro p; simp only [List.flatten_cons, List.flatten_nil, List.flatten_append, List.append_nil, List.nil_append, Go.Sl.cnt_append, Go.Sl.cnt_cons, Go.Sl.cnt_nil, List.set_cons_zero, List.set_cons_succ, List.length_nil, List.length_cons, Nat.zero_add, List.append]; omega)) ?_ ?_
  · exact ⟨Nat.zero_le _, hL18⟩
  rintro ⟨j, cj⟩ ⟨hj, hLj⟩
  dsimp only at hj hLj ⊢
  refine Go.Sl.cw_seq ?_
  refine Go.Sl.cw_region ?_
  refine Go.Sl.ow_val rfl rfl (Go.Sl.v_lss rfl rfl) ?_
  refine Go.Sl.ow_nil ?_
  refine Go.Sl.xw_then ?_
  refine Go.Sl.cw_seq ?_
  refine Go.Sl.cw_dec rfl (fun hc22 => ?_) (fun hc22 => ?_)
  refine Go.Sl.cw_skip ?_
  refine Go.Sl.xw_then ?_
  refine Go.Sl.cw_seq ?_
  refine Go.Sl.cw_block ?_
  refine Go.Sl.cw_seq ?_
  refine Go.Sl.cw_region ?_
  refine Go.Sl.ow_val rfl rfl (Go.Sl.v_move rfl) ?_
  refine Go.Sl.ow_val rfl rfl (Go.Sl.v_assign rfl) ?_
  refine Go.Sl.ow_nil ?_
  refine Go.Sl.xw_then ?_
  refine Go.Sl.cw_mix [] [15] [0, 1, 2, 3, 4, 5, 6, 7, 8, 9, 10, 11, 12, 13, 14] Ty.mixed rfl rfl rfl rfl (by decide +kernel) ?_
  refine Go.Sl.hw_pure rfl rfl (Go.Sl.v_move rfl) rfl ?_
  refine Go.Sl.hw_pure rfl rfl (Go.Sl.v_move rfl) rfl ?_
  refine Go.Sl.hw_pure rfl rfl (Go.Sl.v_move rfl) rfl ?_
  refine Go.Sl.hw_pure rfl rfl (Go.Sl.v_nilCheck rfl) rfl ?_
  refine Go.Sl.hw_pure rfl rfl (Go.Sl.v_fieldAddr0 Ty.fd137_5 rfl) rfl ?_
  refine Go.Sl.hw_read rfl rfl rfl (Go.Sl.v_load rfl (Go.Sl.Var.sub1 Ty.sc135 (by repeat (first | assumption | refine Go.Sl.Sub.there ?_)) (.head _) (Go.Sl.GetN.lit rfl))) ?_
  refine Go.Sl.hw_pure rfl rfl (Go.Sl.v_move rfl) rfl ?_
  refine Go.Sl.hw_pure rfl rfl (Go.Sl.v_nilCheck rfl) rfl ?_
  refine Go.Sl.hw_pure rfl rfl (Go.Sl.v_fieldAddr0 Ty.fd137_0 rfl) rfl ?_
  refine Go.Sl.hw_read rfl rfl rfl (Go.Sl.v_load rfl (Go.Sl.Var.sub1 Ty.sc23 (by repeat (first | assumption | refine Go.Sl.Sub.there ?_)) (.head _) (Go.Sl.GetN.lit rfl))) ?_
  refine Go.Sl.hw_pure rfl rfl (Go.Sl.v_move rfl) rfl ?_
  refine Go.Sl.hw_read rfl rfl rfl (Go.Sl.v_convert Try.underlying3 Try.underlying23 rfl (Go.Sl.nw_u64 (by omega) (by omega))) ?_
  refine Go.Sl.hw_pure rfl rfl (Go.Sl.v_add rfl rfl (Go.Sl.nw_u64 (by omega) (by omega))) rfl ?_
  rotate_left
  refine Go.Sl.cw_exit ?_
  refine Go.Sl.xw_then_exit ?_
  refine Go.Sl.xw_round_exit ?_
  refine Go.Sl.xw_block_exit ?_
  refine Go.Sl.xw_then ?_
  refine Go.Sl.cw_seq ?_
  refine Go.Sl.cw_region ?_
  refine Go.Sl.ow_val rfl rfl (Go.Sl.v_move rfl) ?_
  refine Go.Sl.ow_val rfl rfl (Go.Sl.v_assign rfl) ?_
  refine Go.Sl.ow_nil ?_
  refine Go.Sl.xw_then ?_
  refine Go.Sl.cw_ret ?_
  refine Go.Sl.ret1 rfl (Go.Sl.res_tmp rfl) ?_
  rotate_left
  · have hll : (((m.bytes n).take j) ++ List.replicate (n - j) 0).length = n := by simp [InM.bytes_len]; omega
    refine Go.Sl.hw_read rfl rfl rfl ((v_byte rfl rfl hsm.there hM)) ?_
    refine Go.Sl.hw_pure rfl rfl (Go.Sl.v_indexAddr_ls Try.underlying57 (u8Ty) rfl rfl (by assumption) rfl (by omega)) rfl ?_
    refine Go.Sl.hw_nil ?_
    refine Go.Sl.sw_nil ?_
    refine Go.Sl.ow_storeL rfl rfl rfl u8Ty hLj (by repeat (first | exact Go.Sl.Sel.here | apply Go.Sl.Sel.there)) (by omega) trivial ?_
    intro c38 hL38
    rw [bytes_step (by omega)] at hL38
    refine Go.Sl.ow_nil ?_
    refine Go.Sl.xw_np ?_
    refine Go.Sl.xw_block ?_
    refine Go.Sl.xw_then ?_
    refine Go.Sl.cw_region ?_
    refine Go.Sl.ow_val rfl rfl (Go.Sl.v_add rfl rfl (Go.Sl.nw_i64 (by omega) (by omega))) ?_
    refine Go.Sl.ow_val rfl rfl (Go.Sl.v_move rfl) ?_
    refine Go.Sl.ow_nil ?_
    exact xw_round ((j + 1, c38) : Nat × Hp) ⟨by dsimp only; omega, hL38⟩ (by dsimp only; omega) (by first | exact Go.Sl.Cov.refl _ | (intro p; simp only [List.flatten_cons, List.flatten_nil, List.flatten_append, List.append_nil, List.nil_append, Go.Sl.cnt_append, Go.Sl.cnt_cons, Go.Sl.cnt_nil, List.set_cons_zero, List.set_cons_succ, List.length_nil, List.length_cons, Nat.zero_add, List.append]; omega)) (by repeat (first | exact True.intro | refine And.intro rfl ?_))
  · have hjn : j = n := by omega
    subst hjn
    rw [List.take_of_length_le (by rw [InM.bytes_len]; omega), Nat.sub_self, List.replicate_zero, List.append_nil] at hLj
    exact ⟨(ao18, j, cj), rfl, hLj, (by first | exact Go.Sl.Cov.refl _ | (intro p; simp only [List.flatten_cons, List.flatten_nil, List.flatten_append, List.append_nil, List.nil_append, Go.Sl.cnt_append, Go.Sl.cnt_cons, Go.Sl.cnt_nil, List.set_cons_zero, List.set_cons_succ, List.length_nil, List.length_cons, Nat.zero_add, List.append]; omega))⟩

/-! ### Final, Places, Whole, rise, End -/
theorem inFinal_c {B : Nat} {w0 : World} {G : List Hp} {m : InM} {b : Nat} {c : Hp} (hO : InAt m b c) (hs : Sub c G) :
    Go.Sl.Fn Try.prog 57 #[.pointer (some ⟨b, 0, none⟩)] B w0 G fun u G' => u = .tuple #[.int .u64 (if m.known = true then m.final else 0), .bool m.known] ∧ G' = G := by
  refine Fn.pure ?_
  obtain ⟨bp, bm, cp, cm, rfl, hP, hM⟩ := hO
  have hs1 := hs.left
  refine fn_enter Try.func57 rfl (by kernel_rfl) Try.ntmps57 (by simp) ?_
  refine Go.Sl.cw_seq ?_
  refine Go.Sl.cw_region ?_
  refine Go.Sl.ow_val rfl rfl (Go.Sl.v_assign rfl) ?_
  refine Go.Sl.ow_val rfl rfl (Go.Sl.v_assign rfl) ?_
  refine Go.Sl.ow_nil ?_
  refine Go.Sl.xw_then ?_
  refine Go.Sl.cw_seq ?_
  refine Go.Sl.cw_seq ?_
  refine Go.Sl.cw_region ?_
  refine Go.Sl.ow_val rfl rfl (Go.Sl.v_move rfl) ?_
  refine Go.Sl.ow_val rfl rfl (Go.Sl.v_eql_nil_some Try.underlying72 rfl) ?_
  refine Go.Sl.ow_val rfl rfl (Go.Sl.v_move rfl) ?_
  refine Go.Sl.ow_val rfl rfl (Go.Sl.v_move rfl) ?_
  refine Go.Sl.ow_val rfl rfl (Go.Sl.v_nilCheck rfl) ?_
  refine Go.Sl.ow_val rfl rfl (Go.Sl.v_fieldAddr0 Ty.fd137_3 rfl) ?_
  refine Go.Sl.ow_val rfl rfl (Go.Sl.v_load rfl (Go.Sl.Var.sub1 Ty.sc4 (by repeat (first | assumption | refine Go.Sl.Sub.there ?_)) (.head _) (Go.Sl.GetN.lit rfl))) ?_
  refine Go.Sl.ow_val rfl rfl (Go.Sl.v_not_bool rfl) ?_
  refine Go.Sl.ow_val rfl rfl (Go.Sl.v_pick_false rfl rfl) ?_
  refine Go.Sl.ow_nil ?_
  refine Go.Sl.xw_then ?_
  refine Go.Sl.cw_bool rfl (fun hc12 => ?_) (fun hc12 => ?_)
  refine Go.Sl.cw_seq ?_
  refine Go.Sl.cw_region ?_
  refine Go.Sl.ow_val rfl rfl (Go.Sl.v_assign rfl) ?_
  refine Go.Sl.ow_val rfl rfl (Go.Sl.v_assign rfl) ?_
  refine Go.Sl.ow_nil ?_
  refine Go.Sl.xw_then ?_
  refine Go.Sl.cw_ret ?_
  refine Go.Sl.xw_then_ret ?_
  refine Go.Sl.ret2 rfl (Go.Sl.res_tmp rfl) (Go.Sl.res_tmp rfl) ?_
  rotate_left
  refine Go.Sl.cw_skip ?_
  refine Go.Sl.xw_then ?_
  refine Go.Sl.cw_seq ?_
  refine Go.Sl.cw_region ?_
  refine Go.Sl.ow_val rfl rfl (Go.Sl.v_move rfl) ?_
  refine Go.Sl.ow_val rfl rfl (Go.Sl.v_nilCheck rfl) ?_
  refine Go.Sl.ow_val rfl rfl (Go.Sl.v_fieldAddr0 Ty.fd137_2 rfl) ?_
  refine Go.Sl.ow_val rfl rfl (Go.Sl.v_load rfl (Go.Sl.Var.sub1 Ty.sc23 (by repeat (first | assumption | refine Go.Sl.Sub.there ?_)) (.head _) (Go.Sl.GetN.lit rfl))) ?_
  refine Go.Sl.ow_val rfl rfl (Go.Sl.v_assign rfl) ?_
  refine Go.Sl.ow_val rfl rfl (Go.Sl.v_assign rfl) ?_
  refine Go.Sl.ow_nil ?_
  refine Go.Sl.xw_then ?_
  refine Go.Sl.cw_ret ?_
  refine Go.Sl.ret2 rfl (Go.Sl.res_tmp rfl) (Go.Sl.res_tmp rfl) ?_
  rotate_left
  · have h : m.known = false := by simpa using hc12
    rw [h]
    exact ⟨rfl, (by first | exact Go.Sl.Cov.refl _ | (intro p; simp only [List.flatten_cons, List.flatten_nil, List.flatten_append, List.append_nil, List.nil_append, Go.Sl.cnt_append, Go.Sl.cnt_cons, Go.Sl.cnt_nil, List.set_cons_zero, List.set_cons_succ, List.length_nil, List.length_cons, Nat.zero_add, List.append]; omega))⟩
  · have h : m.known = true := by simpa using hc12
    rw [h]
    exact ⟨rfl, (by first | exact Go.Sl.Cov.refl _ | (intro p; simp only [List.flatten_cons, List.flatten_nil, List.flatten_append, List.append_nil, List.nil_append, Go.Sl.cnt_append, Go.Sl.cnt_cons, Go.Sl.cnt_nil, List.set_cons_zero, List.set_cons_succ, List.length_nil, List.length_cons, Nat.zero_add, List.append]; omega))⟩
theorem inPlaces_c {B : Nat} {w0 : World} {G : List Hp} {m : InM} {b : Nat} {c : Hp} (hO : InAt m b c) (hs : Sub c G) :
    Go.Sl.Fn Try.prog 58 #[.pointer (some ⟨b, 0, none⟩)] B w0 G fun u G' => u = .tuple #[.int .u64 m.read, .int .u64 m.high] ∧ G' = G := by
  refine Fn.pure ?_
  obtain ⟨bp, bm, cp, cm, rfl, hP, hM⟩ := hO
  have hs1 := hs.left
  refine fn_enter Try.func58 rfl (by kernel_rfl) Try.ntmps58 (by simp) ?_
  refine Go.Sl.cw_seq ?_
  refine Go.Sl.cw_region ?_
  refine Go.Sl.ow_val rfl rfl (Go.Sl.v_assign rfl) ?_
  refine Go.Sl.ow_val rfl rfl (Go.Sl.v_assign rfl) ?_
  refine Go.Sl.ow_nil ?_
  refine Go.Sl.xw_then ?_
  refine Go.Sl.cw_seq ?_
  refine Go.Sl.cw_seq ?_
  refine Go.Sl.cw_region ?_
  refine Go.Sl.ow_val rfl rfl (Go.Sl.v_move rfl) ?_
  refine Go.Sl.ow_val rfl rfl (Go.Sl.v_eql_nil_some Try.underlying72 rfl) ?_
  refine Go.Sl.ow_nil ?_
  refine Go.Sl.xw_then ?_
  refine Go.Sl.cw_false rfl ?_
  refine Go.Sl.cw_skip ?_
  refine Go.Sl.xw_then ?_
  refine Go.Sl.cw_seq ?_
  refine Go.Sl.cw_quiet Ty.mixed (by decide +kernel) ?_
  refine Go.Sl.kw_val rfl rfl (Go.Sl.v_move rfl) ?_
  refine Go.Sl.kw_val rfl rfl (Go.Sl.v_nilCheck rfl) ?_
  refine Go.Sl.kw_val rfl rfl (Go.Sl.v_fieldAddr0 Ty.fd137_0 rfl) ?_
  refine Go.Sl.kw_val rfl rfl (Go.Sl.v_load rfl (Go.Sl.Var.sub1 Ty.sc23 (by repeat (first | assumption | refine Go.Sl.Sub.there ?_)) (.head _) (Go.Sl.GetN.lit rfl))) ?_
  refine Go.Sl.kw_val rfl rfl (Go.Sl.v_move rfl) ?_
  refine Go.Sl.kw_val rfl rfl (Go.Sl.v_nilCheck rfl) ?_
  refine Go.Sl.kw_val rfl rfl (Go.Sl.v_fieldAddr0 Ty.fd137_1 rfl) ?_
  refine Go.Sl.kw_val rfl rfl (Go.Sl.v_load rfl (Go.Sl.Var.sub1 Ty.sc23 (by repeat (first | assumption | refine Go.Sl.Sub.there ?_)) (.head _) (Go.Sl.GetN.lit rfl))) ?_
  refine Go.Sl.kw_val rfl rfl (Go.Sl.v_assign rfl) ?_
  refine Go.Sl.kw_val rfl rfl (Go.Sl.v_assign rfl) ?_
  refine Go.Sl.kw_nil ?_
  refine Go.Sl.xw_then ?_
  refine Go.Sl.cw_ret ?_
  refine Go.Sl.ret2 rfl (Go.Sl.res_tmp rfl) (Go.Sl.res_tmp rfl) ?_
  exact ⟨rfl, (by first | exact Go.Sl.Cov.refl _ | (intro p; simp only [List.flatten_cons, List.flatten_nil, List.flatten_append, List.append_nil, List.nil_append, Go.Sl.cnt_append, Go.Sl.cnt_cons, Go.Sl.cnt_nil, List.set_cons_zero, List.set_cons_succ, List.length_nil, List.length_cons, Nat.zero_add, List.append]; omega))⟩
theorem inWhole_c {B : Nat} {w0 : World} {G : List Hp} {m : InM} {b : Nat} {c : Hp} (hO : InAt m b c) (hs : Sub c G) (hw : m.WF) (hr : m.read + m.ready ≤ 18446744073709551615) :
    Go.Sl.Fn Try.prog 47 #[.pointer (some ⟨b, 0, none⟩)] B w0 G fun u G' => u = .bool (m.known && decide (m.read + m.ready = m.final)) ∧ G' = G := by
  refine Fn.pure ?_
  have hO' := hO
  obtain ⟨bp, bm, cp, cm, rfl, hP, hM⟩ := hO
  have hs1 := hs.left
  have hrd := hw.rd
  have hry := (InM.ready_spec hw).1
  refine fn_enter Try.func47 rfl (by kernel_rfl) Try.ntmps47 (by simp) ?_
  refine Go.Sl.cw_seq ?_
  refine Go.Sl.cw_region ?_
  refine Go.Sl.ow_val rfl rfl (Go.Sl.v_assign rfl) ?_
  refine Go.Sl.ow_nil ?_
  refine Go.Sl.xw_then ?_
  refine Go.Sl.cw_seq ?_
  refine Go.Sl.cw_quiet Ty.mixed (by decide +kernel) ?_
  refine Go.Sl.kw_val rfl rfl (Go.Sl.v_move rfl) ?_
  refine Go.Sl.kw_val rfl rfl (Go.Sl.v_neq_nil_some Try.underlying72 rfl) ?_
  refine Go.Sl.kw_val rfl rfl (Go.Sl.v_move rfl) ?_
  refine Go.Sl.kw_val rfl rfl (Go.Sl.v_move rfl) ?_
  refine Go.Sl.kw_val rfl rfl (Go.Sl.v_nilCheck rfl) ?_
  refine Go.Sl.kw_val rfl rfl (Go.Sl.v_fieldAddr0 Ty.fd137_3 rfl) ?_
  refine Go.Sl.kw_val rfl rfl (Go.Sl.v_load rfl (Go.Sl.Var.sub1 Ty.sc4 (by repeat (first | assumption | refine Go.Sl.Sub.there ?_)) (.head _) (Go.Sl.GetN.lit rfl))) ?_
  refine Go.Sl.kw_val rfl rfl (Go.Sl.v_pick_true rfl rfl) ?_
  refine Go.Sl.kw_val rfl rfl (Go.Sl.v_move rfl) ?_
  refine Go.Sl.kw_bool 11 rfl (fun hc11 => ?_) (fun hc11 => ?_)
  refine Go.Sl.kw_val rfl rfl (Go.Sl.v_move rfl) ?_
  refine Go.Sl.kw_val rfl rfl (Go.Sl.v_nilCheck rfl) ?_
  refine Go.Sl.kw_val rfl rfl (Go.Sl.v_fieldAddr0 Ty.fd137_0 rfl) ?_
  refine Go.Sl.kw_val rfl rfl (Go.Sl.v_load rfl (Go.Sl.Var.sub1 Ty.sc23 (by repeat (first | assumption | refine Go.Sl.Sub.there ?_)) (.head _) (Go.Sl.GetN.lit rfl))) ?_
  refine Go.Sl.kw_val rfl rfl (Go.Sl.v_move rfl) ?_
  refine Go.Sl.kw_val rfl rfl (Go.Sl.v_call rfl rfl (inReady_c hO' hs hw)) ?_
  refine Go.Sl.kw_val rfl rfl (Go.Sl.v_add rfl rfl (Go.Sl.nw_u64 (by omega) (by omega))) ?_
  refine Go.Sl.kw_val rfl rfl (Go.Sl.v_move rfl) ?_
  refine Go.Sl.kw_val rfl rfl (Go.Sl.v_nilCheck rfl) ?_
  refine Go.Sl.kw_val rfl rfl (Go.Sl.v_fieldAddr0 Ty.fd137_2 rfl) ?_
  refine Go.Sl.kw_val rfl rfl (Go.Sl.v_load rfl (Go.Sl.Var.sub1 Ty.sc23 (by repeat (first | assumption | refine Go.Sl.Sub.there ?_)) (.head _) (Go.Sl.GetN.lit rfl))) ?_
  refine Go.Sl.kw_val rfl rfl (Go.Sl.v_eql rfl rfl) ?_
  refine Go.Sl.kw_val rfl rfl (Go.Sl.v_pick_true rfl rfl) ?_
  refine Go.Sl.kw_val rfl rfl (Go.Sl.v_assign rfl) ?_
  refine Go.Sl.kw_nil ?_
  refine Go.Sl.xw_then ?_
  refine Go.Sl.cw_ret ?_
  refine Go.Sl.ret1 rfl (Go.Sl.res_tmp rfl) ?_
  rotate_left
  refine Go.Sl.kw_skip rfl rfl ?_
  refine Go.Sl.kw_skip rfl rfl ?_
  refine Go.Sl.kw_skip rfl rfl ?_
  refine Go.Sl.kw_skip rfl rfl ?_
  refine Go.Sl.kw_skip rfl rfl ?_
  refine Go.Sl.kw_skip rfl rfl ?_
  refine Go.Sl.kw_skip rfl rfl ?_
  refine Go.Sl.kw_skip rfl rfl ?_
  refine Go.Sl.kw_skip rfl rfl ?_
  refine Go.Sl.kw_skip rfl rfl ?_
  refine Go.Sl.kw_skip rfl rfl ?_
  refine Go.Sl.kw_skip rfl rfl ?_
  refine Go.Sl.kw_val rfl rfl (Go.Sl.v_pick_false rfl rfl) ?_
  refine Go.Sl.kw_val rfl rfl (Go.Sl.v_assign rfl) ?_
  refine Go.Sl.kw_nil ?_
  refine Go.Sl.xw_then ?_
  refine Go.Sl.cw_ret ?_
  refine Go.Sl.ret1 rfl (Go.Sl.res_tmp rfl) ?_
  rotate_left
  · exact ⟨by rw [hc11]; rfl, (by first | exact Go.Sl.Cov.refl _ | (intro p; simp only [List.flatten_cons, List.flatten_nil, List.flatten_append, List.append_nil, List.nil_append, Go.Sl.cnt_append, Go.Sl.cnt_cons, Go.Sl.cnt_nil, List.set_cons_zero, List.set_cons_succ, List.length_nil, List.length_cons, Nat.zero_add, List.append]; omega))⟩
  · exact ⟨by rw [hc11]; rfl, (by first | exact Go.Sl.Cov.refl _ | (intro p; simp only [List.flatten_cons, List.flatten_nil, List.flatten_append, List.append_nil, List.nil_append, Go.Sl.cnt_append, Go.Sl.cnt_cons, Go.Sl.cnt_nil, List.set_cons_zero, List.set_cons_succ, List.length_nil, List.length_cons, Nat.zero_add, List.append]; omega))⟩
def InM.rise (m : InM) (stop : Int) : InM := if stop ≤ m.high then m else { m with high := stop }
def InM.more (m : InM) (stop : Int) : Int := if stop ≤ m.high then 0 else stop - m.high
theorem inRise_c {B : Nat} {w0 : World} {G : List Hp} {R : Hp → List Hp} {m : InM} {b : Nat} {c : Hp} {stop : Int} (hsel : Sel G c R) (hO : InAt m b c) (hh : 0 ≤ m.high) (hst : 0 ≤ stop ∧ stop ≤ 18446744073709551615) :
    Go.Sl.Fn Try.prog 80 #[.pointer (some ⟨b, 0, none⟩), .int .u64 stop] B w0 G fun u G' => ∃ c' : Hp, u = .int .u64 (m.more stop) ∧ InAt (m.rise stop) b c' ∧ G' = R c' := by
  refine Fn.sel0 hsel fun F hR hF => ?_
  obtain ⟨bp, bm, cp, cm, rfl, hP, hM⟩ := hO
  refine fn_enter Try.func80 rfl (by kernel_rfl) Try.ntmps80 (by simp) ?_
  refine cw_split3' ?_
  refine Go.Sl.cw_seq ?_
  refine Go.Sl.cw_region ?_
  refine Go.Sl.ow_val rfl rfl (Go.Sl.v_assign rfl) ?_
  refine Go.Sl.ow_nil ?_
  refine Go.Sl.xw_then ?_
  refine Go.Sl.cw_seq ?_
  refine Go.Sl.cw_seq ?_
  refine Go.Sl.cw_region ?_
  refine Go.Sl.ow_val rfl rfl (Go.Sl.v_move rfl) ?_
  refine Go.Sl.ow_val rfl rfl (Go.Sl.v_move rfl) ?_
  refine Go.Sl.ow_val rfl rfl (Go.Sl.v_nilCheck rfl) ?_
  refine Go.Sl.ow_val rfl rfl (Go.Sl.v_fieldAddr0 Ty.fd137_1 rfl) ?_
  refine Go.Sl.ow_val rfl rfl (Go.Sl.v_load rfl (Go.Sl.Var.at1 Ty.sc23 .here (Go.Sl.GetN.lit rfl))) ?_
  refine Go.Sl.ow_val rfl rfl (Go.Sl.v_leq rfl rfl) ?_
  refine Go.Sl.ow_nil ?_
  refine Go.Sl.xw_then ?_
  refine Go.Sl.cw_dec rfl (fun hc11 => ?_) (fun hc11 => ?_)
  refine Go.Sl.cw_seq ?_
  refine Go.Sl.cw_region ?_
  refine Go.Sl.ow_val rfl rfl (Go.Sl.v_assign rfl) ?_
  refine Go.Sl.ow_nil ?_
  refine Go.Sl.xw_then ?_
  refine Go.Sl.cw_ret ?_
  refine Go.Sl.xw_then_ret ?_
  refine Go.Sl.ret1 rfl (Go.Sl.res_tmp rfl) ?_
  rotate_left
  refine Go.Sl.cw_skip ?_
  refine Go.Sl.xw_then ?_
  refine Go.Sl.cw_seq ?_
  refine Go.Sl.cw_region ?_
  refine Go.Sl.ow_val rfl rfl (Go.Sl.v_move rfl) ?_
  refine Go.Sl.ow_val rfl rfl (Go.Sl.v_move rfl) ?_
  refine Go.Sl.ow_val rfl rfl (Go.Sl.v_nilCheck rfl) ?_
  refine Go.Sl.ow_val rfl rfl (Go.Sl.v_fieldAddr0 Ty.fd137_1 rfl) ?_
  refine Go.Sl.ow_val rfl rfl (Go.Sl.v_load rfl (Go.Sl.Var.at1 Ty.sc23 .here (Go.Sl.GetN.lit rfl))) ?_
  refine Go.Sl.ow_val rfl rfl (Go.Sl.v_sub rfl rfl (Go.Sl.nw_u64 (by omega) (by omega))) ?_
  refine Go.Sl.ow_val rfl rfl (Go.Sl.v_assign rfl) ?_
  refine Go.Sl.ow_nil ?_
  refine Go.Sl.xw_then ?_
  refine Go.Sl.cw_seq ?_
  refine Go.Sl.cw_region ?_
  refine Go.Sl.ow_val rfl rfl (Go.Sl.v_move rfl) ?_
  refine Go.Sl.ow_val rfl rfl (Go.Sl.v_move rfl) ?_
  refine Go.Sl.ow_val rfl rfl (Go.Sl.v_nilCheck rfl) ?_
  refine Go.Sl.ow_val rfl rfl (Go.Sl.v_fieldAddr0 Ty.fd137_1 rfl) ?_
  refine Go.Sl.ow_store1 rfl rfl rfl rfl Ty.sc23 .here (Go.Sl.SetN.one (by first | decide | exact Nat.le_of_ble_eq_true rfl)) ?_
  refine Go.Sl.ow_nil ?_
  refine Go.Sl.xw_then ?_
  refine Go.Sl.cw_seq ?_
  refine Go.Sl.cw_region ?_
  refine Go.Sl.ow_val rfl rfl (Go.Sl.v_move rfl) ?_
  refine Go.Sl.ow_val rfl rfl (Go.Sl.v_assign rfl) ?_
  refine Go.Sl.ow_nil ?_
  refine Go.Sl.xw_then ?_
  refine Go.Sl.cw_ret ?_
  refine Go.Sl.ret1 rfl (Go.Sl.res_tmp rfl) ?_
  rotate_left
  · rw [show m.more stop = 0 from if_pos hc11, show m.rise stop = m from if_pos hc11]
    exact ⟨_, rfl, ⟨bp, bm, cp, cm, rfl, hP, hM⟩, (by first | exact Go.Sl.Cov.refl _ | (intro p; simp only [List.flatten_cons, List.flatten_nil, List.flatten_append, List.append_nil, List.nil_append, Go.Sl.cnt_append, Go.Sl.cnt_cons, Go.Sl.cnt_nil, List.set_cons_zero, List.set_cons_succ, List.length_nil, List.length_cons, Nat.zero_add, List.append]; omega))⟩
  · rw [show m.more stop = stop - m.high from if_neg hc11, show m.rise stop = ⟨m.read, stop, m.final, m.known, m.l, m.f⟩ from if_neg hc11]
    exact ⟨_, rfl, InAt.of hP hM rfl, (by first | exact Go.Sl.Cov.refl _ | (intro p; simp only [List.flatten_cons, List.flatten_nil, List.flatten_append, List.append_nil, List.nil_append, Go.Sl.cnt_append, Go.Sl.cnt_cons, Go.Sl.cnt_nil, List.set_cons_zero, List.set_cons_succ, List.length_nil, List.length_cons, Nat.zero_add, List.append]; omega))⟩
end Go.Proofs.Ytbpnnkkbaakdjaa
