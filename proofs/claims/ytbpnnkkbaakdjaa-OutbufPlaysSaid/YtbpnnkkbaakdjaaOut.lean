/- What the methods of outbuf.Buffer do, each as a contract. Conditions: numbers fit their types, no more bytes than a buffer holds. -/
import Derived.Test.YtbpnnkkbaakdjaaSpanMore
namespace Go.Proofs.Ytbpnnkkbaakdjaa
open Go Go.Sl Go.Proofs
set_option maxRecDepth 20000
set_option linter.unusedVariables false
set_option linter.unusedSimpArgs false

theorem u8Ty : EncTy Try.prog 5 enB := enB_ty Ty.sc5
theorem cw_split4 {P : Program} {Q : Exit → Act → World → Prop} {B : Nat} {w0 : World} {N : Nat} {E : Env} {k : Code} {a b d e : Hp} {F : List Hp} (h : CW P Q B w0 N (a :: b :: d :: e :: F) E k) : CW P Q B w0 N ((a ++ (b ++ (d ++ e))) :: F) E k := cw_flat (a :: b :: d :: e :: F) (.of_eq (by simp)) h

/-! ### bytes.Clone -/
theorem cloneB_c {B : Nat} {w0 : World} {G : List Hp} {ao : Option Addr} {n cap : Nat} {l : List UInt8} (hV : Vw enB (St B w0 G) (.slice ao n cap) l) (hb : l.length ≤ 100000000) :
    Go.Sl.Fn Try.prog 77 #[.slice ao n cap] B w0 G fun u G' => ∃ x : Option Addr × Nat × Hp, u = .slice x.1 l.length x.2.1 ∧ Ls enB 5 (.slice x.1 l.length x.2.1) x.2.2 l ∧ G' = [x.2.2] ++ G := by
  refine Fn.new ?_
  have hn := hV.len
  refine fn_enter Try.func77 rfl (by kernel_rfl) Try.ntmps77 (by simp) ?_
  refine Go.Sl.cw_seq ?_
  refine Go.Sl.cw_region ?_
  refine Go.Sl.ow_val rfl rfl (Go.Sl.v_assign rfl) ?_
  refine Go.Sl.ow_nil ?_
  refine Go.Sl.xw_then ?_
  refine Go.Sl.cw_seq ?_
  refine Go.Sl.cw_seq ?_
  refine Go.Sl.cw_region ?_
  refine Go.Sl.ow_val rfl rfl (Go.Sl.v_move rfl) ?_
  refine Go.Sl.ow_val rfl rfl (Go.Sl.v_eql_slnil Try.underlying57 rfl) ?_
  refine Go.Sl.ow_nil ?_
  refine Go.Sl.xw_then ?_
  refine Go.Sl.cw_bool rfl (fun hc4 => ?_) (fun hc4 => ?_)
  refine Go.Sl.cw_seq ?_
  refine Go.Sl.cw_region ?_
  refine Go.Sl.ow_val rfl rfl (Go.Sl.v_assign rfl) ?_
  refine Go.Sl.ow_nil ?_
  refine Go.Sl.xw_then ?_
  refine Go.Sl.cw_ret ?_
  refine Go.Sl.xw_then_ret ?_
  refine Go.Sl.ret1 rfl (Go.Sl.res_tmp rfl) ?_
  rotate_left
  refine Go.Sl.cw_skip ?_
  refine Go.Sl.xw_then ?_
  refine Go.Sl.cw_seq ?_
  refine Go.Sl.cw_region ?_
  (refine Go.Sl.ow_buildL (es := []) rfl rfl Try.underlying57 Ty.em57 (u8Ty) rfl rfl (by simp [*]) (by simp only [List.length_cons, List.length_nil]; decide) ?_; intro ao5 c5 hL5)
  refine Go.Sl.ow_val rfl rfl (Go.Sl.v_move rfl) ?_
  (refine Go.Sl.ow_appendL rfl rfl Try.underlying57 Try.underlying57 Ty.em57 (u8Ty) rfl rfl (by assumption) (by repeat (first | exact Go.Sl.Sel.here | apply Go.Sl.Sel.there)) (hV.there) (by first | omega | (simp only [List.length_append, List.length_take, List.length_drop, List.length_nil, List.length_cons]; omega)) (by first | omega | (simp only [List.length_append, List.length_take, List.length_drop, List.length_nil, List.length_cons]; omega)) ?_; intro ao7 cap7 c7 hL7)
  refine Go.Sl.ow_val rfl rfl (Go.Sl.v_assign rfl) ?_
  refine Go.Sl.ow_nil ?_
  refine Go.Sl.xw_then ?_
  refine Go.Sl.cw_ret ?_
  refine Go.Sl.ret1 rfl (Go.Sl.res_tmp rfl) ?_
  rotate_left
  · have hao : ao = none := by simpa using hc4
    have hl : l = [] := by
      cases l with
      | nil => rfl
      | cons a l => have := (hV.get _ _ _ rfl (by simp)).1; rw [hao] at this; simp at this
    subst hl
    exact ⟨(none, 0, []), rfl, Ls.nil, (by first | exact Go.Sl.Cov.refl _ | (intro p; simp only [List.flatten_cons, List.flatten_nil, List.flatten_append, List.append_nil, List.nil_append, Go.Sl.cnt_append, Go.Sl.cnt_cons, Go.Sl.cnt_nil, List.set_cons_zero, List.set_cons_succ, List.length_nil, List.length_cons, Nat.zero_add, List.append]; omega))⟩
  · exact ⟨(ao7, cap7, c7), by simp, by simpa using hL7, (by first | exact Go.Sl.Cov.refl _ | (intro p; simp only [List.flatten_cons, List.flatten_nil, List.flatten_append, List.append_nil, List.nil_append, Go.Sl.cnt_append, Go.Sl.cnt_cons, Go.Sl.cnt_nil, List.set_cons_zero, List.set_cons_succ, List.length_nil, List.length_cons, Nat.zero_add, List.append]; omega))⟩

structure BufM where
  data : List UInt8
  base : Int
  pend : List Rg
  came : List Rg
  fin : Bool
  waits : Bool
  endCame : Bool
def BufM.stop (m : BufM) : Int := m.base + m.data.length
def OutAt (m : BufM) (b : Nat) (c : Hp) : Prop := ∃ ao cap bp bc cd cp cc, c = [(b, .cells [.slice ao m.data.length cap, .int .u64 m.base, .pointer (some ⟨bp, 0, none⟩), .pointer (some ⟨bc, 0, none⟩), .bool m.fin, .bool m.waits, .bool m.endCame].toArray 133 (0, 0))] ++ (cd ++ (cp ++ cc)) ∧ Ls enB 5 (.slice ao m.data.length cap) cd m.data ∧ SetAt ⟨65536, m.pend⟩ bp cp ∧ SetAt ⟨65536, m.came⟩ bc cc
theorem OutAt.of {m : BufM} {b bp bc cap : Nat} {ao : Option Addr} {d : List UInt8} {base : Int} {p k : List Rg} {f w e : Bool} {cd cp cc : Hp} (hL : Ls enB 5 (.slice ao d.length cap) cd d) (hP : SetAt ⟨65536, p⟩ bp cp) (hC : SetAt ⟨65536, k⟩ bc cc) (h : m = ⟨d, base, p, k, f, w, e⟩) : OutAt m b ([(b, .cells [.slice ao d.length cap, .int .u64 base, .pointer (some ⟨bp, 0, none⟩), .pointer (some ⟨bc, 0, none⟩), .bool f, .bool w, .bool e].toArray 133 (0, 0))] ++ (cd ++ (cp ++ cc))) := by
  subst h
  exact ⟨ao, cap, bp, bc, cd, cp, cc, rfl, hL, hP, hC⟩
structure BufM.WF (m : BufM) : Prop where
  low : 0 ≤ m.base
  top : m.base + m.data.length ≤ 65536
  gp : Good m.pend
  gc : Good m.came
  ip : ∀ n, InR m.pend n → 0 ≤ n ∧ n < m.base + m.data.length
  ic : ∀ n, InR m.came n → 0 ≤ n ∧ n < m.base + m.data.length
  dis : ∀ n, InR m.pend n → ¬ InR m.came n
  gone : ∀ n, 0 ≤ n → n < m.base → InR m.came n
  max_ : ¬ InR m.came m.base
theorem BufM.WF.lp {m : BufM} (h : m.WF) : (m.pend.length : Int) ≤ 65536 := by
  have := good_len' (u := 0) h.gp (by have := h.low; omega) h.ip
  have := h.top
  omega
theorem BufM.WF.lc {m : BufM} (h : m.WF) : (m.came.length : Int) ≤ 65536 := by
  have := good_len' (u := 0) h.gc (by have := h.low; omega) h.ic
  have := h.top
  omega
theorem BufM.WF.sp {m : BufM} (h : m.WF) : (⟨65536, m.pend⟩ : SetM).WF := ⟨h.gp, by have := h.lp; dsimp only; omega, by dsimp only; omega⟩
theorem BufM.WF.sc {m : BufM} (h : m.WF) : (⟨65536, m.came⟩ : SetM).WF := ⟨h.gc, by have := h.lc; dsimp only; omega, by dsimp only; omega⟩

def buf0 : BufM := ⟨[], 0, [], [], false, false, false⟩
theorem b_buf0 : Build Try.prog 133 #[] (.agg [Value.slice none 0 0, .int .u64 0, .pointer none, .pointer none, .bool false, .bool false, .bool false].toArray) := fun w => by kernel_rfl
/-- open, when nothing was opened -/
theorem outOpen0_c {B : Nat} {w0 : World} {G : List Hp} {R : Hp → List Hp} {b : Nat} (hsel : Sel G [(b, .cells [Value.slice none 0 0, .int .u64 0, .pointer none, .pointer none, .bool false, .bool false, .bool false].toArray 133 (0, 0))] R) :
    Go.Sl.Fn Try.prog 76 #[.pointer (some ⟨b, 0, none⟩)] B w0 G fun u G' => ∃ c : Hp, u = .tuple #[] ∧ OutAt buf0 b c ∧ G' = R c := by
  refine Fn.sel0 hsel fun F hR hF => ?_
  refine fn_enter Try.func76 rfl (by kernel_rfl) Try.ntmps76 (by simp) ?_
  refine Go.Sl.cw_seq ?_
  refine Go.Sl.cw_region ?_
  refine Go.Sl.ow_val rfl rfl (Go.Sl.v_move rfl) ?_
  refine Go.Sl.ow_val rfl rfl (Go.Sl.v_nilCheck rfl) ?_
  refine Go.Sl.ow_val rfl rfl (Go.Sl.v_fieldAddr0 Ty.fd133_2 rfl) ?_
  refine Go.Sl.ow_val rfl rfl (Go.Sl.v_load rfl (Go.Sl.Var.at1 Ty.sc25 .here (Go.Sl.GetN.lit rfl))) ?_
  refine Go.Sl.ow_val rfl rfl (Go.Sl.v_eql_nil_none Try.underlying25 rfl) ?_
  refine Go.Sl.ow_nil ?_
  refine Go.Sl.xw_then ?_
  refine Go.Sl.cw_true rfl ?_
  refine Go.Sl.cw_seq ?_
  refine Go.Sl.cw_region ?_
  refine Go.Sl.ow_val rfl rfl (Go.Sl.v_move rfl) ?_
  (refine Go.Sl.ow_call rfl rfl rfl rfl (newSet_c) ?_; rintro _ _ ⟨x8, rfl, hq8, rfl⟩)
  refine Go.Sl.ow_val rfl rfl (Go.Sl.v_nilCheck rfl) ?_
  refine Go.Sl.ow_val rfl rfl (Go.Sl.v_fieldAddr0 Ty.fd133_2 rfl) ?_
  refine Go.Sl.ow_store1 rfl rfl rfl rfl Ty.sc25 (.there .here) (Go.Sl.SetN.one (by first | decide | exact Nat.le_of_ble_eq_true rfl)) ?_
  refine Go.Sl.ow_nil ?_
  refine Go.Sl.xw_then ?_
  refine Go.Sl.cw_region ?_
  refine Go.Sl.ow_val rfl rfl (Go.Sl.v_move rfl) ?_
  (refine Go.Sl.ow_call rfl rfl rfl rfl (newSet_c) ?_; rintro _ _ ⟨x12, rfl, hq12, rfl⟩)
  refine Go.Sl.ow_val rfl rfl (Go.Sl.v_nilCheck rfl) ?_
  refine Go.Sl.ow_val rfl rfl (Go.Sl.v_fieldAddr0 Ty.fd133_3 rfl) ?_
  refine Go.Sl.ow_store1 rfl rfl rfl rfl Ty.sc25 (.there (.there .here)) (Go.Sl.SetN.one (by first | decide | exact Nat.le_of_ble_eq_true rfl)) ?_
  refine Go.Sl.ow_nil ?_
  refine Go.Sl.ret0n rfl ?_
  exact ⟨[(b, .cells [Value.slice none 0 0, .int .u64 0, .pointer (some ⟨x8.1, 0, none⟩), .pointer (some ⟨x12.1, 0, none⟩), .bool false, .bool false, .bool false].toArray 133 (0, 0))] ++ ([] ++ (x8.2 ++ x12.2)), rfl, ⟨none, 0, x8.1, x12.1, [], x8.2, x12.2, rfl, Ls.nil, hq8, hq12⟩, (by first | exact Go.Sl.Cov.refl _ | (intro p; simp only [List.flatten_cons, List.flatten_nil, List.flatten_append, List.append_nil, List.nil_append, Go.Sl.cnt_append, Go.Sl.cnt_cons, Go.Sl.cnt_nil, List.set_cons_zero, List.set_cons_succ, List.length_nil, List.length_cons, Nat.zero_add, List.append]; omega))⟩
theorem newOut_c {B : Nat} {w0 : World} {G : List Hp} :
    Go.Sl.Fn Try.prog 36 #[] B w0 G fun u G' => ∃ x : Nat × Hp, u = .pointer (some ⟨x.1, 0, none⟩) ∧ OutAt buf0 x.1 x.2 ∧ G' = [x.2] ++ G := by
  refine Fn.new ?_
  refine fn_enter Try.func36 rfl (by kernel_rfl) Try.ntmps36 (by simp) ?_
  refine Go.Sl.cw_seq ?_
  refine Go.Sl.cw_region ?_
  refine Go.Sl.ow_val rfl rfl (Go.Sl.v_assign rfl) ?_
  refine Go.Sl.ow_nil ?_
  refine Go.Sl.xw_then ?_
  refine Go.Sl.cw_seq ?_
  refine Go.Sl.cw_region ?_
  refine Go.Sl.ow_val rfl rfl (Go.Sl.v_build rfl (b_buf0)) ?_
  (refine Go.Sl.ow_box rfl rfl rfl rfl ?_; intro b3)
  refine Go.Sl.ow_val rfl rfl (Go.Sl.v_assign rfl) ?_
  refine Go.Sl.ow_nil ?_
  refine Go.Sl.xw_then ?_
  refine Go.Sl.cw_seq ?_
  refine Go.Sl.cw_region ?_
  refine Go.Sl.ow_val rfl rfl (Go.Sl.v_move rfl) ?_
  (refine Go.Sl.ow_call rfl rfl rfl rfl (outOpen0_c (by repeat (first | exact Go.Sl.Sel.here | apply Go.Sl.Sel.there))) ?_; rintro _ _ ⟨x5, rfl, hq5, rfl⟩)
  refine Go.Sl.ow_nil ?_
  refine Go.Sl.xw_then ?_
  refine Go.Sl.cw_seq ?_
  refine Go.Sl.cw_region ?_
  refine Go.Sl.ow_val rfl rfl (Go.Sl.v_move rfl) ?_
  refine Go.Sl.ow_val rfl rfl (Go.Sl.v_assign rfl) ?_
  refine Go.Sl.ow_nil ?_
  refine Go.Sl.xw_then ?_
  refine Go.Sl.cw_ret ?_
  refine Go.Sl.ret1 rfl (Go.Sl.res_tmp rfl) ?_
  exact ⟨(b3, x5), rfl, hq5, (by first | exact Go.Sl.Cov.refl _ | (intro p; simp only [List.flatten_cons, List.flatten_nil, List.flatten_append, List.append_nil, List.nil_append, Go.Sl.cnt_append, Go.Sl.cnt_cons, Go.Sl.cnt_nil, List.set_cons_zero, List.set_cons_succ, List.length_nil, List.length_cons, Nat.zero_add, List.append]; omega))⟩

theorem outOpen_c {B : Nat} {w0 : World} {G : List Hp} {m : BufM} {b : Nat} {c : Hp} (hO : OutAt m b c) (hs : Sub c G) :
    Go.Sl.Fn Try.prog 76 #[.pointer (some ⟨b, 0, none⟩)] B w0 G fun u G' => u = .tuple #[] ∧ G' = G := by
  refine Fn.pure ?_
  obtain ⟨ao, cap, bp, bc, cd, cp, cc, rfl, hL, hP, hC⟩ := hO
  have hs1 := hs.left
  refine fn_enter Try.func76 rfl (by kernel_rfl) Try.ntmps76 (by simp) ?_
  refine Go.Sl.cw_seq ?_
  refine Go.Sl.cw_region ?_
  refine Go.Sl.ow_val rfl rfl (Go.Sl.v_move rfl) ?_
  refine Go.Sl.ow_val rfl rfl (Go.Sl.v_nilCheck rfl) ?_
  refine Go.Sl.ow_val rfl rfl (Go.Sl.v_fieldAddr0 Ty.fd133_2 rfl) ?_
  refine Go.Sl.ow_val rfl rfl (Go.Sl.v_load rfl (Go.Sl.Var.sub1 Ty.sc25 (by repeat (first | assumption | refine Go.Sl.Sub.there ?_)) (.head _) (Go.Sl.GetN.lit rfl))) ?_
  refine Go.Sl.ow_val rfl rfl (Go.Sl.v_eql_nil_some Try.underlying25 rfl) ?_
  refine Go.Sl.ow_nil ?_
  refine Go.Sl.xw_then ?_
  refine Go.Sl.cw_false rfl ?_
  refine Go.Sl.cw_skip ?_
  refine Go.Sl.ret0n rfl ?_
  exact ⟨rfl, (by first | exact Go.Sl.Cov.refl _ | (intro p; simp only [List.flatten_cons, List.flatten_nil, List.flatten_append, List.append_nil, List.nil_append, Go.Sl.cnt_append, Go.Sl.cnt_cons, Go.Sl.cnt_nil, List.set_cons_zero, List.set_cons_succ, List.length_nil, List.length_cons, Nat.zero_add, List.append]; omega))⟩
theorem outStop_c {B : Nat} {w0 : World} {G : List Hp} {m : BufM} {b : Nat} {c : Hp} (hO : OutAt m b c) (hs : Sub c G) (hw : m.WF) :
    Go.Sl.Fn Try.prog 64 #[.pointer (some ⟨b, 0, none⟩)] B w0 G fun u G' => u = .int .u64 (m.base + m.data.length) ∧ G' = G := by
  refine Fn.pure ?_
  obtain ⟨ao, cap, bp, bc, cd, cp, cc, rfl, hL, hP, hC⟩ := hO
  have hs1 := hs.left
  have h1 := hw.low
  have h2 := hw.top
  refine fn_enter Try.func64 rfl (by kernel_rfl) Try.ntmps64 (by simp) ?_
  refine Go.Sl.cw_seq ?_
  refine Go.Sl.cw_region ?_
  refine Go.Sl.ow_val rfl rfl (Go.Sl.v_assign rfl) ?_
  refine Go.Sl.ow_nil ?_
  refine Go.Sl.xw_then ?_
  refine Go.Sl.cw_seq ?_
  refine Go.Sl.cw_seq ?_
  refine Go.Sl.cw_region ?_
  refine Go.Sl.ow_val rfl rfl (Go.Sl.v_move rfl) ?_
  refine Go.Sl.ow_val rfl rfl (Go.Sl.v_eql_nil_some Try.underlying58 rfl) ?_
  refine Go.Sl.ow_nil ?_
  refine Go.Sl.xw_then ?_
  refine Go.Sl.cw_false rfl ?_
  refine Go.Sl.cw_skip ?_
  refine Go.Sl.xw_then ?_
  refine Go.Sl.cw_seq ?_
  refine Go.Sl.cw_quiet Ty.mixed (by decide +kernel) ?_
  refine Go.Sl.kw_val rfl rfl (Go.Sl.v_move rfl) ?_
  refine Go.Sl.kw_val rfl rfl (Go.Sl.v_nilCheck rfl) ?_
  refine Go.Sl.kw_val rfl rfl (Go.Sl.v_fieldAddr0 Ty.fd133_1 rfl) ?_
  refine Go.Sl.kw_val rfl rfl (Go.Sl.v_load rfl (Go.Sl.Var.sub1 Ty.sc23 (by repeat (first | assumption | refine Go.Sl.Sub.there ?_)) (.head _) (Go.Sl.GetN.lit rfl))) ?_
  refine Go.Sl.kw_val rfl rfl (Go.Sl.v_move rfl) ?_
  refine Go.Sl.kw_val rfl rfl (Go.Sl.v_nilCheck rfl) ?_
  refine Go.Sl.kw_val rfl rfl (Go.Sl.v_fieldAddr0 Ty.fd133_0 rfl) ?_
  refine Go.Sl.kw_val rfl rfl (Go.Sl.v_load rfl (Go.Sl.Var.sub1 Ty.sc57 (by repeat (first | assumption | refine Go.Sl.Sub.there ?_)) (.head _) (Go.Sl.GetN.lit rfl))) ?_
  refine Go.Sl.kw_val rfl rfl (Go.Sl.v_len rfl Try.underlying57 rfl) ?_
  refine Go.Sl.kw_val rfl rfl (Go.Sl.v_convert Try.underlying3 Try.underlying23 rfl (Go.Sl.nw_u64 (by omega) (by omega))) ?_
  refine Go.Sl.kw_val rfl rfl (Go.Sl.v_add rfl rfl (Go.Sl.nw_u64 (by omega) (by omega))) ?_
  refine Go.Sl.kw_val rfl rfl (Go.Sl.v_assign rfl) ?_
  refine Go.Sl.kw_nil ?_
  refine Go.Sl.xw_then ?_
  refine Go.Sl.cw_ret ?_
  refine Go.Sl.ret1 rfl (Go.Sl.res_tmp rfl) ?_
  exact ⟨rfl, (by first | exact Go.Sl.Cov.refl _ | (intro p; simp only [List.flatten_cons, List.flatten_nil, List.flatten_append, List.append_nil, List.nil_append, Go.Sl.cnt_append, Go.Sl.cnt_cons, Go.Sl.cnt_nil, List.set_cons_zero, List.set_cons_succ, List.length_nil, List.length_cons, Nat.zero_add, List.append]; omega))⟩
theorem outWaits_c {B : Nat} {w0 : World} {G : List Hp} {m : BufM} {b : Nat} {c : Hp} (hO : OutAt m b c) (hs : Sub c G) (hw : m.WF) :
    Go.Sl.Fn Try.prog 41 #[.pointer (some ⟨b, 0, none⟩)] B w0 G fun u G' => u = .bool (m.waits || decide (0 < m.pend.length)) ∧ G' = G := by
  refine Fn.pure ?_
  obtain ⟨ao, cap, bp, bc, cd, cp, cc, rfl, hL, hP, hC⟩ := hO
  have hs1 := hs.left
  have hsp := hs.right.right.left
  refine fn_enter Try.func41 rfl (by kernel_rfl) Try.ntmps41 (by simp) ?_
  refine Go.Sl.cw_seq ?_
  refine Go.Sl.cw_region ?_
  refine Go.Sl.ow_val rfl rfl (Go.Sl.v_assign rfl) ?_
  refine Go.Sl.ow_nil ?_
  refine Go.Sl.xw_then ?_
  refine Go.Sl.cw_seq ?_
  refine Go.Sl.cw_region ?_
  refine Go.Sl.ow_val rfl rfl (Go.Sl.v_move rfl) ?_
  refine Go.Sl.ow_val rfl rfl (Go.Sl.v_neq_nil_some Try.underlying58 rfl) ?_
  refine Go.Sl.ow_val rfl rfl (Go.Sl.v_move rfl) ?_
  refine Go.Sl.ow_val rfl rfl (Go.Sl.v_move rfl) ?_
  refine Go.Sl.ow_val rfl rfl (Go.Sl.v_nilCheck rfl) ?_
  refine Go.Sl.ow_val rfl rfl (Go.Sl.v_fieldAddr0 Ty.fd133_5 rfl) ?_
  refine Go.Sl.ow_val rfl rfl (Go.Sl.v_load rfl (Go.Sl.Var.sub1 Ty.sc4 (by repeat (first | assumption | refine Go.Sl.Sub.there ?_)) (.head _) (Go.Sl.GetN.lit rfl))) ?_
  refine Go.Sl.ow_val rfl rfl (Go.Sl.v_move rfl) ?_
  refine Go.Sl.ow_bool 10 rfl (fun hc10 => ?_) (fun hc10 => ?_)
  refine Go.Sl.ow_skip rfl rfl ?_
  refine Go.Sl.ow_skip rfl rfl ?_
  refine Go.Sl.ow_skip rfl rfl ?_
  refine Go.Sl.ow_skip rfl rfl ?_
  refine Go.Sl.ow_skip rfl rfl ?_
  refine Go.Sl.ow_skip rfl rfl ?_
  refine Go.Sl.ow_val rfl rfl (Go.Sl.v_pick_true rfl rfl) ?_
  refine Go.Sl.ow_val rfl rfl (Go.Sl.v_pick_true rfl rfl) ?_
  refine Go.Sl.ow_val rfl rfl (Go.Sl.v_assign rfl) ?_
  refine Go.Sl.ow_nil ?_
  refine Go.Sl.xw_then ?_
  refine Go.Sl.cw_ret ?_
  refine Go.Sl.ret1 rfl (Go.Sl.res_tmp rfl) ?_
  rotate_left
  refine Go.Sl.ow_val rfl rfl (Go.Sl.v_move rfl) ?_
  refine Go.Sl.ow_val rfl rfl (Go.Sl.v_nilCheck rfl) ?_
  refine Go.Sl.ow_val rfl rfl (Go.Sl.v_fieldAddr0 Ty.fd133_2 rfl) ?_
  refine Go.Sl.ow_val rfl rfl (Go.Sl.v_load rfl (Go.Sl.Var.sub1 Ty.sc25 (by repeat (first | assumption | refine Go.Sl.Sub.there ?_)) (.head _) (Go.Sl.GetN.lit rfl))) ?_
  refine Go.Sl.ow_val rfl rfl (Go.Sl.v_call rfl rfl (setLen_l hP hsp)) ?_
  refine Go.Sl.ow_val rfl rfl (Go.Sl.v_gtr rfl rfl) ?_
  refine Go.Sl.ow_val rfl rfl (Go.Sl.v_pick_false rfl rfl) ?_
  refine Go.Sl.ow_val rfl rfl (Go.Sl.v_pick_true rfl rfl) ?_
  refine Go.Sl.ow_val rfl rfl (Go.Sl.v_assign rfl) ?_
  refine Go.Sl.ow_nil ?_
  refine Go.Sl.xw_then ?_
  refine Go.Sl.cw_ret ?_
  refine Go.Sl.ret1 rfl (Go.Sl.res_tmp rfl) ?_
  rotate_left
  · exact ⟨by rw [hc10]; rfl, (by first | exact Go.Sl.Cov.refl _ | (intro p; simp only [List.flatten_cons, List.flatten_nil, List.flatten_append, List.append_nil, List.nil_append, Go.Sl.cnt_append, Go.Sl.cnt_cons, Go.Sl.cnt_nil, List.set_cons_zero, List.set_cons_succ, List.length_nil, List.length_cons, Nat.zero_add, List.append]; omega))⟩
  · exact ⟨by rw [hc10]; congr 1; simp, (by first | exact Go.Sl.Cov.refl _ | (intro p; simp only [List.flatten_cons, List.flatten_nil, List.flatten_append, List.append_nil, List.nil_append, Go.Sl.cnt_append, Go.Sl.cnt_cons, Go.Sl.cnt_nil, List.set_cons_zero, List.set_cons_succ, List.length_nil, List.length_cons, Nat.zero_add, List.append]; omega))⟩
theorem outDone_c {B : Nat} {w0 : World} {G : List Hp} {m : BufM} {b : Nat} {c : Hp} (hO : OutAt m b c) (hs : Sub c G) (hw : m.WF) :
    Go.Sl.Fn Try.prog 42 #[.pointer (some ⟨b, 0, none⟩)] B w0 G fun u G' => u = .bool (m.endCame && decide (m.data.length = 0)) ∧ G' = G := by
  refine Fn.pure ?_
  obtain ⟨ao, cap, bp, bc, cd, cp, cc, rfl, hL, hP, hC⟩ := hO
  have hs1 := hs.left
  refine fn_enter Try.func42 rfl (by kernel_rfl) Try.ntmps42 (by simp) ?_
  refine Go.Sl.cw_seq ?_
  refine Go.Sl.cw_region ?_
  refine Go.Sl.ow_val rfl rfl (Go.Sl.v_assign rfl) ?_
  refine Go.Sl.ow_nil ?_
  refine Go.Sl.xw_then ?_
  refine Go.Sl.cw_seq ?_
  refine Go.Sl.cw_region ?_
  refine Go.Sl.ow_val rfl rfl (Go.Sl.v_move rfl) ?_
  refine Go.Sl.ow_val rfl rfl (Go.Sl.v_neq_nil_some Try.underlying58 rfl) ?_
  refine Go.Sl.ow_val rfl rfl (Go.Sl.v_move rfl) ?_
  refine Go.Sl.ow_val rfl rfl (Go.Sl.v_move rfl) ?_
  refine Go.Sl.ow_val rfl rfl (Go.Sl.v_nilCheck rfl) ?_
  refine Go.Sl.ow_val rfl rfl (Go.Sl.v_fieldAddr0 Ty.fd133_6 rfl) ?_
  refine Go.Sl.ow_val rfl rfl (Go.Sl.v_load rfl (Go.Sl.Var.sub1 Ty.sc4 (by repeat (first | assumption | refine Go.Sl.Sub.there ?_)) (.head _) (Go.Sl.GetN.lit rfl))) ?_
  refine Go.Sl.ow_val rfl rfl (Go.Sl.v_pick_true rfl rfl) ?_
  refine Go.Sl.ow_val rfl rfl (Go.Sl.v_move rfl) ?_
  refine Go.Sl.ow_bool 11 rfl (fun hc11 => ?_) (fun hc11 => ?_)
  refine Go.Sl.ow_val rfl rfl (Go.Sl.v_move rfl) ?_
  refine Go.Sl.ow_val rfl rfl (Go.Sl.v_nilCheck rfl) ?_
  refine Go.Sl.ow_val rfl rfl (Go.Sl.v_fieldAddr0 Ty.fd133_0 rfl) ?_
  refine Go.Sl.ow_val rfl rfl (Go.Sl.v_load rfl (Go.Sl.Var.sub1 Ty.sc57 (by repeat (first | assumption | refine Go.Sl.Sub.there ?_)) (.head _) (Go.Sl.GetN.lit rfl))) ?_
  refine Go.Sl.ow_val rfl rfl (Go.Sl.v_len rfl Try.underlying57 rfl) ?_
  refine Go.Sl.ow_val rfl rfl (Go.Sl.v_eql rfl rfl) ?_
  refine Go.Sl.ow_val rfl rfl (Go.Sl.v_pick_true rfl rfl) ?_
  refine Go.Sl.ow_val rfl rfl (Go.Sl.v_assign rfl) ?_
  refine Go.Sl.ow_nil ?_
  refine Go.Sl.xw_then ?_
  refine Go.Sl.cw_ret ?_
  refine Go.Sl.ret1 rfl (Go.Sl.res_tmp rfl) ?_
  rotate_left
  refine Go.Sl.ow_skip rfl rfl ?_
  refine Go.Sl.ow_skip rfl rfl ?_
  refine Go.Sl.ow_skip rfl rfl ?_
  refine Go.Sl.ow_skip rfl rfl ?_
  refine Go.Sl.ow_skip rfl rfl ?_
  refine Go.Sl.ow_skip rfl rfl ?_
  refine Go.Sl.ow_val rfl rfl (Go.Sl.v_pick_false rfl rfl) ?_
  refine Go.Sl.ow_val rfl rfl (Go.Sl.v_assign rfl) ?_
  refine Go.Sl.ow_nil ?_
  refine Go.Sl.xw_then ?_
  refine Go.Sl.cw_ret ?_
  refine Go.Sl.ret1 rfl (Go.Sl.res_tmp rfl) ?_
  rotate_left
  · exact ⟨by rw [hc11]; congr 1; simp, (by first | exact Go.Sl.Cov.refl _ | (intro p; simp only [List.flatten_cons, List.flatten_nil, List.flatten_append, List.append_nil, List.nil_append, Go.Sl.cnt_append, Go.Sl.cnt_cons, Go.Sl.cnt_nil, List.set_cons_zero, List.set_cons_succ, List.length_nil, List.length_cons, Nat.zero_add, List.append]; omega))⟩
  · exact ⟨by rw [hc11]; rfl, (by first | exact Go.Sl.Cov.refl _ | (intro p; simp only [List.flatten_cons, List.flatten_nil, List.flatten_append, List.append_nil, List.nil_append, Go.Sl.cnt_append, Go.Sl.cnt_cons, Go.Sl.cnt_nil, List.set_cons_zero, List.set_cons_succ, List.length_nil, List.length_cons, Nat.zero_add, List.append]; omega))⟩
theorem outPlaces_c {B : Nat} {w0 : World} {G : List Hp} {m : BufM} {b : Nat} {c : Hp} (hO : OutAt m b c) (hs : Sub c G) (hw : m.WF) :
    Go.Sl.Fn Try.prog 63 #[.pointer (some ⟨b, 0, none⟩)] B w0 G fun u G' => u = .tuple #[.int .u64 m.base, .int .u64 (cntR m.pend), .bool m.fin] ∧ G' = G := by
  refine Fn.pure ?_
  obtain ⟨ao, cap, bp, bc, cd, cp, cc, rfl, hL, hP, hC⟩ := hO
  have hs1 := hs.left
  have hsp := hs.right.right.left
  refine fn_enter Try.func63 rfl (by kernel_rfl) Try.ntmps63 (by simp) ?_
  refine Go.Sl.cw_seq ?_
  refine Go.Sl.cw_region ?_
  refine Go.Sl.ow_val rfl rfl (Go.Sl.v_assign rfl) ?_
  refine Go.Sl.ow_val rfl rfl (Go.Sl.v_assign rfl) ?_
  refine Go.Sl.ow_val rfl rfl (Go.Sl.v_assign rfl) ?_
  refine Go.Sl.ow_nil ?_
  refine Go.Sl.xw_then ?_
  refine Go.Sl.cw_seq ?_
  refine Go.Sl.cw_seq ?_
  refine Go.Sl.cw_region ?_
  refine Go.Sl.ow_val rfl rfl (Go.Sl.v_move rfl) ?_
  refine Go.Sl.ow_val rfl rfl (Go.Sl.v_eql_nil_some Try.underlying58 rfl) ?_
  refine Go.Sl.ow_nil ?_
  refine Go.Sl.xw_then ?_
  refine Go.Sl.cw_false rfl ?_
  refine Go.Sl.cw_skip ?_
  refine Go.Sl.xw_then ?_
  refine Go.Sl.cw_seq ?_
  refine Go.Sl.cw_quiet Ty.mixed (by decide +kernel) ?_
  refine Go.Sl.kw_val rfl rfl (Go.Sl.v_move rfl) ?_
  refine Go.Sl.kw_val rfl rfl (Go.Sl.v_nilCheck rfl) ?_
  refine Go.Sl.kw_val rfl rfl (Go.Sl.v_fieldAddr0 Ty.fd133_1 rfl) ?_
  refine Go.Sl.kw_val rfl rfl (Go.Sl.v_load rfl (Go.Sl.Var.sub1 Ty.sc23 (by repeat (first | assumption | refine Go.Sl.Sub.there ?_)) (.head _) (Go.Sl.GetN.lit rfl))) ?_
  refine Go.Sl.kw_val rfl rfl (Go.Sl.v_move rfl) ?_
  refine Go.Sl.kw_val rfl rfl (Go.Sl.v_nilCheck rfl) ?_
  refine Go.Sl.kw_val rfl rfl (Go.Sl.v_fieldAddr0 Ty.fd133_2 rfl) ?_
  refine Go.Sl.kw_val rfl rfl (Go.Sl.v_load rfl (Go.Sl.Var.sub1 Ty.sc25 (by repeat (first | assumption | refine Go.Sl.Sub.there ?_)) (.head _) (Go.Sl.GetN.lit rfl))) ?_
  refine Go.Sl.kw_val rfl rfl (Go.Sl.v_call rfl rfl (setCount_l hP hsp hw.sp)) ?_
  refine Go.Sl.kw_val rfl rfl (Go.Sl.v_move rfl) ?_
  refine Go.Sl.kw_val rfl rfl (Go.Sl.v_nilCheck rfl) ?_
  refine Go.Sl.kw_val rfl rfl (Go.Sl.v_fieldAddr0 Ty.fd133_4 rfl) ?_
  refine Go.Sl.kw_val rfl rfl (Go.Sl.v_load rfl (Go.Sl.Var.sub1 Ty.sc4 (by repeat (first | assumption | refine Go.Sl.Sub.there ?_)) (.head _) (Go.Sl.GetN.lit rfl))) ?_
  refine Go.Sl.kw_val rfl rfl (Go.Sl.v_assign rfl) ?_
  refine Go.Sl.kw_val rfl rfl (Go.Sl.v_assign rfl) ?_
  refine Go.Sl.kw_val rfl rfl (Go.Sl.v_assign rfl) ?_
  refine Go.Sl.kw_nil ?_
  refine Go.Sl.xw_then ?_
  refine Go.Sl.cw_ret ?_
  refine Go.Sl.ret3 rfl (Go.Sl.res_tmp rfl) (Go.Sl.res_tmp rfl) (Go.Sl.res_tmp rfl) ?_
  exact ⟨rfl, (by first | exact Go.Sl.Cov.refl _ | (intro p; simp only [List.flatten_cons, List.flatten_nil, List.flatten_append, List.append_nil, List.nil_append, Go.Sl.cnt_append, Go.Sl.cnt_cons, Go.Sl.cnt_nil, List.set_cons_zero, List.set_cons_succ, List.length_nil, List.length_cons, Nat.zero_add, List.append]; omega))⟩
def BufM.finish (m : BufM) : BufM := if m.fin = true then m else { m with fin := true, waits := true }
theorem outFinish_c {B : Nat} {w0 : World} {G : List Hp} {R : Hp → List Hp} {m : BufM} {b : Nat} {c : Hp} (hsel : Sel G c R) (hO : OutAt m b c) :
    Go.Sl.Fn Try.prog 38 #[.pointer (some ⟨b, 0, none⟩)] B w0 G fun u G' => ∃ c' : Hp, u = .int .i64 (if m.fin = true then 19 else 0) ∧ OutAt m.finish b c' ∧ G' = R c' := by
  refine Fn.sel0 hsel fun F hR hF => ?_
  obtain ⟨ao, cap, bp, bc, cd, cp, cc, rfl, hL, hP, hC⟩ := hO
  refine fn_enter Try.func38 rfl (by kernel_rfl) Try.ntmps38 (by simp) ?_
  refine cw_split4 ?_
  refine Go.Sl.cw_seq ?_
  refine Go.Sl.cw_region ?_
  refine Go.Sl.ow_val rfl rfl (Go.Sl.v_assign rfl) ?_
  refine Go.Sl.ow_nil ?_
  refine Go.Sl.xw_then ?_
  refine Go.Sl.cw_seq ?_
  refine Go.Sl.cw_seq ?_
  refine Go.Sl.cw_region ?_
  refine Go.Sl.ow_val rfl rfl (Go.Sl.v_move rfl) ?_
  refine Go.Sl.ow_val rfl rfl (Go.Sl.v_eql_nil_some Try.underlying58 rfl) ?_
  refine Go.Sl.ow_nil ?_
  refine Go.Sl.xw_then ?_
  refine Go.Sl.cw_false rfl ?_
  refine Go.Sl.cw_skip ?_
  refine Go.Sl.xw_then ?_
  refine Go.Sl.cw_seq ?_
  refine Go.Sl.cw_seq ?_
  refine Go.Sl.cw_region ?_
  refine Go.Sl.ow_val rfl rfl (Go.Sl.v_move rfl) ?_
  refine Go.Sl.ow_val rfl rfl (Go.Sl.v_nilCheck rfl) ?_
  refine Go.Sl.ow_val rfl rfl (Go.Sl.v_fieldAddr0 Ty.fd133_4 rfl) ?_
  refine Go.Sl.ow_val rfl rfl (Go.Sl.v_load rfl (Go.Sl.Var.at1 Ty.sc4 .here (Go.Sl.GetN.lit rfl))) ?_
  refine Go.Sl.ow_nil ?_
  refine Go.Sl.xw_then ?_
  refine Go.Sl.cw_bool rfl (fun hc8 => ?_) (fun hc8 => ?_)
  refine Go.Sl.cw_seq ?_
  refine Go.Sl.cw_region ?_
  refine Go.Sl.ow_val rfl rfl (Go.Sl.v_assign rfl) ?_
  refine Go.Sl.ow_nil ?_
  refine Go.Sl.xw_then ?_
  refine Go.Sl.cw_ret ?_
  refine Go.Sl.xw_then_ret ?_
  refine Go.Sl.ret1 rfl (Go.Sl.res_tmp rfl) ?_
  rotate_left
  refine Go.Sl.cw_skip ?_
  refine Go.Sl.xw_then ?_
  refine Go.Sl.cw_seq ?_
  refine Go.Sl.cw_region ?_
  refine Go.Sl.ow_val rfl rfl (Go.Sl.v_move rfl) ?_
  refine Go.Sl.ow_val rfl rfl (Go.Sl.v_move rfl) ?_
  refine Go.Sl.ow_val rfl rfl (Go.Sl.v_nilCheck rfl) ?_
  refine Go.Sl.ow_val rfl rfl (Go.Sl.v_fieldAddr0 Ty.fd133_4 rfl) ?_
  refine Go.Sl.ow_store1 rfl rfl rfl rfl Ty.sc4 .here (Go.Sl.SetN.one (by first | decide | exact Nat.le_of_ble_eq_true rfl)) ?_
  refine Go.Sl.ow_val rfl rfl (Go.Sl.v_nilCheck rfl) ?_
  refine Go.Sl.ow_val rfl rfl (Go.Sl.v_fieldAddr0 Ty.fd133_5 rfl) ?_
  refine Go.Sl.ow_store1 rfl rfl rfl rfl Ty.sc4 .here (Go.Sl.SetN.one (by first | decide | exact Nat.le_of_ble_eq_true rfl)) ?_
  refine Go.Sl.ow_nil ?_
  refine Go.Sl.xw_then ?_
  refine Go.Sl.cw_seq ?_
  refine Go.Sl.cw_region ?_
  refine Go.Sl.ow_val rfl rfl (Go.Sl.v_assign rfl) ?_
  refine Go.Sl.ow_nil ?_
  refine Go.Sl.xw_then ?_
  refine Go.Sl.cw_ret ?_
  refine Go.Sl.ret1 rfl (Go.Sl.res_tmp rfl) ?_
  rotate_left
  · rw [if_pos hc8, show m.finish = m from if_pos hc8]
    exact ⟨_, rfl, ⟨ao, cap, bp, bc, cd, cp, cc, rfl, hL, hP, hC⟩, (by first | exact Go.Sl.Cov.refl _ | (intro p; simp only [List.flatten_cons, List.flatten_nil, List.flatten_append, List.append_nil, List.nil_append, Go.Sl.cnt_append, Go.Sl.cnt_cons, Go.Sl.cnt_nil, List.set_cons_zero, List.set_cons_succ, List.length_nil, List.length_cons, Nat.zero_add, List.append]; omega))⟩
  · rw [if_neg (by simp [hc8]), show m.finish = { m with fin := true, waits := true } from if_neg (by simp [hc8])]
    exact ⟨_, rfl, ⟨ao, cap, bp, bc, cd, cp, cc, rfl, hL, hP, hC⟩, (by first | exact Go.Sl.Cov.refl _ | (intro p; simp only [List.flatten_cons, List.flatten_nil, List.flatten_append, List.append_nil, List.nil_append, Go.Sl.cnt_append, Go.Sl.cnt_cons, Go.Sl.cnt_nil, List.set_cons_zero, List.set_cons_succ, List.length_nil, List.length_cons, Nat.zero_add, List.append]; omega))⟩
def BufM.write (m : BufM) (l : List UInt8) : BufM := { m with data := m.data ++ l, pend := addE m.pend ⟨m.base + m.data.length, m.base + m.data.length + l.length⟩ }
theorem outWrite_c {B : Nat} {w0 : World} {G : List Hp} {R : Hp → List Hp} {m : BufM} {b : Nat} {c : Hp} {ao2 : Option Addr} {n cap2 : Nat} {l : List UInt8} (hsel : Sel G c R) (hO : OutAt m b c) (hw : m.WF) (hV : Vw enB (St B w0 G) (.slice ao2 n cap2) l) (hl : m.base + m.data.length + l.length ≤ 65536) :
    Go.Sl.Fn Try.prog 37 #[.pointer (some ⟨b, 0, none⟩), .slice ao2 n cap2] B w0 G fun u G' => ∃ c' : Hp, u = .tuple #[.int .i64 (if m.fin = true then 0 else (l.length : Int)), .int .i64 (if m.fin = true then 19 else 0)] ∧ OutAt (if m.fin = true then m else m.write l) b c' ∧ G' = R c' := by
  refine Fn.sel0 hsel fun F hR hF => ?_
  have hV := hV.mono hF
  have hO' := hO
  obtain ⟨ao, cap, bp, bc, cd, cp, cc, rfl, hL, hP, hC⟩ := hO
  have hn := hV.len
  subst hn
  obtain ⟨ao3, cap3, he3, hcap⟩ := hV.view
  injection he3 with he4 he5 he6
  subst he4 he6
  have h1 := hw.low
  have hLw := capLe hL
  have h5 : (⟨m.base + m.data.length, m.base + m.data.length + l.length⟩ : Rg).b ≤ 65536 := hl
  have hrg : RgIn ⟨m.base + m.data.length, m.base + m.data.length + l.length⟩ := ⟨by dsimp only; omega, by dsimp only; omega⟩
  obtain ⟨g1, g2, g3⟩ := add_fits (v := 65536) hw.gp hrg (by omega) (fun n hn => by have := hw.ip n hn; omega) h5
  refine fn_enter Try.func37 rfl (by kernel_rfl) Try.ntmps37 (by simp) ?_
  refine cw_split4 ?_
  refine Go.Sl.cw_seq ?_
  refine Go.Sl.cw_region ?_
  refine Go.Sl.ow_val rfl rfl (Go.Sl.v_assign rfl) ?_
  refine Go.Sl.ow_val rfl rfl (Go.Sl.v_assign rfl) ?_
  refine Go.Sl.ow_nil ?_
  refine Go.Sl.xw_then ?_
  refine Go.Sl.cw_seq ?_
  refine Go.Sl.cw_seq ?_
  refine Go.Sl.cw_region ?_
  refine Go.Sl.ow_val rfl rfl (Go.Sl.v_move rfl) ?_
  refine Go.Sl.ow_val rfl rfl (Go.Sl.v_eql_nil_some Try.underlying58 rfl) ?_
  refine Go.Sl.ow_nil ?_
  refine Go.Sl.xw_then ?_
  refine Go.Sl.cw_false rfl ?_
  refine Go.Sl.cw_skip ?_
  refine Go.Sl.xw_then ?_
  refine Go.Sl.cw_seq ?_
  refine Go.Sl.cw_seq ?_
  refine Go.Sl.cw_region ?_
  refine Go.Sl.ow_val rfl rfl (Go.Sl.v_move rfl) ?_
  refine Go.Sl.ow_val rfl rfl (Go.Sl.v_nilCheck rfl) ?_
  refine Go.Sl.ow_val rfl rfl (Go.Sl.v_fieldAddr0 Ty.fd133_4 rfl) ?_
  refine Go.Sl.ow_val rfl rfl (Go.Sl.v_load rfl (Go.Sl.Var.at1 Ty.sc4 .here (Go.Sl.GetN.lit rfl))) ?_
  refine Go.Sl.ow_nil ?_
  refine Go.Sl.xw_then ?_
  refine Go.Sl.cw_bool rfl (fun hc13 => ?_) (fun hc13 => ?_)
  refine Go.Sl.cw_seq ?_
  refine Go.Sl.cw_region ?_
  refine Go.Sl.ow_val rfl rfl (Go.Sl.v_assign rfl) ?_
  refine Go.Sl.ow_val rfl rfl (Go.Sl.v_assign rfl) ?_
  refine Go.Sl.ow_nil ?_
  refine Go.Sl.xw_then ?_
  refine Go.Sl.cw_ret ?_
  refine Go.Sl.xw_then_ret ?_
  refine Go.Sl.ret2 rfl (Go.Sl.res_tmp rfl) (Go.Sl.res_tmp rfl) ?_
  rotate_left
  refine Go.Sl.cw_skip ?_
  refine Go.Sl.xw_then ?_
  refine Go.Sl.cw_seq ?_
  refine Go.Sl.cw_region ?_
  refine Go.Sl.ow_val rfl rfl (Go.Sl.v_move rfl) ?_
  refine Go.Sl.ow_val rfl rfl (Go.Sl.v_len rfl Try.underlying57 rfl) ?_
  refine Go.Sl.ow_val rfl rfl (Go.Sl.v_move rfl) ?_
  refine Go.Sl.ow_val rfl rfl (Go.Sl.v_nilCheck rfl) ?_
  refine Go.Sl.ow_val rfl rfl (Go.Sl.v_fieldAddr0 Ty.fd133_0 rfl) ?_
  refine Go.Sl.ow_val rfl rfl (Go.Sl.v_load rfl (Go.Sl.Var.at1 Ty.sc57 .here (Go.Sl.GetN.lit rfl))) ?_
  refine Go.Sl.ow_val rfl rfl (Go.Sl.v_len rfl Try.underlying57 rfl) ?_
  refine Go.Sl.ow_val rfl rfl (Go.Sl.v_sub rfl rfl (Go.Sl.nw_i64 (by omega) (by omega))) ?_
  refine Go.Sl.ow_val rfl rfl (Go.Sl.v_min rfl rfl) ?_
  refine Go.Sl.ow_val rfl rfl (Go.Sl.v_assign rfl) ?_
  refine Go.Sl.ow_nil ?_
  refine Go.Sl.xw_then ?_
  rotate_left
  · rw [if_pos hc13, if_pos hc13, if_pos hc13]
    exact ⟨_, rfl, ⟨ao, cap, bp, bc, cd, cp, cc, rfl, hL, hP, hC⟩, (by first | exact Go.Sl.Cov.refl _ | (intro p; simp only [List.flatten_cons, List.flatten_nil, List.flatten_append, List.append_nil, List.nil_append, Go.Sl.cnt_append, Go.Sl.cnt_cons, Go.Sl.cnt_nil, List.set_cons_zero, List.set_cons_succ, List.length_nil, List.length_cons, Nat.zero_add, List.append]; omega))⟩
  rw [if_neg (by simp [hc13]), if_neg (by simp [hc13]), if_neg (by simp [hc13])]
  have hmin : min (l.length : Int) (65536 - (m.data.length : Int)) = (l.length : Int) := by omega
  rw [hmin]
  refine Go.Sl.cw_seq ?_
  refine Go.Sl.cw_seq ?_
  refine Go.Sl.cw_region ?_
  refine Go.Sl.ow_val rfl rfl (Go.Sl.v_move rfl) ?_
  refine Go.Sl.ow_val rfl rfl (Go.Sl.v_gtr rfl rfl) ?_
  refine Go.Sl.ow_nil ?_
  refine Go.Sl.xw_then ?_
  refine Go.Sl.cw_dec rfl (fun hc24 => ?_) (fun hc24 => ?_)
  refine Go.Sl.cw_seq ?_
  refine Go.Sl.cw_region ?_
  refine Go.Sl.ow_val rfl rfl (Go.Sl.v_move rfl) ?_
  refine Go.Sl.ow_val rfl rfl (Go.Sl.v_call rfl rfl (outOpen_c hO' (Sub.app (by repeat (first | exact Go.Sl.Sub.here | assumption | refine Go.Sl.Sub.there ?_)) (Sub.app (by repeat (first | exact Go.Sl.Sub.here | assumption | refine Go.Sl.Sub.there ?_)) (Sub.app (by repeat (first | exact Go.Sl.Sub.here | assumption | refine Go.Sl.Sub.there ?_)) (by repeat (first | exact Go.Sl.Sub.here | assumption | refine Go.Sl.Sub.there ?_))))))) ?_
  refine Go.Sl.ow_nil ?_
  refine Go.Sl.xw_then ?_
  refine Go.Sl.cw_seq ?_
  refine Go.Sl.cw_region ?_
  refine Go.Sl.ow_val rfl rfl (Go.Sl.v_move rfl) ?_
  refine Go.Sl.ow_val rfl rfl (Go.Sl.v_call rfl rfl (outStop_c hO' (Sub.app (by repeat (first | exact Go.Sl.Sub.here | assumption | refine Go.Sl.Sub.there ?_)) (Sub.app (by repeat (first | exact Go.Sl.Sub.here | assumption | refine Go.Sl.Sub.there ?_)) (Sub.app (by repeat (first | exact Go.Sl.Sub.here | assumption | refine Go.Sl.Sub.there ?_)) (by repeat (first | exact Go.Sl.Sub.here | assumption | refine Go.Sl.Sub.there ?_))))) hw)) ?_
  refine Go.Sl.ow_val rfl rfl (Go.Sl.v_assign rfl) ?_
  refine Go.Sl.ow_nil ?_
  refine Go.Sl.xw_then ?_
  rotate_left
  refine Go.Sl.cw_skip ?_
  refine Go.Sl.xw_then ?_
  refine Go.Sl.cw_seq ?_
  refine Go.Sl.cw_region ?_
  refine Go.Sl.ow_val rfl rfl (Go.Sl.v_move rfl) ?_
  refine Go.Sl.ow_val rfl rfl (Go.Sl.v_assign rfl) ?_
  refine Go.Sl.ow_val rfl rfl (Go.Sl.v_assign rfl) ?_
  refine Go.Sl.ow_nil ?_
  refine Go.Sl.xw_then ?_
  refine Go.Sl.cw_ret ?_
  refine Go.Sl.ret2 rfl (Go.Sl.res_tmp rfl) (Go.Sl.res_tmp rfl) ?_
  rotate_left
  · refine Go.Sl.cw_seq ?_
    refine Go.Sl.cw_mix [] [8, 9, 10, 11] [0, 1, 2, 3, 4, 5, 6, 7] Ty.mixed rfl rfl rfl rfl (by decide +kernel) ?_
    refine Go.Sl.hw_pure rfl rfl (Go.Sl.v_move rfl) rfl ?_
    refine Go.Sl.hw_pure rfl rfl (Go.Sl.v_move rfl) rfl ?_
    refine Go.Sl.hw_pure rfl rfl (Go.Sl.v_nilCheck rfl) rfl ?_
    refine Go.Sl.hw_pure rfl rfl (Go.Sl.v_fieldAddr0 Ty.fd133_0 rfl) rfl ?_
    refine Go.Sl.hw_read rfl rfl rfl (Go.Sl.v_load rfl (Go.Sl.Var.at1 Ty.sc57 .here (Go.Sl.GetN.lit rfl))) ?_
    refine Go.Sl.hw_pure rfl rfl (Go.Sl.v_move rfl) rfl ?_
    refine Go.Sl.hw_pure rfl rfl (Go.Sl.v_move rfl) rfl ?_
    refine Go.Sl.hw_pure rfl rfl (Go.Sl.v_slice_nh Try.underlying57 Ty.el57 rfl rfl rfl (by omega)) rfl ?_
    refine Go.Sl.hw_nil ?_
    refine Go.Sl.sw_nil ?_
    (refine Go.Sl.ow_appendL rfl rfl Try.underlying57 Try.underlying57 Ty.em57 (u8Ty) rfl rfl (by assumption) (by repeat (first | exact Go.Sl.Sel.here | apply Go.Sl.Sel.there)) (hV.cov (by first | exact Go.Sl.Cov.refl _ | (intro p; simp only [List.flatten_cons, List.flatten_nil, List.flatten_append, List.append_nil, List.nil_append, Go.Sl.cnt_append, Go.Sl.cnt_cons, Go.Sl.cnt_nil, List.set_cons_zero, List.set_cons_succ, List.length_nil, List.length_cons, Nat.zero_add, List.append]; omega))) (by first | omega | (simp only [List.length_append, List.length_take, List.length_drop, List.length_nil, List.length_cons]; omega)) (by first | omega | (simp only [List.length_append, List.length_take, List.length_drop, List.length_nil, List.length_cons]; omega)) ?_; intro ao37 cap37 c37 hL37)
    refine Go.Sl.ow_val rfl rfl (Go.Sl.v_nilCheck rfl) ?_
    refine Go.Sl.ow_val rfl rfl (Go.Sl.v_fieldAddr0 Ty.fd133_0 rfl) ?_
    refine Go.Sl.ow_store1 rfl rfl rfl rfl Ty.sc57 .here (Go.Sl.SetN.one (by first | decide | exact Nat.le_of_ble_eq_true rfl)) ?_
    refine Go.Sl.ow_nil ?_
    refine Go.Sl.xw_np ?_
    refine Go.Sl.xw_then ?_
    refine Go.Sl.cw_mix [] [8] [0, 1, 2, 3, 4, 5, 6, 7] Ty.mixed rfl rfl rfl rfl (by decide +kernel) ?_
    refine Go.Sl.hw_pure rfl rfl (Go.Sl.v_move rfl) rfl ?_
    refine Go.Sl.hw_pure rfl rfl (Go.Sl.v_nilCheck rfl) rfl ?_
    refine Go.Sl.hw_pure rfl rfl (Go.Sl.v_fieldAddr0 Ty.fd133_2 rfl) rfl ?_
    refine Go.Sl.hw_read rfl rfl rfl (Go.Sl.v_load rfl (Go.Sl.Var.at1 Ty.sc25 .here (Go.Sl.GetN.lit rfl))) ?_
    refine Go.Sl.hw_pure rfl rfl (Go.Sl.v_move rfl) rfl ?_
    refine Go.Sl.hw_pure rfl rfl (Go.Sl.v_move rfl) rfl ?_
    have hw1 : ({ m with data := m.data ++ l } : BufM).WF := ⟨hw.low, by dsimp only; rw [List.length_append]; omega, hw.gp, hw.gc, fun n hn => by have := hw.ip n hn; dsimp only; rw [List.length_append]; omega, fun n hn => by have := hw.ic n hn; dsimp only; rw [List.length_append]; omega, hw.dis, hw.gone, hw.max_⟩
    have hO1 : OutAt { m with data := m.data ++ l } b ([(b, .cells [.slice ao37 (m.data ++ l).length cap37, .int .u64 m.base, .pointer (some ⟨bp, 0, none⟩), .pointer (some ⟨bc, 0, none⟩), .bool m.fin, .bool m.waits, .bool m.endCame].toArray 133 (0, 0))] ++ (c37 ++ (cp ++ cc))) := ⟨ao37, cap37, bp, bc, c37, cp, cc, rfl, hL37, hP, hC⟩
    have hst : ∀ {G : List Hp}, Go.Sl.Sub ([(b, .cells [.slice ao37 (m.data ++ l).length cap37, .int .u64 m.base, .pointer (some ⟨bp, 0, none⟩), .pointer (some ⟨bc, 0, none⟩), .bool m.fin, .bool m.waits, .bool m.endCame].toArray 133 (0, 0))] ++ (c37 ++ (cp ++ cc))) G → Go.Sl.Fn Try.prog 64 #[.pointer (some ⟨b, 0, none⟩)] B w0 G fun u G' => u = .int .u64 (m.base + m.data.length + l.length) ∧ G' = G := fun hs => by
      have h := outStop_c (B := B) (w0 := w0) hO1 hs hw1
      rw [show m.base + (m.data.length : Int) + (l.length : Int) = m.base + ((m.data ++ l).length : Int) from by rw [List.length_append]; omega]
      exact h
    refine Go.Sl.hw_read rfl rfl rfl (Go.Sl.v_call rfl rfl (hst (Sub.app (by repeat (first | exact Go.Sl.Sub.here | assumption | refine Go.Sl.Sub.there ?_)) (Sub.app (by repeat (first | exact Go.Sl.Sub.here | assumption | refine Go.Sl.Sub.there ?_)) (Sub.app (by repeat (first | exact Go.Sl.Sub.here | assumption | refine Go.Sl.Sub.there ?_)) (by repeat (first | exact Go.Sl.Sub.here | assumption | refine Go.Sl.Sub.there ?_))))))) ?_
    refine Go.Sl.hw_pure rfl rfl (Go.Sl.v_build rfl (b_rng)) rfl ?_
    refine Go.Sl.hw_nil ?_
    refine Go.Sl.sw_nil ?_
    (refine Go.Sl.ow_call rfl rfl rfl rfl (setAddOk_l (r := ⟨m.base + m.data.length, m.base + m.data.length + l.length⟩) (by repeat (first | exact Go.Sl.Sel.here | apply Go.Sl.Sel.there)) hP hw.sp hrg (by omega)) ?_; rintro _ _ ⟨x48, rfl, hq48, rfl⟩)
    refine Go.Sl.ow_nil ?_
    refine Go.Sl.xw_np ?_
    refine Go.Sl.xw_then ?_
    refine Go.Sl.cw_seq ?_
    refine Go.Sl.cw_region ?_
    refine Go.Sl.ow_val rfl rfl (Go.Sl.v_move rfl) ?_
    refine Go.Sl.ow_val rfl rfl (Go.Sl.v_assign rfl) ?_
    refine Go.Sl.ow_val rfl rfl (Go.Sl.v_assign rfl) ?_
    refine Go.Sl.ow_nil ?_
    refine Go.Sl.xw_then ?_
    refine Go.Sl.cw_ret ?_
    refine Go.Sl.ret2 rfl (Go.Sl.res_tmp rfl) (Go.Sl.res_tmp rfl) ?_
    exact ⟨_, rfl, OutAt.of hL37 hq48 hC rfl, (by first | exact Go.Sl.Cov.refl _ | (intro p; simp only [List.flatten_cons, List.flatten_nil, List.flatten_append, List.append_nil, List.nil_append, Go.Sl.cnt_append, Go.Sl.cnt_cons, Go.Sl.cnt_nil, List.set_cons_zero, List.set_cons_succ, List.length_nil, List.length_cons, Nat.zero_add, List.append]; omega))⟩
  · have hl0 : l = [] := List.length_eq_zero_iff.1 (by omega)
    subst hl0
    have hwr : m.write [] = m := by
      rw [BufM.write, List.append_nil]
      unfold addE
      rw [if_neg (by simp)]
    rw [hwr]
    exact ⟨_, rfl, ⟨ao, cap, bp, bc, cd, cp, cc, rfl, hL, hP, hC⟩, (by first | exact Go.Sl.Cov.refl _ | (intro p; simp only [List.flatten_cons, List.flatten_nil, List.flatten_append, List.append_nil, List.nil_append, Go.Sl.cnt_append, Go.Sl.cnt_cons, Go.Sl.cnt_nil, List.set_cons_zero, List.set_cons_succ, List.length_nil, List.length_cons, Nat.zero_add, List.append]; omega))⟩
end Go.Proofs.Ytbpnnkkbaakdjaa
