/- Replay in memory: events made to fit, in small numbers. Conditions: numbers fit their types. -/
import Derived.Test.YtckdhelnafjddaaRpN
import Derived.Test.YtckdhelnafjddaaHeld
namespace Go.Proofs.Ytckdhelnafjddaa
open Go Go.Sl Go.Proofs Go.RowKit Go.ChangeShapes Go.WideShapes Go.ChangeAt
set_option maxRecDepth 20000
set_option linter.unusedVariables false
set_option linter.unusedSimpArgs false

/-- an event whose numbers are owned -/
structure EvF where
  m : EvM
  p : EvP
  cn : Hp
  cd : Hp
structure EvF.Is (x : EvF) : Prop where
  ok : x.m.ok
  k : 1 ≤ x.m.k ∧ x.m.k ≤ 19
  n : (x.m.n.length : Int) = manyK x.m.k.toNat
  d : x.m.d.length ≤ 20
  ln : Ls enQ 22 (.slice x.p.na x.m.n.length x.p.nc) x.cn x.m.n
  rd : Rd enB (.slice x.p.da x.m.d.length x.p.dc) x.cd x.m.d
theorem manyK_bd (k : Nat) : manyK k ≤ 8 := by
  unfold manyK
  split <;> omega
theorem manyK_nn {k : Int} (h : 1 ≤ k ∧ k ≤ 19) : 0 ≤ manyK k.toNat := by
  obtain ⟨n, rfl⟩ := Int.eq_ofNat_of_zero_le (show 0 ≤ k by omega)
  have hn : 1 ≤ n ∧ n ≤ 19 := by omega
  have key : ∀ m : Fin 20, 1 ≤ m.val → 0 ≤ manyK m.val := by decide
  exact key ⟨n, by omega⟩ hn.1
theorem inQwrap (x : Int) : inQ (IntKind.wrap .u64 x) := by
  unfold inQ
  simp only [IntKind.wrap, IntKind.bits, IntKind.signed]
  simp
  omega
theorem inQbits (op : BinOp) (x y : Int) : inQ (bitsOf op .u64 x y) := inQwrap _
theorem EvIn.cov {B : Nat} {w0 : World} {G G' : List Hp} {e : EvM} {p : EvP} (h : EvIn (St B w0 G) e p) (hc : Cov G G') : EvIn (St B w0 G') e p := ⟨h.n.cov hc, h.d.cov hc⟩
theorem Ls.self {α : Type} {En : Enc α} {e : TypeId} {ao : Option Addr} {n cap : Nat} {c : Hp} {l : List α} (h : Ls En e (.slice ao n cap) c l) : Ls En e (.slice ao l.length cap) c l := by
  have hn := h.len
  subst hn
  exact h
theorem qPtr {S : World → Prop} {ao : Option Addr} {n cap : Nat} {l : List Int} (h : Vw enQ S (.slice ao n cap) l) (hl : 0 < l.length) : ao = some ⟨bOf ao, oOf ao, none⟩ := (h.get ao n cap rfl hl).1
structure FiG where
  n : List Int
  a : Option Addr
  c : Nat
  ch : Hp
set_option maxHeartbeats 8000000 in
theorem evFit_c {B : Nat} {w0 : World} {G : List Hp} {e : EvM} {p : EvP} {k : Int} (hE : EvIn (St B w0 G) e p) (he : e.ok) (hln : e.n.length ≤ 100000) (hld : e.d.length ≤ 100000) (hk : 0 ≤ k ∧ k ≤ 255) :
    Go.Sl.Fn Try.prog 52 #[.agg (e.cells p).toArray, .int .u8 k] B w0 G fun u G' => ∃ x : EvF, u = .agg (x.m.cells x.p).toArray ∧ x.Is ∧ G' = [x.cn, x.cd] ++ G := by
  refine Fn.new (V := fun x : EvF => .agg (x.m.cells x.p).toArray) (Nw := fun x => [x.cn, x.cd]) ?_
  have hkm : 0 ≤ k.tmod 19 ∧ k.tmod 19 < 19 := ⟨Int.tmod_nonneg _ hk.1, Int.tmod_lt_of_pos _ (by decide)⟩
  have hco : ∀ p, ∀ u ∈ e.cells p, u.oneCell' = true := fun p => EvM.cells_one
  have hcp := hco p
  have hcl : ∀ p, (e.cells p).length = 4 := fun _ => rfl
  have hclp := hcl p
  have hkb : 1 ≤ 1 + k.tmod 19 ∧ 1 + k.tmod 19 ≤ 19 := by omega
  obtain ⟨mk, hmk⟩ : ∃ mk : Nat, manyK (1 + k.tmod 19).toNat = (mk : Int) := ⟨(manyK (1 + k.tmod 19).toNat).toNat, by have := manyK_nn hkb; omega⟩
  have hmk8 : (mk : Int) ≤ 8 := by rw [← hmk]; exact manyK_bd _
  have het := he.t
  unfold inQ at het
  have htt : 0 ≤ e.t.tmod 1125899906842625 ∧ e.t.tmod 1125899906842625 < 1125899906842625 := ⟨Int.tmod_nonneg _ het.1, Int.tmod_lt_of_pos _ (by decide)⟩
  have hmc : ∀ {G : List Hp}, Go.Sl.Fn Try.prog 72 #[.int .u8 (1 + k.tmod 19)] B w0 G fun u G' => u = .tuple #[.int .i64 (mk : Int), .bool (dataK (1 + k.tmod 19))] ∧ G' = G := fun {G} => by
    have h := many_c (B := B) (w0 := w0) (G := G) hkb
    rw [hmk] at h
    exact h
  refine fn_enter Try.func52 rfl (by kernel_rfl) Try.ntmps52 (by simp) ?_
  refine Go.Sl.cw_seq ?_
  refine Go.Sl.cw_region ?_
  (refine Go.Sl.ow_box rfl rfl rfl rfl ?_; intro b2)
  (refine Go.Sl.ow_alloc rfl rfl Ty.ze62 ?_; intro b4)
  refine Go.Sl.ow_nil ?_
  refine Go.Sl.xw_then ?_
  refine Go.Sl.cw_seq ?_
  refine Go.Sl.cw_region ?_
  refine Go.Sl.ow_val rfl rfl (Go.Sl.v_load rfl (Go.Sl.Var.atN Ty.ag62 (.there .here) Go.Sl.GetN.all (by first | rfl | assumption))) ?_
  (refine Go.Sl.ow_call rfl rfl rfl rfl (evClone_c (hE.cov (by first | exact Go.Sl.Cov.refl _ | (intro p; simp only [List.flatten_cons, List.flatten_nil, List.flatten_append, List.append_nil, List.nil_append, Go.Sl.cnt_append, Go.Sl.cnt_cons, Go.Sl.cnt_nil, List.set_cons_zero, List.set_cons_succ, List.length_nil, List.length_cons, Nat.zero_add, List.append]; omega))) he hln hld) ?_; rintro _ _ ⟨x9, rfl, hq9, rfl⟩)
  obtain ⟨⟨na, nc, da, dc⟩, cn, cd⟩ := x9
  obtain ⟨hN, hB⟩ := hq9
  dsimp only at hN hB ⊢
  have hcn := hco ⟨na, nc, da, dc⟩
  have hcln := hcl ⟨na, nc, da, dc⟩
  refine Go.Sl.ow_storeN rfl rfl rfl Ty.ag62 (by first | rfl | assumption) (by first | assumption | simp) (.there (.there (.there .here))) ((SetN.all (vs := e.cells ⟨na, nc, da, dc⟩) rfl)) ?_
  refine Go.Sl.ow_nil ?_
  refine Go.Sl.xw_then ?_
  unfold EvM.cells
  refine Go.Sl.cw_seq ?_
  refine Go.Sl.cw_region ?_
  refine Go.Sl.ow_val rfl rfl (Go.Sl.v_move rfl) ?_
  refine Go.Sl.ow_val rfl rfl (Go.Sl.v_rem rfl rfl (by decide)) ?_
  refine Go.Sl.ow_val rfl rfl (Go.Sl.v_add rfl rfl (Go.Sl.nw_u8 (by omega) (by omega))) ?_
  refine Go.Sl.ow_val rfl rfl (Go.Sl.v_fieldAddr0 Ty.fd62_0 rfl) ?_
  refine Go.Sl.ow_store1 rfl rfl rfl rfl Ty.sc59 (.there (.there (.there .here))) (Go.Sl.SetN.one (by first | decide | exact Nat.le_of_ble_eq_true rfl)) ?_
  refine Go.Sl.ow_nil ?_
  refine Go.Sl.xw_then ?_
  refine Go.Sl.cw_seq ?_
  refine Go.Sl.cw_region ?_
  refine Go.Sl.ow_val rfl rfl (Go.Sl.v_fieldAddr0 Ty.fd62_1 rfl) ?_
  refine Go.Sl.ow_val rfl rfl (Go.Sl.v_load rfl (Go.Sl.Var.at1 Ty.sc22 (.there (.there (.there .here))) (Go.Sl.GetN.lit rfl))) ?_
  refine Go.Sl.ow_val rfl rfl (Go.Sl.v_rem rfl rfl (by decide)) ?_
  refine Go.Sl.ow_val rfl rfl (Go.Sl.v_fieldAddr0 Ty.fd62_1 rfl) ?_
  refine Go.Sl.ow_store1 rfl rfl rfl rfl Ty.sc22 (.there (.there (.there .here))) (Go.Sl.SetN.one (by first | decide | exact Nat.le_of_ble_eq_true rfl)) ?_
  refine Go.Sl.ow_nil ?_
  refine Go.Sl.xw_then ?_
  refine Go.Sl.cw_seq ?_
  refine Go.Sl.cw_region ?_
  refine Go.Sl.ow_val rfl rfl (Go.Sl.v_fieldAddr0 Ty.fd62_0 rfl) ?_
  refine Go.Sl.ow_val rfl rfl (Go.Sl.v_load rfl (Go.Sl.Var.at1 Ty.sc59 (.there (.there (.there .here))) (Go.Sl.GetN.lit rfl))) ?_
  refine Go.Sl.ow_val rfl rfl (Go.Sl.v_call rfl rfl (hmc)) ?_
  refine Go.Sl.ow_val rfl rfl (Go.Sl.v_move rfl) ?_
  refine Go.Sl.ow_val rfl rfl (Go.Sl.v_extract rfl rfl) ?_
  refine Go.Sl.ow_val rfl rfl (Go.Sl.v_extract rfl rfl) ?_
  refine Go.Sl.ow_val rfl rfl (Go.Sl.v_assign rfl) ?_
  refine Go.Sl.ow_val rfl rfl (Go.Sl.v_assign rfl) ?_
  refine Go.Sl.ow_nil ?_
  refine Go.Sl.xw_then ?_
  refine Go.Sl.cw_seq ?_
  refine Go.Sl.cw_block ?_
  dsimp only [List.set]
  refine Go.Sl.cw_loop2 (ι := (FiG)) [(0, _), (2, _), (4, _), (5, _), (6, _)] ⟨rfl, rfl, rfl, rfl, rfl, trivial⟩ ((fun x => [(5, .int .i64 (mk : Int)), (6, .bool (dataK (1 + k.tmod 19)))])) ((fun x => Ls enQ 22 (.slice x.a x.n.length x.c) x.ch x.n ∧ x.n.length ≤ 100008)) ((fun x => mk - x.n.length)) ((fun x => [(b2, .cells [Value.int .u8 (1 + k.tmod 19), .int .u64 (e.t.tmod 1125899906842625), .slice x.a x.n.length x.c, .slice da e.d.length dc].toArray 62 (0, 0))] :: x.ch :: cd :: [(b4, .cells [Value.int .u8 0, .int .u64 0, .slice none 0 0, .slice none 0 0].toArray 62 (0, 0))] :: G)) ((⟨e.n, na, nc, cn⟩ : FiG)) (by repeat (first | exact True.intro | refine And.intro rfl ?_)) (by first | exact Go.Sl.Cov.refl _ | (intro p; simp only [List.flatten_cons, List.flatten_nil, List.flatten_append, List.append_nil, List.nil_append, Go.Sl.cnt_append, Go.Sl.cnt_cons, Go.Sl.cnt_nil, List.set_cons_zero, List.set_cons_succ, List.length_nil, List.length_cons, Nat.zero_add, List.append]; omega)) ?_ ?_
  · exact ⟨hN, by dsimp only; omega⟩
  rintro ⟨n, a, cc, ch⟩ ⟨hL, hlb⟩
  dsimp only at hL hlb ⊢
  refine Go.Sl.cw_seq ?_
  refine Go.Sl.cw_seq ?_
  refine Go.Sl.cw_region ?_
  refine Go.Sl.ow_val rfl rfl (Go.Sl.v_fieldAddr0 Ty.fd62_2 rfl) ?_
  refine Go.Sl.ow_val rfl rfl (Go.Sl.v_load rfl (Go.Sl.Var.at1 Ty.sc60 .here (Go.Sl.GetN.lit rfl))) ?_
  refine Go.Sl.ow_val rfl rfl (Go.Sl.v_len rfl Try.underlying60 rfl) ?_
  refine Go.Sl.ow_val rfl rfl (Go.Sl.v_move rfl) ?_
  refine Go.Sl.ow_val rfl rfl (Go.Sl.v_lss rfl rfl) ?_
  refine Go.Sl.ow_nil ?_
  refine Go.Sl.xw_then ?_
  refine Go.Sl.cw_dec rfl (fun hc28 => ?_) (fun hc28 => ?_)
  refine Go.Sl.cw_skip ?_
  refine Go.Sl.xw_then ?_
  refine Go.Sl.cw_block ?_
  refine Go.Sl.cw_region ?_
  refine Go.Sl.ow_val rfl rfl (Go.Sl.v_fieldAddr0 Ty.fd62_2 rfl) ?_
  refine Go.Sl.ow_val rfl rfl (Go.Sl.v_load rfl (Go.Sl.Var.at1 Ty.sc60 .here (Go.Sl.GetN.lit rfl))) ?_
  refine Go.Sl.ow_val rfl rfl (Go.Sl.v_fieldAddr0 Ty.fd62_2 rfl) ?_
  refine Go.Sl.ow_val rfl rfl (Go.Sl.v_load rfl (Go.Sl.Var.at1 Ty.sc60 .here (Go.Sl.GetN.lit rfl))) ?_
  refine Go.Sl.ow_val rfl rfl (Go.Sl.v_len rfl Try.underlying60 rfl) ?_
  refine Go.Sl.ow_val rfl rfl (Go.Sl.v_convert Try.underlying3 Try.underlying22 rfl (Go.Sl.nw_u64 (by omega) (by omega))) ?_
  refine Go.Sl.ow_val rfl rfl (Go.Sl.v_mul rfl rfl (Go.Sl.nw_u64 (by omega) (by omega))) ?_
  rotate_left
  refine Go.Sl.cw_exit ?_
  refine Go.Sl.xw_then_exit ?_
  refine Go.Sl.xw_round_exit ?_
  refine Go.Sl.xw_block_exit ?_
  refine Go.Sl.xw_then ?_
  rotate_left
  · (refine Go.Sl.ow_buildL (es := [(((n.length : Int) * 7))]) rfl rfl Try.underlying60 Ty.em60 (qTy) rfl rfl (by first | (simp [*]; done) | (repeat (first | exact List.forall_mem_nil _ | refine List.forall_mem_cons.2 ⟨?_, ?_⟩ | assumption | (show _ ∧ _; omega)))) (by simp only [List.length_cons, List.length_nil]; decide) ?_; intro ao36 c36 hL36)
    (refine Go.Sl.ow_appendL rfl rfl Try.underlying60 Try.underlying60 Ty.em60 (qTy) rfl rfl (by assumption) (by repeat (first | exact Go.Sl.Sel.here | apply Go.Sl.Sel.there)) (Go.Sl.Ls.vw (by assumption) (by repeat (first | exact Go.Sl.Sub.here | exact Go.Sl.Sub.nil | assumption | refine Go.Sl.Sub.there ?_))) (by first | omega | (simp only [List.length_append, List.length_take, List.length_drop, List.length_nil, List.length_cons]; omega)) (by first | omega | (simp only [List.length_append, List.length_take, List.length_drop, List.length_nil, List.length_cons]; omega)) ?_; intro ao37 cap37 c37 hL37)
    refine Go.Sl.ow_val rfl rfl (Go.Sl.v_fieldAddr0 Ty.fd62_2 rfl) ?_
    refine Go.Sl.ow_store1 rfl rfl rfl rfl Ty.sc60 (.there .here) (Go.Sl.SetN.one (by first | decide | exact Nat.le_of_ble_eq_true rfl)) ?_
    refine Go.Sl.ow_nil ?_
    refine Go.Sl.xw_block ?_
    exact xw_round (⟨n ++ [(n.length : Int) * 7], ao37, cap37, c37⟩ : FiG) ⟨hL37, by dsimp only; rw [List.length_append, List.length_singleton]; omega⟩ (by dsimp only; rw [List.length_append, List.length_singleton]; omega) (by first | exact Go.Sl.Cov.refl _ | (intro p; simp only [List.flatten_cons, List.flatten_nil, List.flatten_append, List.append_nil, List.nil_append, Go.Sl.cnt_append, Go.Sl.cnt_cons, Go.Sl.cnt_nil, List.set_cons_zero, List.set_cons_succ, List.length_nil, List.length_cons, Nat.zero_add, List.append]; omega)) (by repeat (first | exact True.intro | refine And.intro rfl ?_))
  have hml : mk ≤ n.length := by omega
  have hL2 := hL.take qTy hml
  have hcap : n.length ≤ cc := by
    obtain ⟨_, _, h5, h6⟩ := hL.view
    injection h5 with _ _ h7
    omega
  refine Go.Sl.cw_seq ?_
  refine Go.Sl.cw_region ?_
  refine Go.Sl.ow_val rfl rfl (Go.Sl.v_fieldAddr0 Ty.fd62_2 rfl) ?_
  refine Go.Sl.ow_val rfl rfl (Go.Sl.v_load rfl (Go.Sl.Var.at1 Ty.sc60 .here (Go.Sl.GetN.lit rfl))) ?_
  refine Go.Sl.ow_val rfl rfl (Go.Sl.v_move rfl) ?_
  refine Go.Sl.ow_val rfl rfl (Go.Sl.v_slice_nh Try.underlying60 Ty.el60 rfl rfl rfl (by omega)) ?_
  refine Go.Sl.ow_val rfl rfl (Go.Sl.v_fieldAddr0 Ty.fd62_2 rfl) ?_
  refine Go.Sl.ow_store1 rfl rfl rfl rfl Ty.sc60 .here (Go.Sl.SetN.one (by first | decide | exact Nat.le_of_ble_eq_true rfl)) ?_
  refine Go.Sl.ow_nil ?_
  refine Go.Sl.xw_then ?_
  refine Go.Sl.cw_seq ?_
  refine Go.Sl.cw_seq ?_
  refine Go.Sl.cw_region ?_
  refine Go.Sl.ow_val rfl rfl (Go.Sl.v_fieldAddr0 Ty.fd62_2 rfl) ?_
  refine Go.Sl.ow_val rfl rfl (Go.Sl.v_load rfl (Go.Sl.Var.at1 Ty.sc60 .here (Go.Sl.GetN.lit rfl))) ?_
  refine Go.Sl.ow_val rfl rfl (Go.Sl.v_len rfl Try.underlying60 rfl) ?_
  refine Go.Sl.ow_val rfl rfl (Go.Sl.v_move rfl) ?_
  refine Go.Sl.ow_nil ?_
  refine Go.Sl.xw_then ?_
  refine Go.Sl.cw_block ?_
  dsimp only [List.set]
  refine Go.Sl.cw_loop2 (ι := ((Nat × List Int × Hp))) [(2, _), (4, _), (6, _), (46, _)] ⟨rfl, rfl, rfl, rfl, trivial⟩ ((fun x => [(47, .int .i64 x.1), (6, .bool (dataK (1 + k.tmod 19)))])) ((fun x => x.1 ≤ mk ∧ x.2.1.length = mk ∧ Ls enQ 22 (.slice a mk cc) x.2.2 x.2.1)) ((fun x => mk - x.1)) ((fun x => [(b2, .cells [Value.int .u8 (1 + k.tmod 19), .int .u64 (e.t.tmod 1125899906842625), .slice a mk cc, .slice da e.d.length dc].toArray 62 (0, 0))] :: x.2.2 :: cd :: [(b4, .cells [Value.int .u8 0, .int .u64 0, .slice none 0 0, .slice none 0 0].toArray 62 (0, 0))] :: G)) (((0, n.take mk, ch) : Nat × List Int × Hp)) (by repeat (first | exact True.intro | refine And.intro rfl ?_)) (by first | exact Go.Sl.Cov.refl _ | (intro p; simp only [List.flatten_cons, List.flatten_nil, List.flatten_append, List.append_nil, List.nil_append, Go.Sl.cnt_append, Go.Sl.cnt_cons, Go.Sl.cnt_nil, List.set_cons_zero, List.set_cons_succ, List.length_nil, List.length_cons, Nat.zero_add, List.append]; omega)) ?_ ?_
  · exact ⟨Nat.zero_le _, by dsimp only; rw [List.length_take]; omega, hL2⟩
  rintro ⟨i, n2, ch2⟩ ⟨hi, hn2, hLi⟩
  dsimp only at hi hn2 hLi ⊢
  refine Go.Sl.cw_seq ?_
  refine Go.Sl.cw_region ?_
  refine Go.Sl.ow_val rfl rfl (Go.Sl.v_lss rfl rfl) ?_
  refine Go.Sl.ow_nil ?_
  refine Go.Sl.xw_then ?_
  refine Go.Sl.cw_seq ?_
  refine Go.Sl.cw_dec rfl (fun hc48 => ?_) (fun hc48 => ?_)
  refine Go.Sl.cw_skip ?_
  refine Go.Sl.xw_then ?_
  rotate_left
  refine Go.Sl.cw_exit ?_
  refine Go.Sl.xw_then_exit ?_
  refine Go.Sl.xw_round_exit ?_
  refine Go.Sl.xw_block_exit ?_
  refine Go.Sl.xw_then ?_
  rotate_left
  · have hi2 : i < n2.length := by omega
    refine Go.Sl.cw_seq ?_
    refine Go.Sl.cw_block ?_
    refine Go.Sl.cw_seq ?_
    refine Go.Sl.cw_region ?_
    refine Go.Sl.ow_val rfl rfl (Go.Sl.v_move rfl) ?_
    refine Go.Sl.ow_val rfl rfl (Go.Sl.v_assign rfl) ?_
    refine Go.Sl.ow_nil ?_
    refine Go.Sl.xw_then ?_
    refine Go.Sl.cw_region ?_
    refine Go.Sl.ow_val rfl rfl (Go.Sl.v_fieldAddr0 Ty.fd62_2 rfl) ?_
    refine Go.Sl.ow_val rfl rfl (Go.Sl.v_load rfl (Go.Sl.Var.at1 Ty.sc60 .here (Go.Sl.GetN.lit rfl))) ?_
    refine Go.Sl.ow_val rfl rfl (Go.Sl.v_move rfl) ?_
    refine Go.Sl.ow_val rfl rfl (Go.Sl.v_indexAddr_ls Try.underlying60 (qTy) rfl rfl (by assumption) rfl (by omega)) ?_
    refine Go.Sl.ow_val rfl rfl (Go.Sl.v_load rfl (Go.Sl.Vw.var (qTy) ((hLi.vw (by repeat (first | exact Go.Sl.Sub.here | exact Go.Sl.Sub.nil | assumption | refine Go.Sl.Sub.there ?_)))) (by omega))) ?_
    refine Go.Sl.ow_val rfl rfl (Go.Sl.v_and rfl rfl rfl) ?_
    refine Go.Sl.ow_val rfl rfl (Go.Sl.v_indexAddr_ls Try.underlying60 (qTy) rfl rfl (by assumption) rfl (by omega)) ?_
    refine ow_storeL (i := i) (a := bitsOf .and .u64 n2[i] 4611686018427387903) rfl rfl rfl qTy hLi (by repeat (first | exact Go.Sl.Sel.here | apply Go.Sl.Sel.there)) (by omega) (inQbits _ _ _) ?_
    intro c57 hL57
    refine Go.Sl.ow_nil ?_
    refine Go.Sl.xw_block ?_
    refine Go.Sl.xw_then ?_
    refine Go.Sl.cw_region ?_
    refine Go.Sl.ow_val rfl rfl (Go.Sl.v_add rfl rfl (Go.Sl.nw_i64 (by omega) (by omega))) ?_
    refine Go.Sl.ow_val rfl rfl (Go.Sl.v_move rfl) ?_
    refine Go.Sl.ow_nil ?_
    exact xw_round ((i + 1, n2.set i (bitsOf .and .u64 n2[i] 4611686018427387903), c57) : Nat × List Int × Hp) ⟨by dsimp only; omega, by dsimp only; rw [List.length_set]; exact hn2, hL57⟩ (by dsimp only; omega) (by first | exact Go.Sl.Cov.refl _ | (intro p; simp only [List.flatten_cons, List.flatten_nil, List.flatten_append, List.append_nil, List.nil_append, Go.Sl.cnt_append, Go.Sl.cnt_cons, Go.Sl.cnt_nil, List.set_cons_zero, List.set_cons_succ, List.length_nil, List.length_cons, Nat.zero_add, List.append]; omega)) (by repeat (first | exact True.intro | refine And.intro rfl ?_))
  have hmd := hB.take vbTy (m := min e.d.length 20) (by omega)
  have hcd : e.d.length ≤ dc := by
    obtain ⟨_, _, h5, h6⟩ := hB.view
    injection h5 with _ _ h7
    omega
  have hcx : ∀ u ∈ [Value.int .u8 (1 + k.tmod 19), .int .u64 (e.t.tmod 1125899906842625), .slice a mk cc, .slice da e.d.length dc], u.oneCell' = true := by simp
  subst hn2
  refine Go.Sl.cw_seq ?_
  refine Go.Sl.cw_seq ?_
  refine Go.Sl.cw_region ?_
  refine Go.Sl.ow_val rfl rfl (Go.Sl.v_move rfl) ?_
  refine Go.Sl.ow_val rfl rfl (Go.Sl.v_not_bool rfl) ?_
  refine Go.Sl.ow_nil ?_
  refine Go.Sl.xw_then ?_
  refine Go.Sl.cw_bool rfl (fun hc59 => ?_) (fun hc59 => ?_)
  refine Go.Sl.cw_region ?_
  refine Go.Sl.ow_val rfl rfl (Go.Sl.v_fieldAddr0 Ty.fd62_3 rfl) ?_
  refine Go.Sl.ow_store1 rfl rfl rfl rfl Ty.sc23 .here (Go.Sl.SetN.one (by first | decide | exact Nat.le_of_ble_eq_true rfl)) ?_
  refine Go.Sl.ow_nil ?_
  refine Go.Sl.xw_then ?_
  refine Go.Sl.cw_seq ?_
  refine Go.Sl.cw_region ?_
  refine Go.Sl.ow_val rfl rfl (Go.Sl.v_load rfl (Go.Sl.Var.atN Ty.ag62 .here Go.Sl.GetN.all (by first | rfl | assumption))) ?_
  refine Go.Sl.ow_storeN rfl rfl rfl Ty.ag62 (by first | rfl | assumption) (by first | assumption | simp) (.there (.there (.there .here))) (Go.Sl.SetN.all (by first | rfl | assumption | simp_all)) ?_
  refine Go.Sl.ow_nil ?_
  refine Go.Sl.xw_then ?_
  refine Go.Sl.cw_ret ?_
  refine Go.Sl.ret1 rfl (Go.Sl.res_cell rfl (Go.Sl.Var.atN Ty.ag62 (.there (.there (.there .here))) Go.Sl.GetN.all (by first | rfl | assumption))) ?_
  rotate_left
  refine Go.Sl.cw_region ?_
  refine Go.Sl.ow_val rfl rfl (Go.Sl.v_fieldAddr0 Ty.fd62_3 rfl) ?_
  refine Go.Sl.ow_val rfl rfl (Go.Sl.v_load rfl (Go.Sl.Var.at1 Ty.sc23 .here (Go.Sl.GetN.lit rfl))) ?_
  refine Go.Sl.ow_val rfl rfl (Go.Sl.v_fieldAddr0 Ty.fd62_3 rfl) ?_
  refine Go.Sl.ow_val rfl rfl (Go.Sl.v_load rfl (Go.Sl.Var.at1 Ty.sc23 .here (Go.Sl.GetN.lit rfl))) ?_
  refine Go.Sl.ow_val rfl rfl (Go.Sl.v_len rfl Try.underlying23 rfl) ?_
  refine Go.Sl.ow_val rfl rfl (Go.Sl.v_min rfl rfl) ?_
  refine Go.Sl.ow_val rfl rfl (Go.Sl.v_slice_nh Try.underlying23 Ty.el23 rfl rfl (Int.toNat_of_nonneg (by omega)).symm (by omega)) ?_
  refine Go.Sl.ow_val rfl rfl (Go.Sl.v_fieldAddr0 Ty.fd62_3 rfl) ?_
  refine Go.Sl.ow_store1 rfl rfl rfl rfl Ty.sc23 .here (Go.Sl.SetN.one (by first | decide | exact Nat.le_of_ble_eq_true rfl)) ?_
  refine Go.Sl.ow_nil ?_
  refine Go.Sl.xw_then ?_
  refine Go.Sl.cw_seq ?_
  refine Go.Sl.cw_region ?_
  refine Go.Sl.ow_val rfl rfl (Go.Sl.v_load rfl (Go.Sl.Var.atN Ty.ag62 .here Go.Sl.GetN.all (by first | rfl | assumption))) ?_
  refine Go.Sl.ow_storeN rfl rfl rfl Ty.ag62 (by first | rfl | assumption) (by first | assumption | simp) (.there (.there (.there .here))) (Go.Sl.SetN.all (by first | rfl | assumption | simp_all)) ?_
  refine Go.Sl.ow_nil ?_
  refine Go.Sl.xw_then ?_
  refine Go.Sl.cw_ret ?_
  refine Go.Sl.ret1 rfl (Go.Sl.res_cell rfl (Go.Sl.Var.atN Ty.ag62 (.there (.there (.there .here))) Go.Sl.GetN.all (by first | rfl | assumption))) ?_
  rotate_left
  · exact ⟨⟨⟨1 + k.tmod 19, e.t.tmod 1125899906842625, n2, []⟩, ⟨a, cc, none, 0⟩, ch2, []⟩, rfl, ⟨⟨⟨by dsimp only; omega, by dsimp only; omega⟩, ⟨htt.1, by dsimp only; omega⟩, hLi.ok, by dsimp only; omega, by simp⟩, hkb, hmk.symm, by simp, hLi, (Ls.nil (En := enB) (e := 5)).rd⟩, (by first | exact Go.Sl.Cov.refl _ | (intro p; simp only [List.flatten_cons, List.flatten_nil, List.flatten_append, List.append_nil, List.nil_append, Go.Sl.cnt_append, Go.Sl.cnt_cons, Go.Sl.cnt_nil, List.set_cons_zero, List.set_cons_succ, List.length_nil, List.length_cons, Nat.zero_add, List.append]; omega))⟩
  · have hq := Ls.self hmd
    have hx1 : (min (e.d.length : Int) 20).toNat = (e.d.take (min e.d.length 20)).length := by rw [List.length_take]; omega
    have hx2 : (e.d.take (min e.d.length 20)).length ≤ 20 := by rw [List.length_take]; omega
    rw [hx1]
    exact ⟨⟨⟨1 + k.tmod 19, e.t.tmod 1125899906842625, n2, e.d.take (min e.d.length 20)⟩, ⟨a, cc, da, dc⟩, ch2, cd⟩, rfl, ⟨⟨⟨by dsimp only; omega, by dsimp only; omega⟩, ⟨htt.1, by dsimp only; omega⟩, hLi.ok, by dsimp only; omega, by dsimp only; omega⟩, hkb, hmk.symm, hx2, hLi, hq.rd⟩, (by first | exact Go.Sl.Cov.refl _ | (intro p; simp only [List.flatten_cons, List.flatten_nil, List.flatten_append, List.append_nil, List.nil_append, Go.Sl.cnt_append, Go.Sl.cnt_cons, Go.Sl.cnt_nil, List.set_cons_zero, List.set_cons_succ, List.length_nil, List.length_cons, Nat.zero_add, List.append]; omega))⟩
theorem inQmod {x : Int} (h : inQ x) {m : Int} (hm : 0 < m) (hm2 : m ≤ 1000) : inQ (x.tmod m) := by
  unfold inQ at h ⊢
  have h1 := Int.tmod_nonneg m h.1
  have h2 := Int.tmod_lt_of_pos x hm
  omega
theorem manyK_pos {k : Int} {n : Nat} (h : 2 ≤ k ∧ k ≤ 7) (hn : (n : Int) = manyK k.toNat) : 1 ≤ n := by
  obtain ⟨m, rfl⟩ := Int.eq_ofNat_of_zero_le (show 0 ≤ k by omega)
  have hm : 2 ≤ m ∧ m ≤ 7 := by omega
  have key : ∀ j : Fin 8, 2 ≤ j.val → 1 ≤ manyK j.val := by decide
  have h1 := key ⟨m, by omega⟩ hm.1
  have h2 : (n : Int) = manyK m := hn
  have h3 : 1 ≤ manyK m := h1
  omega
set_option maxHeartbeats 8000000 in
theorem small_c {B : Nat} {w0 : World} {G : List Hp} {e : EvM} {p : EvP} {k : Int} (hE : EvIn (St B w0 G) e p) (he : e.ok) (hln : e.n.length ≤ 100000) (hld : e.d.length ≤ 100000) (hk : 0 ≤ k ∧ k ≤ 255) :
    Go.Sl.Fn Try.prog 27 #[.agg (e.cells p).toArray, .int .u8 k] B w0 G fun u G' => ∃ x : EvF, u = .agg (x.m.cells x.p).toArray ∧ x.Is ∧ G' = [x.cn, x.cd] ++ G := by
  refine Fn.new (V := fun x : EvF => .agg (x.m.cells x.p).toArray) (Nw := fun x => [x.cn, x.cd]) ?_
  have hcp : ∀ u ∈ e.cells p, u.oneCell' = true := EvM.cells_one
  have hclp : (e.cells p).length = 4 := rfl
  refine fn_enter Try.func27 rfl (by kernel_rfl) Try.ntmps27 (by simp) ?_
  refine Go.Sl.cw_seq ?_
  refine Go.Sl.cw_region ?_
  (refine Go.Sl.ow_box rfl rfl rfl rfl ?_; intro b2)
  (refine Go.Sl.ow_alloc rfl rfl Ty.ze62 ?_; intro b4)
  refine Go.Sl.ow_nil ?_
  refine Go.Sl.xw_then ?_
  refine Go.Sl.cw_seq ?_
  refine Go.Sl.cw_region ?_
  refine Go.Sl.ow_val rfl rfl (Go.Sl.v_load rfl (Go.Sl.Var.atN Ty.ag62 (.there .here) Go.Sl.GetN.all (by first | rfl | assumption))) ?_
  refine Go.Sl.ow_val rfl rfl (Go.Sl.v_move rfl) ?_
  (refine Go.Sl.ow_call rfl rfl rfl rfl (evFit_c (hE.cov (by first | exact Go.Sl.Cov.refl _ | (intro p; simp only [List.flatten_cons, List.flatten_nil, List.flatten_append, List.append_nil, List.nil_append, Go.Sl.cnt_append, Go.Sl.cnt_cons, Go.Sl.cnt_nil, List.set_cons_zero, List.set_cons_succ, List.length_nil, List.length_cons, Nat.zero_add, List.append]; omega))) he hln hld hk) ?_; rintro _ _ ⟨x8, rfl, hq8, rfl⟩)
  obtain ⟨⟨k', t', n, d⟩, ⟨na, nc, da, dc⟩, cn, cd⟩ := x8
  obtain ⟨q1, q2, q3, q4, q5, q6⟩ := hq8
  dsimp only at q1 q2 q3 q4 q5 q6 ⊢
  have hxo : ∀ u ∈ (EvM.mk k' t' n d).cells ⟨na, nc, da, dc⟩, u.oneCell' = true := EvM.cells_one
  have hb8 := manyK_bd k'.toNat
  have hn8 : n.length ≤ 8 := by omega
  refine Go.Sl.ow_storeN rfl rfl rfl Ty.ag62 (by first | rfl | assumption) (by first | assumption | simp) (.there (.there (.there .here))) ((SetN.all (vs := (EvM.mk k' t' n d).cells ⟨na, nc, da, dc⟩) rfl)) ?_
  refine Go.Sl.ow_nil ?_
  refine Go.Sl.xw_then ?_
  refine Go.Sl.cw_seq ?_
  refine Go.Sl.cw_seq ?_
  refine Go.Sl.cw_region ?_
  refine Go.Sl.ow_val rfl rfl (Go.Sl.v_fieldAddr0 Ty.fd62_2 rfl) ?_
  refine Go.Sl.ow_val rfl rfl (Go.Sl.v_load rfl (Go.Sl.Var.at1 Ty.sc60 (.there (.there (.there .here))) (Go.Sl.GetN.lit rfl))) ?_
  refine Go.Sl.ow_val rfl rfl (Go.Sl.v_len rfl Try.underlying60 rfl) ?_
  refine Go.Sl.ow_val rfl rfl (Go.Sl.v_move rfl) ?_
  refine Go.Sl.ow_nil ?_
  refine Go.Sl.xw_then ?_
  refine Go.Sl.cw_block ?_
  unfold EvM.cells
  dsimp only
  refine cw_cov ([(b2, .cells [Value.int .u8 k', .int .u64 t', .slice na n.length nc, .slice da d.length dc].toArray 62 (0, 0))] :: cn :: cd :: [(b4, .cells [Value.int .u8 0, .int .u64 0, .slice none 0 0, .slice none 0 0].toArray 62 (0, 0))] :: G) (by first | exact Go.Sl.Cov.refl _ | (intro p; simp only [List.flatten_cons, List.flatten_nil, List.flatten_append, List.append_nil, List.nil_append, Go.Sl.cnt_append, Go.Sl.cnt_cons, Go.Sl.cnt_nil, List.set_cons_zero, List.set_cons_succ, List.length_nil, List.length_cons, Nat.zero_add, List.append]; omega)) ?_
  refine Go.Sl.cw_loop2 (ι := ((Nat × List Int × Hp))) [(1, _), (2, _), (4, _), (11, _)] ⟨rfl, rfl, rfl, rfl, trivial⟩ ((fun x => [(12, .int .i64 x.1)])) ((fun x => x.1 ≤ n.length ∧ x.2.1.length = n.length ∧ Ls enQ 22 (.slice na n.length nc) x.2.2 x.2.1)) ((fun x => n.length - x.1)) ((fun x => [(b2, .cells [Value.int .u8 k', .int .u64 t', .slice na n.length nc, .slice da d.length dc].toArray 62 (0, 0))] :: x.2.2 :: cd :: [(b4, .cells [Value.int .u8 0, .int .u64 0, .slice none 0 0, .slice none 0 0].toArray 62 (0, 0))] :: G)) (((0, n, cn) : Nat × List Int × Hp)) (by repeat (first | exact True.intro | refine And.intro rfl ?_)) (by first | exact Go.Sl.Cov.refl _ | (intro p; simp only [List.flatten_cons, List.flatten_nil, List.flatten_append, List.append_nil, List.nil_append, Go.Sl.cnt_append, Go.Sl.cnt_cons, Go.Sl.cnt_nil, List.set_cons_zero, List.set_cons_succ, List.length_nil, List.length_cons, Nat.zero_add, List.append]; omega)) ?_ ?_
  · exact ⟨Nat.zero_le _, rfl, q5⟩
  rintro ⟨i, n2, ch2⟩ ⟨hi, hn2, hLi⟩
  dsimp only at hi hn2 hLi ⊢
  refine Go.Sl.cw_seq ?_
  refine Go.Sl.cw_region ?_
  refine Go.Sl.ow_val rfl rfl (Go.Sl.v_lss rfl rfl) ?_
  refine Go.Sl.ow_nil ?_
  refine Go.Sl.xw_then ?_
  refine Go.Sl.cw_seq ?_
  refine Go.Sl.cw_dec rfl (fun hc13 => ?_) (fun hc13 => ?_)
  refine Go.Sl.cw_skip ?_
  refine Go.Sl.xw_then ?_
  refine Go.Sl.cw_seq ?_
  refine Go.Sl.cw_block ?_
  refine Go.Sl.cw_seq ?_
  refine Go.Sl.cw_region ?_
  refine Go.Sl.ow_val rfl rfl (Go.Sl.v_move rfl) ?_
  refine Go.Sl.ow_val rfl rfl (Go.Sl.v_assign rfl) ?_
  refine Go.Sl.ow_nil ?_
  refine Go.Sl.xw_then ?_
  refine Go.Sl.cw_region ?_
  refine Go.Sl.ow_val rfl rfl (Go.Sl.v_fieldAddr0 Ty.fd62_2 rfl) ?_
  refine Go.Sl.ow_val rfl rfl (Go.Sl.v_load rfl (Go.Sl.Var.at1 Ty.sc60 .here (Go.Sl.GetN.lit rfl))) ?_
  refine Go.Sl.ow_val rfl rfl (Go.Sl.v_move rfl) ?_
  rotate_left
  refine Go.Sl.cw_exit ?_
  refine Go.Sl.xw_then_exit ?_
  refine Go.Sl.xw_round_exit ?_
  refine Go.Sl.xw_block_exit ?_
  refine Go.Sl.xw_then ?_
  refine Go.Sl.cw_seq ?_
  refine Go.Sl.cw_seq ?_
  refine Go.Sl.cw_region ?_
  refine Go.Sl.ow_val rfl rfl (Go.Sl.v_fieldAddr0 Ty.fd62_0 rfl) ?_
  refine Go.Sl.ow_val rfl rfl (Go.Sl.v_load rfl (Go.Sl.Var.at1 Ty.sc59 .here (Go.Sl.GetN.lit rfl))) ?_
  refine Go.Sl.ow_nil ?_
  refine Go.Sl.xw_then ?_
  refine Go.Sl.cw_block ?_
  rotate_left
  · have hi2 : i < n2.length := by omega
    have hqi := hLi.ok _ (List.getElem_mem hi2)
    refine Go.Sl.ow_val rfl rfl (Go.Sl.v_indexAddr_ls Try.underlying60 (qTy) rfl rfl (by assumption) rfl (by omega)) ?_
    refine Go.Sl.ow_val rfl rfl (Go.Sl.v_load rfl (Go.Sl.Vw.var (qTy) ((hLi.vw (by repeat (first | exact Go.Sl.Sub.here | exact Go.Sl.Sub.nil | assumption | refine Go.Sl.Sub.there ?_)))) (by omega))) ?_
    refine Go.Sl.ow_val rfl rfl (Go.Sl.v_rem rfl rfl (by decide)) ?_
    refine Go.Sl.ow_val rfl rfl (Go.Sl.v_indexAddr_ls Try.underlying60 (qTy) rfl rfl (by assumption) rfl (by omega)) ?_
    refine ow_storeL (i := i) (a := n2[i].tmod 12) rfl rfl rfl qTy hLi (by repeat (first | exact Go.Sl.Sel.here | apply Go.Sl.Sel.there)) (by omega) (inQmod hqi (by decide) (by decide)) ?_
    intro c57 hL57
    refine Go.Sl.ow_nil ?_
    refine Go.Sl.xw_block ?_
    refine Go.Sl.xw_then ?_
    refine Go.Sl.cw_region ?_
    refine Go.Sl.ow_val rfl rfl (Go.Sl.v_add rfl rfl (Go.Sl.nw_i64 (by omega) (by omega))) ?_
    refine Go.Sl.ow_val rfl rfl (Go.Sl.v_move rfl) ?_
    refine Go.Sl.ow_nil ?_
    exact xw_round ((i + 1, n2.set i (n2[i].tmod 12), c57) : Nat × List Int × Hp) ⟨by dsimp only; omega, by dsimp only; rw [List.length_set]; exact hn2, hL57⟩ (by dsimp only; omega) (by first | exact Go.Sl.Cov.refl _ | (intro p; simp only [List.flatten_cons, List.flatten_nil, List.flatten_append, List.append_nil, List.nil_append, Go.Sl.cnt_append, Go.Sl.cnt_cons, Go.Sl.cnt_nil, List.set_cons_zero, List.set_cons_succ, List.length_nil, List.length_cons, Nat.zero_add, List.append]; omega)) (by repeat (first | exact True.intro | refine And.intro rfl ?_))
  have fin : ∀ (n9 : List Int) (c9 : Hp), n9.length = n.length → Ls enQ 22 (.slice na n.length nc) c9 n9 → (⟨⟨k', t', n9, d⟩, ⟨na, nc, da, dc⟩, c9, cd⟩ : EvF).Is := fun n9 c9 h9 hL9 => ⟨⟨q1.k, q1.t, hL9.ok, by dsimp only; omega, q1.ld⟩, q2, by dsimp only; rw [h9]; exact q3, q4, by dsimp only; rw [h9]; exact hL9, q6⟩
  refine Go.Sl.cw_cut2 (ι := (Bool)) [(1, _), (2, _), (4, _)] ⟨rfl, rfl, rfl, trivial⟩ ((fun x => [(25, .bool x)])) ((fun x => x = true → 2 ≤ k' ∧ k' ≤ 7)) ((fun _ => [(b2, .cells [Value.int .u8 k', .int .u64 t', .slice na n.length nc, .slice da d.length dc].toArray 62 (0, 0))] :: ch2 :: cd :: [(b4, .cells [Value.int .u8 0, .int .u64 0, .slice none 0 0, .slice none 0 0].toArray 62 (0, 0))] :: G)) ?_ ?_
  · refine Go.Sl.cw_seq ?_
    refine Go.Sl.cw_region ?_
    refine Go.Sl.ow_val rfl rfl (Go.Sl.v_eql rfl rfl) ?_
    refine Go.Sl.ow_val rfl rfl (Go.Sl.v_assign rfl) ?_
    refine Go.Sl.ow_nil ?_
    refine Go.Sl.xw_then ?_
    refine Go.Sl.cw_dec rfl (fun hc25 => ?_) (fun hc25 => ?_)
    refine Go.Sl.cw_skip ?_
    rotate_left
    refine Go.Sl.cw_seq ?_
    refine Go.Sl.cw_region ?_
    refine Go.Sl.ow_val rfl rfl (Go.Sl.v_eql rfl rfl) ?_
    refine Go.Sl.ow_val rfl rfl (Go.Sl.v_assign rfl) ?_
    refine Go.Sl.ow_nil ?_
    refine Go.Sl.xw_then ?_
    refine Go.Sl.cw_dec rfl (fun hc25 => ?_) (fun hc25 => ?_)
    refine Go.Sl.cw_skip ?_
    rotate_left
    refine Go.Sl.cw_seq ?_
    refine Go.Sl.cw_region ?_
    refine Go.Sl.ow_val rfl rfl (Go.Sl.v_eql rfl rfl) ?_
    refine Go.Sl.ow_val rfl rfl (Go.Sl.v_assign rfl) ?_
    refine Go.Sl.ow_nil ?_
    refine Go.Sl.xw_then ?_
    refine Go.Sl.cw_dec rfl (fun hc25 => ?_) (fun hc25 => ?_)
    refine Go.Sl.cw_skip ?_
    rotate_left
    refine Go.Sl.cw_seq ?_
    refine Go.Sl.cw_region ?_
    refine Go.Sl.ow_val rfl rfl (Go.Sl.v_eql rfl rfl) ?_
    refine Go.Sl.ow_val rfl rfl (Go.Sl.v_assign rfl) ?_
    refine Go.Sl.ow_nil ?_
    refine Go.Sl.xw_then ?_
    refine Go.Sl.cw_dec rfl (fun hc25 => ?_) (fun hc25 => ?_)
    refine Go.Sl.cw_skip ?_
    rotate_left
    refine Go.Sl.cw_seq ?_
    refine Go.Sl.cw_region ?_
    refine Go.Sl.ow_val rfl rfl (Go.Sl.v_eql rfl rfl) ?_
    refine Go.Sl.ow_val rfl rfl (Go.Sl.v_assign rfl) ?_
    refine Go.Sl.ow_nil ?_
    refine Go.Sl.xw_then ?_
    refine Go.Sl.cw_dec rfl (fun hc25 => ?_) (fun hc25 => ?_)
    refine Go.Sl.cw_skip ?_
    rotate_left
    refine Go.Sl.cw_region ?_
    refine Go.Sl.ow_val rfl rfl (Go.Sl.v_eql rfl rfl) ?_
    refine Go.Sl.ow_val rfl rfl (Go.Sl.v_assign rfl) ?_
    refine Go.Sl.ow_nil ?_
    rotate_left
    · exact xw_joint (decide (k' = 2)) (fun h => by have := of_decide_eq_true h; omega) (by first | exact Go.Sl.Cov.refl _ | (intro p; simp only [List.flatten_cons, List.flatten_nil, List.flatten_append, List.append_nil, List.nil_append, Go.Sl.cnt_append, Go.Sl.cnt_cons, Go.Sl.cnt_nil, List.set_cons_zero, List.set_cons_succ, List.length_nil, List.length_cons, Nat.zero_add, List.append]; omega)) (by repeat (first | exact True.intro | refine And.intro rfl ?_))
    · exact xw_joint (decide (k' = 3)) (fun h => by have := of_decide_eq_true h; omega) (by first | exact Go.Sl.Cov.refl _ | (intro p; simp only [List.flatten_cons, List.flatten_nil, List.flatten_append, List.append_nil, List.nil_append, Go.Sl.cnt_append, Go.Sl.cnt_cons, Go.Sl.cnt_nil, List.set_cons_zero, List.set_cons_succ, List.length_nil, List.length_cons, Nat.zero_add, List.append]; omega)) (by repeat (first | exact True.intro | refine And.intro rfl ?_))
    · exact xw_joint (decide (k' = 4)) (fun h => by have := of_decide_eq_true h; omega) (by first | exact Go.Sl.Cov.refl _ | (intro p; simp only [List.flatten_cons, List.flatten_nil, List.flatten_append, List.append_nil, List.nil_append, Go.Sl.cnt_append, Go.Sl.cnt_cons, Go.Sl.cnt_nil, List.set_cons_zero, List.set_cons_succ, List.length_nil, List.length_cons, Nat.zero_add, List.append]; omega)) (by repeat (first | exact True.intro | refine And.intro rfl ?_))
    · exact xw_joint (decide (k' = 5)) (fun h => by have := of_decide_eq_true h; omega) (by first | exact Go.Sl.Cov.refl _ | (intro p; simp only [List.flatten_cons, List.flatten_nil, List.flatten_append, List.append_nil, List.nil_append, Go.Sl.cnt_append, Go.Sl.cnt_cons, Go.Sl.cnt_nil, List.set_cons_zero, List.set_cons_succ, List.length_nil, List.length_cons, Nat.zero_add, List.append]; omega)) (by repeat (first | exact True.intro | refine And.intro rfl ?_))
    · exact xw_joint (decide (k' = 6)) (fun h => by have := of_decide_eq_true h; omega) (by first | exact Go.Sl.Cov.refl _ | (intro p; simp only [List.flatten_cons, List.flatten_nil, List.flatten_append, List.append_nil, List.nil_append, Go.Sl.cnt_append, Go.Sl.cnt_cons, Go.Sl.cnt_nil, List.set_cons_zero, List.set_cons_succ, List.length_nil, List.length_cons, Nat.zero_add, List.append]; omega)) (by repeat (first | exact True.intro | refine And.intro rfl ?_))
    · exact xw_joint (decide (k' = 7)) (fun h => by have := of_decide_eq_true h; omega) (by first | exact Go.Sl.Cov.refl _ | (intro p; simp only [List.flatten_cons, List.flatten_nil, List.flatten_append, List.append_nil, List.nil_append, Go.Sl.cnt_append, Go.Sl.cnt_cons, Go.Sl.cnt_nil, List.set_cons_zero, List.set_cons_succ, List.length_nil, List.length_cons, Nat.zero_add, List.append]; omega)) (by repeat (first | exact True.intro | refine And.intro rfl ?_))
  rintro x hx
  have hcz : ∀ u ∈ [Value.int .u8 k', .int .u64 t', .slice na n.length nc, .slice da d.length dc], u.oneCell' = true := by simp
  cases x with
  | false =>
    refine Go.Sl.cw_false rfl ?_
    refine Go.Sl.cw_skip ?_
    refine Go.Sl.xw_block ?_
    refine Go.Sl.xw_then ?_
    refine Go.Sl.cw_seq ?_
    refine Go.Sl.cw_region ?_
    refine Go.Sl.ow_val rfl rfl (Go.Sl.v_load rfl (Go.Sl.Var.atN Ty.ag62 .here Go.Sl.GetN.all (by first | rfl | assumption))) ?_
    refine Go.Sl.ow_storeN rfl rfl rfl Ty.ag62 (by first | rfl | assumption) (by first | assumption | simp) (.there (.there (.there .here))) (Go.Sl.SetN.all (by first | rfl | assumption | simp_all)) ?_
    refine Go.Sl.ow_nil ?_
    refine Go.Sl.xw_then ?_
    refine Go.Sl.cw_ret ?_
    refine Go.Sl.ret1 rfl (Go.Sl.res_cell rfl (Go.Sl.Var.atN Ty.ag62 (.there (.there (.there .here))) Go.Sl.GetN.all (by first | rfl | assumption))) ?_
    exact ⟨⟨⟨k', t', n2, d⟩, ⟨na, nc, da, dc⟩, ch2, cd⟩, by dsimp only; rw [hn2], fin n2 ch2 hn2 hLi, (by first | exact Go.Sl.Cov.refl _ | (intro p; simp only [List.flatten_cons, List.flatten_nil, List.flatten_append, List.append_nil, List.nil_append, Go.Sl.cnt_append, Go.Sl.cnt_cons, Go.Sl.cnt_nil, List.set_cons_zero, List.set_cons_succ, List.length_nil, List.length_cons, Nat.zero_add, List.append]; omega))⟩
  | true =>
    have hk27 := hx rfl
    have hpos : 1 ≤ n.length := manyK_pos hk27 q3
    have hq0 := hLi.ok (n2[0]'(by omega)) (List.getElem_mem _)
    refine Go.Sl.cw_true rfl ?_
    refine Go.Sl.cw_seq ?_
    refine Go.Sl.cw_region ?_
    refine Go.Sl.ow_val rfl rfl (Go.Sl.v_fieldAddr0 Ty.fd62_2 rfl) ?_
    refine Go.Sl.ow_val rfl rfl (Go.Sl.v_load rfl (Go.Sl.Var.at1 Ty.sc60 .here (Go.Sl.GetN.lit rfl))) ?_
    refine Go.Sl.ow_val rfl rfl (Go.Sl.v_indexAddr_ls (i := 0) Try.underlying60 (qTy) rfl rfl (by assumption) rfl (by omega)) ?_
    refine Go.Sl.ow_val rfl rfl (Go.Sl.v_load rfl (Go.Sl.Vw.var (qTy) ((hLi.vw (by repeat (first | exact Go.Sl.Sub.here | exact Go.Sl.Sub.nil | assumption | refine Go.Sl.Sub.there ?_)))) (by omega))) ?_
    refine Go.Sl.ow_val rfl rfl (Go.Sl.v_rem rfl rfl (by decide)) ?_
    refine Go.Sl.ow_val rfl rfl (Go.Sl.v_indexAddr_ls (i := 0) Try.underlying60 (qTy) rfl rfl (by assumption) rfl (by omega)) ?_
    refine ow_storeL (i := 0) (a := (n2[0]'(by omega)).tmod 3) rfl rfl rfl qTy hLi (by repeat (first | exact Go.Sl.Sel.here | apply Go.Sl.Sel.there)) (by omega) (inQmod hq0 (by decide) (by decide)) ?_
    intro c37 hL37
    have hn3 : (n2.set 0 ((n2[0]'(by omega)).tmod 3)).length = n.length := by rw [List.length_set]; exact hn2
    generalize n2.set 0 ((n2[0]'(by omega)).tmod 3) = n3 at hL37 hn3 ⊢
    have h5 : k' = 2 → n.length = 5 := fun h => by rw [h] at q3; have h6 : (n.length : Int) = 5 := q3; omega
    refine Go.Sl.ow_nil ?_
    refine Go.Sl.xw_then ?_
    by_cases hk2 : k' = 2
    · have h55 := h5 hk2
      have hqx : ∀ j (h : j < n3.length), inQ n3[j] := fun j h => hL37.ok _ (List.getElem_mem h)
      have hq1 := hqx 1 (by omega)
      have hq3 := hqx 3 (by omega)
      have hq4 := hqx 4 (by omega)
      have hna : na = some ⟨bOf na, oOf na, none⟩ := qPtr (hL37.vw (B := B) (w0 := w0) (G := [c37]) (by repeat (first | exact Go.Sl.Sub.here | exact Go.Sl.Sub.nil | assumption | refine Go.Sl.Sub.there ?_))) (by omega)
      refine Go.Sl.cw_cut2 (ι := (Unit)) [(1, _), (2, _), (4, _)] ⟨rfl, rfl, rfl, trivial⟩ ((fun _ => [(40, .bool true)])) ((fun _ => True)) ((fun _ => [(b2, .cells [Value.int .u8 k', .int .u64 t', .slice na n.length nc, .slice da d.length dc].toArray 62 (0, 0))] :: c37 :: cd :: [(b4, .cells [Value.int .u8 0, .int .u64 0, .slice none 0 0, .slice none 0 0].toArray 62 (0, 0))] :: G)) ?_ ?_
      · refine Go.Sl.cw_region ?_
        refine Go.Sl.ow_val rfl rfl (Go.Sl.v_fieldAddr0 Ty.fd62_0 rfl) ?_
        refine Go.Sl.ow_val rfl rfl (Go.Sl.v_load rfl (Go.Sl.Var.at1 Ty.sc59 .here (Go.Sl.GetN.lit rfl))) ?_
        refine Go.Sl.ow_val rfl rfl (Go.Sl.v_eql rfl rfl) ?_
        refine Go.Sl.ow_nil ?_
        rw [decide_eq_true hk2]
        exact xw_joint () trivial (by first | exact Go.Sl.Cov.refl _ | (intro p; simp only [List.flatten_cons, List.flatten_nil, List.flatten_append, List.append_nil, List.nil_append, Go.Sl.cnt_append, Go.Sl.cnt_cons, Go.Sl.cnt_nil, List.set_cons_zero, List.set_cons_succ, List.length_nil, List.length_cons, Nat.zero_add, List.append]; omega)) (by repeat (first | exact True.intro | refine And.intro rfl ?_))
      rintro _ _
      have hV37 : Vw enQ (St B w0 ([(b2, .cells [Value.int .u8 k', .int .u64 t', .slice na n.length nc, .slice da d.length dc].toArray 62 (0, 0))] :: c37 :: cd :: [(b4, .cells [Value.int .u8 0, .int .u64 0, .slice none 0 0, .slice none 0 0].toArray 62 (0, 0))] :: G)) (.slice na n.length nc) n3 := hL37.vw (by repeat (first | exact Go.Sl.Sub.here | exact Go.Sl.Sub.nil | assumption | refine Go.Sl.Sub.there ?_))
      refine Go.Sl.cw_true rfl ?_
      refine Go.Sl.cw_any Ty.mixed ?_
      have hnp : ∀ {Q : Exit → Act → World → Prop} c (a : Act) (w : World), ¬ NP Q (Exit.panic c) a w := fun c a w hq => hq
      refine aw_held (St B w0 [[(b2, .cells [Value.int .u8 k', .int .u64 t', .slice na n.length nc, .slice da d.length dc].toArray 62 (0, 0))]]) ?_
      have hSt : ∀ c w, St B w0 ([(b2, .cells [Value.int .u8 k', .int .u64 t', .slice na n.length nc, .slice da d.length dc].toArray 62 (0, 0))] :: c :: cd :: [(b4, .cells [Value.int .u8 0, .int .u64 0, .slice none 0 0, .slice none 0 0].toArray 62 (0, 0))] :: G) w → St B w0 [[(b2, .cells [Value.int .u8 k', .int .u64 t', .slice na n.length nc, .slice da d.length dc].toArray 62 (0, 0))]] w := fun c w hw => hw.cov (by first | exact Go.Sl.Cov.refl _ | (intro p; simp only [List.flatten_cons, List.flatten_nil, List.flatten_append, List.append_nil, List.nil_append, Go.Sl.cnt_append, Go.Sl.cnt_cons, Go.Sl.cnt_nil, List.set_cons_zero, List.set_cons_succ, List.length_nil, List.length_cons, Nat.zero_add, List.append]; omega))
      --<r16
      refine ah_take 0 rfl (by decide +kernel) hnp rfl (runs_pure (Go.Sl.v_fieldAddr0 Ty.fd62_2 rfl) rfl) (hSt _) ?_
      refine ah_take 1 rfl (by decide +kernel) hnp rfl (runs_load rfl (Go.Sl.Var.at1 Ty.sc60 .here (Go.Sl.GetN.lit rfl))) (hSt _) ?_
      refine ah_take 2 rfl (by decide +kernel) hnp rfl (runs_pure (Go.Sl.v_fieldAddr0 Ty.fd62_2 rfl) rfl) (hSt _) ?_
      refine ah_take 3 rfl (by decide +kernel) hnp rfl (runs_load rfl (Go.Sl.Var.at1 Ty.sc60 .here (Go.Sl.GetN.lit rfl))) (hSt _) ?_
      refine ah_take 4 rfl (by decide +kernel) hnp rfl (runs_pure (Go.Sl.v_fieldAddr0 Ty.fd62_2 rfl) rfl) (hSt _) ?_
      refine ah_take 5 rfl (by decide +kernel) hnp rfl (runs_load rfl (Go.Sl.Var.at1 Ty.sc60 .here (Go.Sl.GetN.lit rfl))) (hSt _) ?_
      refine ah_take 6 rfl (by decide +kernel) hnp rfl (runs_pure (Go.Sl.v_fieldAddr0 Ty.fd62_2 rfl) rfl) (hSt _) ?_
      refine ah_take 7 rfl (by decide +kernel) hnp rfl (runs_load rfl (Go.Sl.Var.at1 Ty.sc60 .here (Go.Sl.GetN.lit rfl))) (hSt _) ?_
      refine ah_take 8 rfl (by decide +kernel) hnp rfl (runs_pure (Go.Sl.v_indexAddr (i := 1) Try.underlying60 Ty.el60 rfl hna rfl rfl (by omega)) rfl) (hSt _) ?_
      refine ah_take 10 rfl (by decide +kernel) hnp rfl (runs_pure (Go.Sl.v_move rfl) rfl) (hSt _) ?_
      refine ah_take 11 rfl (by decide +kernel) hnp rfl (runs_pure (Go.Sl.v_quo rfl rfl (by decide) rfl) rfl) (hSt _) ?_
      refine ah_take 12 rfl (by decide +kernel) hnp rfl (runs_convert Try.underlying5 Try.underlying22 rfl rfl) (hSt _) ?_
      refine ah_take 14 rfl (by decide +kernel) hnp rfl (runs_pure (Go.Sl.v_fieldAddr0 Ty.fd62_2 rfl) rfl) (hSt _) ?_
      refine ah_take 15 rfl (by decide +kernel) hnp rfl (runs_load rfl (Go.Sl.Var.at1 Ty.sc60 .here (Go.Sl.GetN.lit rfl))) (hSt _) ?_
      refine ah_take 16 rfl (by decide +kernel) hnp rfl (runs_pure (Go.Sl.v_indexAddr (i := 3) Try.underlying60 Ty.el60 rfl hna rfl rfl (by omega)) rfl) (hSt _) ?_
      refine ah_take 19 rfl (by decide +kernel) hnp rfl (runs_pure (Go.Sl.v_fieldAddr0 Ty.fd62_2 rfl) rfl) (hSt _) ?_
      refine ah_take 20 rfl (by decide +kernel) hnp rfl (runs_load rfl (Go.Sl.Var.at1 Ty.sc60 .here (Go.Sl.GetN.lit rfl))) (hSt _) ?_
      refine ah_take 21 rfl (by decide +kernel) hnp rfl (runs_pure (Go.Sl.v_indexAddr (i := 4) Try.underlying60 Ty.el60 rfl hna rfl rfl (by omega)) rfl) (hSt _) ?_
      refine ah_all [9, 17, 22] (by decide +kernel) (by simp) fun j hj => ?_
      simp only [List.mem_cons, List.not_mem_nil, or_false] at hj
      rcases hj with rfl | rfl | rfl
      · refine ⟨_, rfl, ?_⟩
        refine Go.Sl.ow_val rfl rfl (Go.Sl.v_load rfl (Go.Sl.Vw.var qTy hV37 (by omega : 1 < n3.length))) ?_
        refine ow_held (hSt _) ?_
        refine ah_take 13 rfl (by decide +kernel) hnp rfl (runs_pure (Go.Sl.v_add rfl rfl rfl) rfl) (hSt _) ?_
        refine ah_all [17, 22] (by decide +kernel) (by simp) fun j hj => ?_
        simp only [List.mem_cons, List.not_mem_nil, or_false] at hj
        rcases hj with rfl | rfl
        · refine ⟨_, rfl, ?_⟩
          refine Go.Sl.ow_val rfl rfl (Go.Sl.v_load rfl (Go.Sl.Vw.var qTy hV37 (by omega : 3 < n3.length))) ?_
          refine ow_held (hSt _) ?_
          refine ah_take 18 rfl (by decide +kernel) hnp rfl (runs_pure (Go.Sl.v_rem rfl rfl (by decide)) rfl) (hSt _) ?_
          refine ah_all [22] (by decide +kernel) (by simp) fun j hj => ?_
          simp only [List.mem_cons, List.not_mem_nil, or_false] at hj
          subst hj
          refine ⟨_, rfl, ?_⟩
          refine Go.Sl.ow_val rfl rfl (Go.Sl.v_load rfl (Go.Sl.Vw.var qTy hV37 (by omega : 4 < n3.length))) ?_
          refine ow_held (hSt _) ?_
          refine ah_take 23 rfl (by decide +kernel) hnp rfl (runs_pure (Go.Sl.v_rem rfl rfl (by decide)) rfl) (hSt _) ?_
          refine ah_take 24 rfl (by decide +kernel) hnp rfl (runs_pure (Go.Sl.v_indexAddr (i := 1) Try.underlying60 Ty.el60 rfl hna rfl rfl (by omega)) rfl) (hSt _) ?_
          refine ah_all [25] (by decide +kernel) (by simp) fun j hj => ?_
          obtain rfl : j = 25 := by simpa using hj
          refine ⟨_, rfl, ?_⟩
          refine ow_storeL (i := 1) (a := (IntKind.wrap .u64 (n3[1] + IntKind.wrap .u64 (IntKind.wrap .u8 (k.tdiv 19))))) rfl rfl rfl qTy hL37 (by repeat (first | exact Go.Sl.Sel.here | apply Go.Sl.Sel.there)) (by omega) (inQwrap _) ?_
          intro cA hcA
          refine ow_held (hSt _) ?_
          refine ah_take 26 rfl (by decide +kernel) hnp rfl (runs_pure (Go.Sl.v_indexAddr (i := 3) Try.underlying60 Ty.el60 rfl hna rfl rfl (by omega)) rfl) (hSt _) ?_
          refine ah_all [27] (by decide +kernel) (by simp) fun j hj => ?_
          obtain rfl : j = 27 := by simpa using hj
          refine ⟨_, rfl, ?_⟩
          refine ow_storeL (i := 3) (a := (n3[3].tmod 2)) rfl rfl rfl qTy hcA (by repeat (first | exact Go.Sl.Sel.here | apply Go.Sl.Sel.there)) (by simp only [List.length_set]; omega) (inQmod hq3 (by decide) (by decide)) ?_
          intro cB hcB
          refine ow_held (hSt _) ?_
          refine ah_take 28 rfl (by decide +kernel) hnp rfl (runs_pure (Go.Sl.v_indexAddr (i := 4) Try.underlying60 Ty.el60 rfl hna rfl rfl (by omega)) rfl) (hSt _) ?_
          refine ah_all [29] (by decide +kernel) (by simp) fun j hj => ?_
          obtain rfl : j = 29 := by simpa using hj
          refine ⟨_, rfl, ?_⟩
          refine ow_storeL (i := 4) (a := (n3[4].tmod 2)) rfl rfl rfl qTy hcB (by repeat (first | exact Go.Sl.Sel.here | apply Go.Sl.Sel.there)) (by simp only [List.length_set]; omega) (inQmod hq4 (by decide) (by decide)) ?_
          intro cC hcC
          refine ow_held (hSt _) ?_
          refine ah_end (by decide +kernel) ?_
          refine Go.Sl.xw_np ?_
          refine Go.Sl.xw_block ?_
          refine Go.Sl.xw_then ?_
          refine Go.Sl.cw_seq ?_
          refine Go.Sl.cw_region ?_
          refine Go.Sl.ow_val rfl rfl (Go.Sl.v_load rfl (Go.Sl.Var.atN Ty.ag62 .here Go.Sl.GetN.all (by first | rfl | assumption))) ?_
          refine Go.Sl.ow_storeN rfl rfl rfl Ty.ag62 (by first | rfl | assumption) (by first | assumption | simp) (.there (.there (.there .here))) (Go.Sl.SetN.all (by first | rfl | assumption | simp_all)) ?_
          refine Go.Sl.ow_nil ?_
          refine Go.Sl.xw_then ?_
          refine Go.Sl.cw_ret ?_
          refine Go.Sl.ret1 rfl (Go.Sl.res_cell rfl (Go.Sl.Var.atN Ty.ag62 (.there (.there (.there .here))) Go.Sl.GetN.all (by first | rfl | assumption))) ?_
          have hn9 : (((n3.set 1 (IntKind.wrap .u64 (n3[1] + IntKind.wrap .u64 (IntKind.wrap .u8 (k.tdiv 19))))).set 3 (n3[3].tmod 2)).set 4 (n3[4].tmod 2)).length = n.length := by simp only [List.length_set]; exact hn3
          exact ⟨⟨⟨k', t', (((n3.set 1 (IntKind.wrap .u64 (n3[1] + IntKind.wrap .u64 (IntKind.wrap .u8 (k.tdiv 19))))).set 3 (n3[3].tmod 2)).set 4 (n3[4].tmod 2)), d⟩, ⟨na, nc, da, dc⟩, cC, cd⟩, by dsimp only; rw [hn9], fin _ cC hn9 hcC, (by first | exact Go.Sl.Cov.refl _ | (intro p; simp only [List.flatten_cons, List.flatten_nil, List.flatten_append, List.append_nil, List.nil_append, Go.Sl.cnt_append, Go.Sl.cnt_cons, Go.Sl.cnt_nil, List.set_cons_zero, List.set_cons_succ, List.length_nil, List.length_cons, Nat.zero_add, List.append]; omega))⟩
        · refine ⟨_, rfl, ?_⟩
          refine Go.Sl.ow_val rfl rfl (Go.Sl.v_load rfl (Go.Sl.Vw.var qTy hV37 (by omega : 4 < n3.length))) ?_
          refine ow_held (hSt _) ?_
          refine ah_take 23 rfl (by decide +kernel) hnp rfl (runs_pure (Go.Sl.v_rem rfl rfl (by decide)) rfl) (hSt _) ?_
          refine ah_all [17] (by decide +kernel) (by simp) fun j hj => ?_
          simp only [List.mem_cons, List.not_mem_nil, or_false] at hj
          subst hj
          refine ⟨_, rfl, ?_⟩
          refine Go.Sl.ow_val rfl rfl (Go.Sl.v_load rfl (Go.Sl.Vw.var qTy hV37 (by omega : 3 < n3.length))) ?_
          refine ow_held (hSt _) ?_
          refine ah_take 18 rfl (by decide +kernel) hnp rfl (runs_pure (Go.Sl.v_rem rfl rfl (by decide)) rfl) (hSt _) ?_
          refine ah_take 24 rfl (by decide +kernel) hnp rfl (runs_pure (Go.Sl.v_indexAddr (i := 1) Try.underlying60 Ty.el60 rfl hna rfl rfl (by omega)) rfl) (hSt _) ?_
          refine ah_all [25] (by decide +kernel) (by simp) fun j hj => ?_
          obtain rfl : j = 25 := by simpa using hj
          refine ⟨_, rfl, ?_⟩
          refine ow_storeL (i := 1) (a := (IntKind.wrap .u64 (n3[1] + IntKind.wrap .u64 (IntKind.wrap .u8 (k.tdiv 19))))) rfl rfl rfl qTy hL37 (by repeat (first | exact Go.Sl.Sel.here | apply Go.Sl.Sel.there)) (by omega) (inQwrap _) ?_
          intro cA hcA
          refine ow_held (hSt _) ?_
          refine ah_take 26 rfl (by decide +kernel) hnp rfl (runs_pure (Go.Sl.v_indexAddr (i := 3) Try.underlying60 Ty.el60 rfl hna rfl rfl (by omega)) rfl) (hSt _) ?_
          refine ah_all [27] (by decide +kernel) (by simp) fun j hj => ?_
          obtain rfl : j = 27 := by simpa using hj
          refine ⟨_, rfl, ?_⟩
          refine ow_storeL (i := 3) (a := (n3[3].tmod 2)) rfl rfl rfl qTy hcA (by repeat (first | exact Go.Sl.Sel.here | apply Go.Sl.Sel.there)) (by simp only [List.length_set]; omega) (inQmod hq3 (by decide) (by decide)) ?_
          intro cB hcB
          refine ow_held (hSt _) ?_
          refine ah_take 28 rfl (by decide +kernel) hnp rfl (runs_pure (Go.Sl.v_indexAddr (i := 4) Try.underlying60 Ty.el60 rfl hna rfl rfl (by omega)) rfl) (hSt _) ?_
          refine ah_all [29] (by decide +kernel) (by simp) fun j hj => ?_
          obtain rfl : j = 29 := by simpa using hj
          refine ⟨_, rfl, ?_⟩
          refine ow_storeL (i := 4) (a := (n3[4].tmod 2)) rfl rfl rfl qTy hcB (by repeat (first | exact Go.Sl.Sel.here | apply Go.Sl.Sel.there)) (by simp only [List.length_set]; omega) (inQmod hq4 (by decide) (by decide)) ?_
          intro cC hcC
          refine ow_held (hSt _) ?_
          refine ah_end (by decide +kernel) ?_
          refine Go.Sl.xw_np ?_
          refine Go.Sl.xw_block ?_
          refine Go.Sl.xw_then ?_
          refine Go.Sl.cw_seq ?_
          refine Go.Sl.cw_region ?_
          refine Go.Sl.ow_val rfl rfl (Go.Sl.v_load rfl (Go.Sl.Var.atN Ty.ag62 .here Go.Sl.GetN.all (by first | rfl | assumption))) ?_
          refine Go.Sl.ow_storeN rfl rfl rfl Ty.ag62 (by first | rfl | assumption) (by first | assumption | simp) (.there (.there (.there .here))) (Go.Sl.SetN.all (by first | rfl | assumption | simp_all)) ?_
          refine Go.Sl.ow_nil ?_
          refine Go.Sl.xw_then ?_
          refine Go.Sl.cw_ret ?_
          refine Go.Sl.ret1 rfl (Go.Sl.res_cell rfl (Go.Sl.Var.atN Ty.ag62 (.there (.there (.there .here))) Go.Sl.GetN.all (by first | rfl | assumption))) ?_
          have hn9 : (((n3.set 1 (IntKind.wrap .u64 (n3[1] + IntKind.wrap .u64 (IntKind.wrap .u8 (k.tdiv 19))))).set 3 (n3[3].tmod 2)).set 4 (n3[4].tmod 2)).length = n.length := by simp only [List.length_set]; exact hn3
          exact ⟨⟨⟨k', t', (((n3.set 1 (IntKind.wrap .u64 (n3[1] + IntKind.wrap .u64 (IntKind.wrap .u8 (k.tdiv 19))))).set 3 (n3[3].tmod 2)).set 4 (n3[4].tmod 2)), d⟩, ⟨na, nc, da, dc⟩, cC, cd⟩, by dsimp only; rw [hn9], fin _ cC hn9 hcC, (by first | exact Go.Sl.Cov.refl _ | (intro p; simp only [List.flatten_cons, List.flatten_nil, List.flatten_append, List.append_nil, List.nil_append, Go.Sl.cnt_append, Go.Sl.cnt_cons, Go.Sl.cnt_nil, List.set_cons_zero, List.set_cons_succ, List.length_nil, List.length_cons, Nat.zero_add, List.append]; omega))⟩
      · refine ⟨_, rfl, ?_⟩
        refine Go.Sl.ow_val rfl rfl (Go.Sl.v_load rfl (Go.Sl.Vw.var qTy hV37 (by omega : 3 < n3.length))) ?_
        refine ow_held (hSt _) ?_
        refine ah_take 18 rfl (by decide +kernel) hnp rfl (runs_pure (Go.Sl.v_rem rfl rfl (by decide)) rfl) (hSt _) ?_
        refine ah_all [9, 22] (by decide +kernel) (by simp) fun j hj => ?_
        simp only [List.mem_cons, List.not_mem_nil, or_false] at hj
        rcases hj with rfl | rfl
        · refine ⟨_, rfl, ?_⟩
          refine Go.Sl.ow_val rfl rfl (Go.Sl.v_load rfl (Go.Sl.Vw.var qTy hV37 (by omega : 1 < n3.length))) ?_
          refine ow_held (hSt _) ?_
          refine ah_take 13 rfl (by decide +kernel) hnp rfl (runs_pure (Go.Sl.v_add rfl rfl rfl) rfl) (hSt _) ?_
          refine ah_all [22] (by decide +kernel) (by simp) fun j hj => ?_
          simp only [List.mem_cons, List.not_mem_nil, or_false] at hj
          subst hj
          refine ⟨_, rfl, ?_⟩
          refine Go.Sl.ow_val rfl rfl (Go.Sl.v_load rfl (Go.Sl.Vw.var qTy hV37 (by omega : 4 < n3.length))) ?_
          refine ow_held (hSt _) ?_
          refine ah_take 23 rfl (by decide +kernel) hnp rfl (runs_pure (Go.Sl.v_rem rfl rfl (by decide)) rfl) (hSt _) ?_
          refine ah_take 24 rfl (by decide +kernel) hnp rfl (runs_pure (Go.Sl.v_indexAddr (i := 1) Try.underlying60 Ty.el60 rfl hna rfl rfl (by omega)) rfl) (hSt _) ?_
          refine ah_all [25] (by decide +kernel) (by simp) fun j hj => ?_
          obtain rfl : j = 25 := by simpa using hj
          refine ⟨_, rfl, ?_⟩
          refine ow_storeL (i := 1) (a := (IntKind.wrap .u64 (n3[1] + IntKind.wrap .u64 (IntKind.wrap .u8 (k.tdiv 19))))) rfl rfl rfl qTy hL37 (by repeat (first | exact Go.Sl.Sel.here | apply Go.Sl.Sel.there)) (by omega) (inQwrap _) ?_
          intro cA hcA
          refine ow_held (hSt _) ?_
          refine ah_take 26 rfl (by decide +kernel) hnp rfl (runs_pure (Go.Sl.v_indexAddr (i := 3) Try.underlying60 Ty.el60 rfl hna rfl rfl (by omega)) rfl) (hSt _) ?_
          refine ah_all [27] (by decide +kernel) (by simp) fun j hj => ?_
          obtain rfl : j = 27 := by simpa using hj
          refine ⟨_, rfl, ?_⟩
          refine ow_storeL (i := 3) (a := (n3[3].tmod 2)) rfl rfl rfl qTy hcA (by repeat (first | exact Go.Sl.Sel.here | apply Go.Sl.Sel.there)) (by simp only [List.length_set]; omega) (inQmod hq3 (by decide) (by decide)) ?_
          intro cB hcB
          refine ow_held (hSt _) ?_
          refine ah_take 28 rfl (by decide +kernel) hnp rfl (runs_pure (Go.Sl.v_indexAddr (i := 4) Try.underlying60 Ty.el60 rfl hna rfl rfl (by omega)) rfl) (hSt _) ?_
          refine ah_all [29] (by decide +kernel) (by simp) fun j hj => ?_
          obtain rfl : j = 29 := by simpa using hj
          refine ⟨_, rfl, ?_⟩
          refine ow_storeL (i := 4) (a := (n3[4].tmod 2)) rfl rfl rfl qTy hcB (by repeat (first | exact Go.Sl.Sel.here | apply Go.Sl.Sel.there)) (by simp only [List.length_set]; omega) (inQmod hq4 (by decide) (by decide)) ?_
          intro cC hcC
          refine ow_held (hSt _) ?_
          refine ah_end (by decide +kernel) ?_
          refine Go.Sl.xw_np ?_
          refine Go.Sl.xw_block ?_
          refine Go.Sl.xw_then ?_
          refine Go.Sl.cw_seq ?_
          refine Go.Sl.cw_region ?_
          refine Go.Sl.ow_val rfl rfl (Go.Sl.v_load rfl (Go.Sl.Var.atN Ty.ag62 .here Go.Sl.GetN.all (by first | rfl | assumption))) ?_
          refine Go.Sl.ow_storeN rfl rfl rfl Ty.ag62 (by first | rfl | assumption) (by first | assumption | simp) (.there (.there (.there .here))) (Go.Sl.SetN.all (by first | rfl | assumption | simp_all)) ?_
          refine Go.Sl.ow_nil ?_
          refine Go.Sl.xw_then ?_
          refine Go.Sl.cw_ret ?_
          refine Go.Sl.ret1 rfl (Go.Sl.res_cell rfl (Go.Sl.Var.atN Ty.ag62 (.there (.there (.there .here))) Go.Sl.GetN.all (by first | rfl | assumption))) ?_
          have hn9 : (((n3.set 1 (IntKind.wrap .u64 (n3[1] + IntKind.wrap .u64 (IntKind.wrap .u8 (k.tdiv 19))))).set 3 (n3[3].tmod 2)).set 4 (n3[4].tmod 2)).length = n.length := by simp only [List.length_set]; exact hn3
          exact ⟨⟨⟨k', t', (((n3.set 1 (IntKind.wrap .u64 (n3[1] + IntKind.wrap .u64 (IntKind.wrap .u8 (k.tdiv 19))))).set 3 (n3[3].tmod 2)).set 4 (n3[4].tmod 2)), d⟩, ⟨na, nc, da, dc⟩, cC, cd⟩, by dsimp only; rw [hn9], fin _ cC hn9 hcC, (by first | exact Go.Sl.Cov.refl _ | (intro p; simp only [List.flatten_cons, List.flatten_nil, List.flatten_append, List.append_nil, List.nil_append, Go.Sl.cnt_append, Go.Sl.cnt_cons, Go.Sl.cnt_nil, List.set_cons_zero, List.set_cons_succ, List.length_nil, List.length_cons, Nat.zero_add, List.append]; omega))⟩
        · refine ⟨_, rfl, ?_⟩
          refine Go.Sl.ow_val rfl rfl (Go.Sl.v_load rfl (Go.Sl.Vw.var qTy hV37 (by omega : 4 < n3.length))) ?_
          refine ow_held (hSt _) ?_
          refine ah_take 23 rfl (by decide +kernel) hnp rfl (runs_pure (Go.Sl.v_rem rfl rfl (by decide)) rfl) (hSt _) ?_
          refine ah_all [9] (by decide +kernel) (by simp) fun j hj => ?_
          simp only [List.mem_cons, List.not_mem_nil, or_false] at hj
          subst hj
          refine ⟨_, rfl, ?_⟩
          refine Go.Sl.ow_val rfl rfl (Go.Sl.v_load rfl (Go.Sl.Vw.var qTy hV37 (by omega : 1 < n3.length))) ?_
          refine ow_held (hSt _) ?_
          refine ah_take 13 rfl (by decide +kernel) hnp rfl (runs_pure (Go.Sl.v_add rfl rfl rfl) rfl) (hSt _) ?_
          refine ah_take 24 rfl (by decide +kernel) hnp rfl (runs_pure (Go.Sl.v_indexAddr (i := 1) Try.underlying60 Ty.el60 rfl hna rfl rfl (by omega)) rfl) (hSt _) ?_
          refine ah_all [25] (by decide +kernel) (by simp) fun j hj => ?_
          obtain rfl : j = 25 := by simpa using hj
          refine ⟨_, rfl, ?_⟩
          refine ow_storeL (i := 1) (a := (IntKind.wrap .u64 (n3[1] + IntKind.wrap .u64 (IntKind.wrap .u8 (k.tdiv 19))))) rfl rfl rfl qTy hL37 (by repeat (first | exact Go.Sl.Sel.here | apply Go.Sl.Sel.there)) (by omega) (inQwrap _) ?_
          intro cA hcA
          refine ow_held (hSt _) ?_
          refine ah_take 26 rfl (by decide +kernel) hnp rfl (runs_pure (Go.Sl.v_indexAddr (i := 3) Try.underlying60 Ty.el60 rfl hna rfl rfl (by omega)) rfl) (hSt _) ?_
          refine ah_all [27] (by decide +kernel) (by simp) fun j hj => ?_
          obtain rfl : j = 27 := by simpa using hj
          refine ⟨_, rfl, ?_⟩
          refine ow_storeL (i := 3) (a := (n3[3].tmod 2)) rfl rfl rfl qTy hcA (by repeat (first | exact Go.Sl.Sel.here | apply Go.Sl.Sel.there)) (by simp only [List.length_set]; omega) (inQmod hq3 (by decide) (by decide)) ?_
          intro cB hcB
          refine ow_held (hSt _) ?_
          refine ah_take 28 rfl (by decide +kernel) hnp rfl (runs_pure (Go.Sl.v_indexAddr (i := 4) Try.underlying60 Ty.el60 rfl hna rfl rfl (by omega)) rfl) (hSt _) ?_
          refine ah_all [29] (by decide +kernel) (by simp) fun j hj => ?_
          obtain rfl : j = 29 := by simpa using hj
          refine ⟨_, rfl, ?_⟩
          refine ow_storeL (i := 4) (a := (n3[4].tmod 2)) rfl rfl rfl qTy hcB (by repeat (first | exact Go.Sl.Sel.here | apply Go.Sl.Sel.there)) (by simp only [List.length_set]; omega) (inQmod hq4 (by decide) (by decide)) ?_
          intro cC hcC
          refine ow_held (hSt _) ?_
          refine ah_end (by decide +kernel) ?_
          refine Go.Sl.xw_np ?_
          refine Go.Sl.xw_block ?_
          refine Go.Sl.xw_then ?_
          refine Go.Sl.cw_seq ?_
          refine Go.Sl.cw_region ?_
          refine Go.Sl.ow_val rfl rfl (Go.Sl.v_load rfl (Go.Sl.Var.atN Ty.ag62 .here Go.Sl.GetN.all (by first | rfl | assumption))) ?_
          refine Go.Sl.ow_storeN rfl rfl rfl Ty.ag62 (by first | rfl | assumption) (by first | assumption | simp) (.there (.there (.there .here))) (Go.Sl.SetN.all (by first | rfl | assumption | simp_all)) ?_
          refine Go.Sl.ow_nil ?_
          refine Go.Sl.xw_then ?_
          refine Go.Sl.cw_ret ?_
          refine Go.Sl.ret1 rfl (Go.Sl.res_cell rfl (Go.Sl.Var.atN Ty.ag62 (.there (.there (.there .here))) Go.Sl.GetN.all (by first | rfl | assumption))) ?_
          have hn9 : (((n3.set 1 (IntKind.wrap .u64 (n3[1] + IntKind.wrap .u64 (IntKind.wrap .u8 (k.tdiv 19))))).set 3 (n3[3].tmod 2)).set 4 (n3[4].tmod 2)).length = n.length := by simp only [List.length_set]; exact hn3
          exact ⟨⟨⟨k', t', (((n3.set 1 (IntKind.wrap .u64 (n3[1] + IntKind.wrap .u64 (IntKind.wrap .u8 (k.tdiv 19))))).set 3 (n3[3].tmod 2)).set 4 (n3[4].tmod 2)), d⟩, ⟨na, nc, da, dc⟩, cC, cd⟩, by dsimp only; rw [hn9], fin _ cC hn9 hcC, (by first | exact Go.Sl.Cov.refl _ | (intro p; simp only [List.flatten_cons, List.flatten_nil, List.flatten_append, List.append_nil, List.nil_append, Go.Sl.cnt_append, Go.Sl.cnt_cons, Go.Sl.cnt_nil, List.set_cons_zero, List.set_cons_succ, List.length_nil, List.length_cons, Nat.zero_add, List.append]; omega))⟩
      · refine ⟨_, rfl, ?_⟩
        refine Go.Sl.ow_val rfl rfl (Go.Sl.v_load rfl (Go.Sl.Vw.var qTy hV37 (by omega : 4 < n3.length))) ?_
        refine ow_held (hSt _) ?_
        refine ah_take 23 rfl (by decide +kernel) hnp rfl (runs_pure (Go.Sl.v_rem rfl rfl (by decide)) rfl) (hSt _) ?_
        refine ah_all [9, 17] (by decide +kernel) (by simp) fun j hj => ?_
        simp only [List.mem_cons, List.not_mem_nil, or_false] at hj
        rcases hj with rfl | rfl
        · refine ⟨_, rfl, ?_⟩
          refine Go.Sl.ow_val rfl rfl (Go.Sl.v_load rfl (Go.Sl.Vw.var qTy hV37 (by omega : 1 < n3.length))) ?_
          refine ow_held (hSt _) ?_
          refine ah_take 13 rfl (by decide +kernel) hnp rfl (runs_pure (Go.Sl.v_add rfl rfl rfl) rfl) (hSt _) ?_
          refine ah_all [17] (by decide +kernel) (by simp) fun j hj => ?_
          simp only [List.mem_cons, List.not_mem_nil, or_false] at hj
          subst hj
          refine ⟨_, rfl, ?_⟩
          refine Go.Sl.ow_val rfl rfl (Go.Sl.v_load rfl (Go.Sl.Vw.var qTy hV37 (by omega : 3 < n3.length))) ?_
          refine ow_held (hSt _) ?_
          refine ah_take 18 rfl (by decide +kernel) hnp rfl (runs_pure (Go.Sl.v_rem rfl rfl (by decide)) rfl) (hSt _) ?_
          refine ah_take 24 rfl (by decide +kernel) hnp rfl (runs_pure (Go.Sl.v_indexAddr (i := 1) Try.underlying60 Ty.el60 rfl hna rfl rfl (by omega)) rfl) (hSt _) ?_
          refine ah_all [25] (by decide +kernel) (by simp) fun j hj => ?_
          obtain rfl : j = 25 := by simpa using hj
          refine ⟨_, rfl, ?_⟩
          refine ow_storeL (i := 1) (a := (IntKind.wrap .u64 (n3[1] + IntKind.wrap .u64 (IntKind.wrap .u8 (k.tdiv 19))))) rfl rfl rfl qTy hL37 (by repeat (first | exact Go.Sl.Sel.here | apply Go.Sl.Sel.there)) (by omega) (inQwrap _) ?_
          intro cA hcA
          refine ow_held (hSt _) ?_
          refine ah_take 26 rfl (by decide +kernel) hnp rfl (runs_pure (Go.Sl.v_indexAddr (i := 3) Try.underlying60 Ty.el60 rfl hna rfl rfl (by omega)) rfl) (hSt _) ?_
          refine ah_all [27] (by decide +kernel) (by simp) fun j hj => ?_
          obtain rfl : j = 27 := by simpa using hj
          refine ⟨_, rfl, ?_⟩
          refine ow_storeL (i := 3) (a := (n3[3].tmod 2)) rfl rfl rfl qTy hcA (by repeat (first | exact Go.Sl.Sel.here | apply Go.Sl.Sel.there)) (by simp only [List.length_set]; omega) (inQmod hq3 (by decide) (by decide)) ?_
          intro cB hcB
          refine ow_held (hSt _) ?_
          refine ah_take 28 rfl (by decide +kernel) hnp rfl (runs_pure (Go.Sl.v_indexAddr (i := 4) Try.underlying60 Ty.el60 rfl hna rfl rfl (by omega)) rfl) (hSt _) ?_
          refine ah_all [29] (by decide +kernel) (by simp) fun j hj => ?_
          obtain rfl : j = 29 := by simpa using hj
          refine ⟨_, rfl, ?_⟩
          refine ow_storeL (i := 4) (a := (n3[4].tmod 2)) rfl rfl rfl qTy hcB (by repeat (first | exact Go.Sl.Sel.here | apply Go.Sl.Sel.there)) (by simp only [List.length_set]; omega) (inQmod hq4 (by decide) (by decide)) ?_
          intro cC hcC
          refine ow_held (hSt _) ?_
          refine ah_end (by decide +kernel) ?_
          refine Go.Sl.xw_np ?_
          refine Go.Sl.xw_block ?_
          refine Go.Sl.xw_then ?_
          refine Go.Sl.cw_seq ?_
          refine Go.Sl.cw_region ?_
          refine Go.Sl.ow_val rfl rfl (Go.Sl.v_load rfl (Go.Sl.Var.atN Ty.ag62 .here Go.Sl.GetN.all (by first | rfl | assumption))) ?_
          refine Go.Sl.ow_storeN rfl rfl rfl Ty.ag62 (by first | rfl | assumption) (by first | assumption | simp) (.there (.there (.there .here))) (Go.Sl.SetN.all (by first | rfl | assumption | simp_all)) ?_
          refine Go.Sl.ow_nil ?_
          refine Go.Sl.xw_then ?_
          refine Go.Sl.cw_ret ?_
          refine Go.Sl.ret1 rfl (Go.Sl.res_cell rfl (Go.Sl.Var.atN Ty.ag62 (.there (.there (.there .here))) Go.Sl.GetN.all (by first | rfl | assumption))) ?_
          have hn9 : (((n3.set 1 (IntKind.wrap .u64 (n3[1] + IntKind.wrap .u64 (IntKind.wrap .u8 (k.tdiv 19))))).set 3 (n3[3].tmod 2)).set 4 (n3[4].tmod 2)).length = n.length := by simp only [List.length_set]; exact hn3
          exact ⟨⟨⟨k', t', (((n3.set 1 (IntKind.wrap .u64 (n3[1] + IntKind.wrap .u64 (IntKind.wrap .u8 (k.tdiv 19))))).set 3 (n3[3].tmod 2)).set 4 (n3[4].tmod 2)), d⟩, ⟨na, nc, da, dc⟩, cC, cd⟩, by dsimp only; rw [hn9], fin _ cC hn9 hcC, (by first | exact Go.Sl.Cov.refl _ | (intro p; simp only [List.flatten_cons, List.flatten_nil, List.flatten_append, List.append_nil, List.nil_append, Go.Sl.cnt_append, Go.Sl.cnt_cons, Go.Sl.cnt_nil, List.set_cons_zero, List.set_cons_succ, List.length_nil, List.length_cons, Nat.zero_add, List.append]; omega))⟩
        · refine ⟨_, rfl, ?_⟩
          refine Go.Sl.ow_val rfl rfl (Go.Sl.v_load rfl (Go.Sl.Vw.var qTy hV37 (by omega : 3 < n3.length))) ?_
          refine ow_held (hSt _) ?_
          refine ah_take 18 rfl (by decide +kernel) hnp rfl (runs_pure (Go.Sl.v_rem rfl rfl (by decide)) rfl) (hSt _) ?_
          refine ah_all [9] (by decide +kernel) (by simp) fun j hj => ?_
          simp only [List.mem_cons, List.not_mem_nil, or_false] at hj
          subst hj
          refine ⟨_, rfl, ?_⟩
          refine Go.Sl.ow_val rfl rfl (Go.Sl.v_load rfl (Go.Sl.Vw.var qTy hV37 (by omega : 1 < n3.length))) ?_
          refine ow_held (hSt _) ?_
          refine ah_take 13 rfl (by decide +kernel) hnp rfl (runs_pure (Go.Sl.v_add rfl rfl rfl) rfl) (hSt _) ?_
          refine ah_take 24 rfl (by decide +kernel) hnp rfl (runs_pure (Go.Sl.v_indexAddr (i := 1) Try.underlying60 Ty.el60 rfl hna rfl rfl (by omega)) rfl) (hSt _) ?_
          refine ah_all [25] (by decide +kernel) (by simp) fun j hj => ?_
          obtain rfl : j = 25 := by simpa using hj
          refine ⟨_, rfl, ?_⟩
          refine ow_storeL (i := 1) (a := (IntKind.wrap .u64 (n3[1] + IntKind.wrap .u64 (IntKind.wrap .u8 (k.tdiv 19))))) rfl rfl rfl qTy hL37 (by repeat (first | exact Go.Sl.Sel.here | apply Go.Sl.Sel.there)) (by omega) (inQwrap _) ?_
          intro cA hcA
          refine ow_held (hSt _) ?_
          refine ah_take 26 rfl (by decide +kernel) hnp rfl (runs_pure (Go.Sl.v_indexAddr (i := 3) Try.underlying60 Ty.el60 rfl hna rfl rfl (by omega)) rfl) (hSt _) ?_
          refine ah_all [27] (by decide +kernel) (by simp) fun j hj => ?_
          obtain rfl : j = 27 := by simpa using hj
          refine ⟨_, rfl, ?_⟩
          refine ow_storeL (i := 3) (a := (n3[3].tmod 2)) rfl rfl rfl qTy hcA (by repeat (first | exact Go.Sl.Sel.here | apply Go.Sl.Sel.there)) (by simp only [List.length_set]; omega) (inQmod hq3 (by decide) (by decide)) ?_
          intro cB hcB
          refine ow_held (hSt _) ?_
          refine ah_take 28 rfl (by decide +kernel) hnp rfl (runs_pure (Go.Sl.v_indexAddr (i := 4) Try.underlying60 Ty.el60 rfl hna rfl rfl (by omega)) rfl) (hSt _) ?_
          refine ah_all [29] (by decide +kernel) (by simp) fun j hj => ?_
          obtain rfl : j = 29 := by simpa using hj
          refine ⟨_, rfl, ?_⟩
          refine ow_storeL (i := 4) (a := (n3[4].tmod 2)) rfl rfl rfl qTy hcB (by repeat (first | exact Go.Sl.Sel.here | apply Go.Sl.Sel.there)) (by simp only [List.length_set]; omega) (inQmod hq4 (by decide) (by decide)) ?_
          intro cC hcC
          refine ow_held (hSt _) ?_
          refine ah_end (by decide +kernel) ?_
          refine Go.Sl.xw_np ?_
          refine Go.Sl.xw_block ?_
          refine Go.Sl.xw_then ?_
          refine Go.Sl.cw_seq ?_
          refine Go.Sl.cw_region ?_
          refine Go.Sl.ow_val rfl rfl (Go.Sl.v_load rfl (Go.Sl.Var.atN Ty.ag62 .here Go.Sl.GetN.all (by first | rfl | assumption))) ?_
          refine Go.Sl.ow_storeN rfl rfl rfl Ty.ag62 (by first | rfl | assumption) (by first | assumption | simp) (.there (.there (.there .here))) (Go.Sl.SetN.all (by first | rfl | assumption | simp_all)) ?_
          refine Go.Sl.ow_nil ?_
          refine Go.Sl.xw_then ?_
          refine Go.Sl.cw_ret ?_
          refine Go.Sl.ret1 rfl (Go.Sl.res_cell rfl (Go.Sl.Var.atN Ty.ag62 (.there (.there (.there .here))) Go.Sl.GetN.all (by first | rfl | assumption))) ?_
          have hn9 : (((n3.set 1 (IntKind.wrap .u64 (n3[1] + IntKind.wrap .u64 (IntKind.wrap .u8 (k.tdiv 19))))).set 3 (n3[3].tmod 2)).set 4 (n3[4].tmod 2)).length = n.length := by simp only [List.length_set]; exact hn3
          exact ⟨⟨⟨k', t', (((n3.set 1 (IntKind.wrap .u64 (n3[1] + IntKind.wrap .u64 (IntKind.wrap .u8 (k.tdiv 19))))).set 3 (n3[3].tmod 2)).set 4 (n3[4].tmod 2)), d⟩, ⟨na, nc, da, dc⟩, cC, cd⟩, by dsimp only; rw [hn9], fin _ cC hn9 hcC, (by first | exact Go.Sl.Cov.refl _ | (intro p; simp only [List.flatten_cons, List.flatten_nil, List.flatten_append, List.append_nil, List.nil_append, Go.Sl.cnt_append, Go.Sl.cnt_cons, Go.Sl.cnt_nil, List.set_cons_zero, List.set_cons_succ, List.length_nil, List.length_cons, Nat.zero_add, List.append]; omega))⟩
      --r16>
    · refine Go.Sl.cw_seq ?_
      refine Go.Sl.cw_region ?_
      refine Go.Sl.ow_val rfl rfl (Go.Sl.v_fieldAddr0 Ty.fd62_0 rfl) ?_
      refine Go.Sl.ow_val rfl rfl (Go.Sl.v_load rfl (Go.Sl.Var.at1 Ty.sc59 .here (Go.Sl.GetN.lit rfl))) ?_
      refine Go.Sl.ow_val rfl rfl (Go.Sl.v_eql rfl rfl) ?_
      refine Go.Sl.ow_nil ?_
      refine Go.Sl.xw_then ?_
      refine Go.Sl.cw_dec rfl (fun hc40 => ?_) (fun hc40 => ?_)
      (exfalso; omega)
      refine Go.Sl.cw_skip ?_
      refine Go.Sl.xw_block ?_
      refine Go.Sl.xw_then ?_
      refine Go.Sl.cw_seq ?_
      refine Go.Sl.cw_region ?_
      refine Go.Sl.ow_val rfl rfl (Go.Sl.v_load rfl (Go.Sl.Var.atN Ty.ag62 .here Go.Sl.GetN.all (by first | rfl | assumption))) ?_
      refine Go.Sl.ow_storeN rfl rfl rfl Ty.ag62 (by first | rfl | assumption) (by first | assumption | simp) (.there (.there (.there .here))) (Go.Sl.SetN.all (by first | rfl | assumption | simp_all)) ?_
      refine Go.Sl.ow_nil ?_
      refine Go.Sl.xw_then ?_
      refine Go.Sl.cw_ret ?_
      refine Go.Sl.ret1 rfl (Go.Sl.res_cell rfl (Go.Sl.Var.atN Ty.ag62 (.there (.there (.there .here))) Go.Sl.GetN.all (by first | rfl | assumption))) ?_
      exact ⟨⟨⟨k', t', n3, d⟩, ⟨na, nc, da, dc⟩, c37, cd⟩, by dsimp only; rw [hn3], fin n3 c37 hn3 hL37, (by first | exact Go.Sl.Cov.refl _ | (intro p; simp only [List.flatten_cons, List.flatten_nil, List.flatten_append, List.append_nil, List.nil_append, Go.Sl.cnt_append, Go.Sl.cnt_cons, Go.Sl.cnt_nil, List.set_cons_zero, List.set_cons_succ, List.length_nil, List.length_cons, Nat.zero_add, List.append]; omega))⟩
end Go.Proofs.Ytckdhelnafjddaa
