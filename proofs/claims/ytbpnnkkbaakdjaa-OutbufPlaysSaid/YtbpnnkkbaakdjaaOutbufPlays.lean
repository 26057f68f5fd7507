/- OutbufPlays: whatever the input it returns true, and the input reads as it did. Conditions: none. -/
import Derived.Test.YtbpnnkkbaakdjaaOutRel
import Derived.Test.YtbpnnkkbaakdjaaForm
namespace Go.Proofs.Ytbpnnkkbaakdjaa.lawOutbufPlays
open Go Go.Sl Go.Proofs Go.RowKit Go.ChangeShapes Go.WideShapes Go.ChangeAt Go.Proofs.Ytbpnnkkbaakdjaa
set_option maxRecDepth 20000
set_option linter.unusedVariables false
set_option linter.unusedSimpArgs false

def Pl.cells (p : Pl) : List Value := [.int .u8 p.c.toNat, .int .u8 p.s]
def enPl : Enc Pl := ⟨Pl.cells, 2, fun p => .agg (Pl.cells p).toArray, fun p => 0 ≤ p.s ∧ p.s ≤ 255⟩
theorem plTy : EncTy Try.prog 103 enPl := EncTy.agg Ty.ag103 (by decide) (fun _ => rfl) (fun _ _ => rfl) (fun a _ u hu => by
  simp only [enPl, Pl.cells, List.mem_cons, List.not_mem_nil, or_false] at hu
  rcases hu with rfl | rfl <;> rfl)
theorem b_pl {c : UInt8} : Build Try.prog 103 #[(0, .int .u8 c.toNat), (1, .int .u8 0)] (.agg (Pl.cells ⟨c, 0⟩).toArray) := fun w => by kernel_rfl
structure ActO where
  kind : Int
  n : Int
  long : Int
  ao : Option Addr
  len : Nat
  cap : Nat
  data : List UInt8
  any : Int
  size : Int
  raw : Bool
instance : Inhabited ActO := ⟨⟨0, 0, 0, none, 0, 0, [], 0, 0, false⟩⟩
def ActO.cells (a : ActO) : List Value := [.int .u8 a.kind, .int .u8 a.n, .int .u8 a.long, .slice a.ao a.len a.cap, .int .u64 a.any, .int .i64 a.size, .bool a.raw]
structure ActO.Ok (B : Nat) (w0 : World) (a : ActO) : Prop where
  kind : 0 ≤ a.kind ∧ a.kind ≤ 255
  n : 0 ≤ a.n ∧ a.n ≤ 255
  long : 0 ≤ a.long ∧ a.long ≤ 255
  any : 0 ≤ a.any ∧ a.any ≤ 18446744073709551615
  size : -9223372036854775808 ≤ a.size ∧ a.size ≤ 9223372036854775807
  data : a.data.length = a.len
  cap : a.len ≤ a.cap
  top : a.len ≤ 9223372036854775807
  vw : ∀ G, Vw enB (St B w0 G) (.slice a.ao a.len a.cap) a.data
def enAct (B : Nat) (w0 : World) : Enc ActO := ⟨ActO.cells, 7, fun a => .agg a.cells.toArray, ActO.Ok B w0⟩
theorem acTy {B : Nat} {w0 : World} : EncTy Try.prog 101 (enAct B w0) := EncTy.agg Ty.ag101 (by show 0 < 7; decide) (fun _ => rfl) (fun _ _ => rfl) (fun a _ u hu => by
  simp only [enAct, ActO.cells, List.mem_cons, List.not_mem_nil, or_false] at hu
  rcases hu with rfl | rfl | rfl | rfl | rfl | rfl | rfl <;> rfl)
theorem tmodB {k n : Int} (h : 0 ≤ k) (hn : 0 < n) : 0 ≤ k.tmod n ∧ k.tmod n < n := by
  rw [Int.tmod_eq_emod_of_nonneg h]
  exact ⟨Int.emod_nonneg k (by omega), Int.emod_lt_of_pos k hn⟩
/-- the first place that is pending -/
def FirstP (M : List Pl) (f : Int) : Prop := (f = -1 ∧ ∀ (i : Nat) (h : i < M.length), (M[i]).s ≠ 0) ∨ ∃ k : Nat, f = k ∧ ∃ h : k < M.length, (M[k]).s = 0 ∧ ∀ (i : Nat) (h : i < M.length), i < k → (M[i]).s ≠ 0

structure Ix where
  i : Nat
  m : BufM
  c : Hp
  M : List Pl
  ao : Option Addr
  cap : Nat
  cM : Hp
  S : List PartV
  ao2 : Option Addr
  cap2 : Nat
  cS : Hp
  fin : Bool
  said : Bool
  came : Bool
structure Inv (b n : Nat) (x : Ix) : Prop where
  rel : Rel x.m x.M x.fin x.said x.came
  out : OutAt x.m b x.c
  ls : Ls enPl 103 (.slice x.ao x.M.length x.cap) x.cM x.M
  ls2 : Ls enP 64 (.slice x.ao2 x.S.length x.cap2) x.cS x.S
  len : x.M.length ≤ 200 * n
  slen : x.S.length ≤ n
  sok : ∀ p ∈ x.S, (0 ≤ p.at_ ∧ p.at_ ≤ 18446744073709551615) ∧ p.n ≤ 20

set_option maxHeartbeats 8000000 in
theorem law {B : Nat} {w0 : World} {acts : List ActO} {aoA : Option Addr} {capA : Nat} (hl : acts.length ≤ 9223372036854775807) (hA : ∀ G, Vw (enAct B w0) (St B w0 G) (.slice aoA acts.length capA) acts) :
    FnC Try.prog 13 #[.slice aoA acts.length capA] B w0 [] (R0 (.bool true)) := fun F => by
  refine fn_enter Try.func13 rfl (by kernel_rfl) Try.ntmps13 (by simp) ?_
  refine Go.Sl.cw_seq ?_
  refine Go.Sl.cw_region ?_
  refine Go.Sl.ow_val rfl rfl (Go.Sl.v_assign rfl) ?_
  refine Go.Sl.ow_nil ?_
  refine Go.Sl.xw_then ?_
  refine Go.Sl.cw_seq ?_
  refine Go.Sl.cw_seq ?_
  refine Go.Sl.cw_region ?_
  refine Go.Sl.ow_val rfl rfl (Go.Sl.v_call rfl rfl (outAwake_c)) ?_
  refine Go.Sl.ow_val rfl rfl (Go.Sl.v_not_true rfl) ?_
  refine Go.Sl.ow_nil ?_
  refine Go.Sl.xw_then ?_
  refine Go.Sl.cw_false rfl ?_
  refine Go.Sl.cw_skip ?_
  refine Go.Sl.xw_then ?_
  refine Go.Sl.cw_seq ?_
  refine Go.Sl.cw_region ?_
  (refine Go.Sl.ow_call rfl rfl rfl rfl (newOut_c) ?_; rintro _ _ ⟨x44, rfl, hq44, rfl⟩)
  refine Go.Sl.ow_val rfl rfl (Go.Sl.v_assign rfl) ?_
  refine Go.Sl.ow_nil ?_
  refine Go.Sl.xw_then ?_
  refine Go.Sl.cw_seq ?_
  refine Go.Sl.cw_region ?_
  refine Go.Sl.ow_val rfl rfl (Go.Sl.v_assign rfl) ?_
  refine Go.Sl.ow_nil ?_
  refine Go.Sl.xw_then ?_
  refine Go.Sl.cw_seq ?_
  refine Go.Sl.cw_region ?_
  refine Go.Sl.ow_val rfl rfl (Go.Sl.v_assign rfl) ?_
  refine Go.Sl.ow_nil ?_
  refine Go.Sl.xw_then ?_
  refine Go.Sl.cw_seq ?_
  refine Go.Sl.cw_region ?_
  refine Go.Sl.ow_val rfl rfl (Go.Sl.v_assign rfl) ?_
  refine Go.Sl.ow_val rfl rfl (Go.Sl.v_assign rfl) ?_
  refine Go.Sl.ow_val rfl rfl (Go.Sl.v_assign rfl) ?_
  refine Go.Sl.ow_nil ?_
  refine Go.Sl.xw_then ?_
  refine Go.Sl.cw_seq ?_
  refine Go.Sl.cw_seq ?_
  refine Go.Sl.cw_region ?_
  refine Go.Sl.ow_val rfl rfl (Go.Sl.v_move rfl) ?_
  refine Go.Sl.ow_val rfl rfl (Go.Sl.v_len rfl Try.underlying97 rfl) ?_
  refine Go.Sl.ow_val rfl rfl (Go.Sl.v_move rfl) ?_
  refine Go.Sl.ow_nil ?_
  refine Go.Sl.xw_then ?_
  refine Go.Sl.cw_block ?_
  refine Go.Sl.cw_loop2 (ι := (Ix)) [(0, _), (3, _), (45, _), (46, _)] ⟨rfl, rfl, rfl, rfl, trivial⟩ ((fun x => [(4, .slice x.ao x.M.length x.cap), (5, .slice x.ao2 x.S.length x.cap2), (6, .bool x.fin), (7, .bool x.said), (8, .bool x.came), (47, .int .i64 x.i)])) ((fun x => x.i ≤ acts.length ∧ x.i ≤ 60 ∧ Inv x44.1 x.i x)) ((fun x => acts.length - x.i)) ((fun x => x.c :: x.cM :: x.cS :: F)) ((⟨0, buf0, x44.2, [], none, 0, [], [], none, 0, [], false, false, false⟩ : Ix)) (by repeat (first | exact True.intro | refine And.intro rfl ?_)) (by first | exact Go.Sl.Cov.refl _ | (intro p; simp only [List.flatten_cons, List.flatten_nil, List.flatten_append, List.append_nil, List.nil_append, Go.Sl.cnt_append, Go.Sl.cnt_cons, Go.Sl.cnt_nil, List.set_cons_zero, List.set_cons_succ, List.length_nil, List.length_cons, Nat.zero_add, List.append]; omega)) ?_ ?_
  · exact ⟨Nat.zero_le _, Nat.zero_le _, rel0, hq44, Ls.nil, Ls.nil, Nat.zero_le _, Nat.zero_le _, fun p hp => by simp at hp⟩
  rintro ⟨i, m, c, M, ao, cap, cM, S, ao2, cap2, cS, fin, said, came⟩ ⟨hi, hi60, hR, hO, hL, hLS, hMl, hSl, hSo⟩
  dsimp only at hi hi60 hR hO hL hLS hMl hSl hSo ⊢
  have hw := hR.wf
  refine Go.Sl.cw_seq ?_
  refine Go.Sl.cw_region ?_
  refine Go.Sl.ow_val rfl rfl (Go.Sl.v_lss rfl rfl) ?_
  refine Go.Sl.ow_nil ?_
  refine Go.Sl.xw_then ?_
  refine Go.Sl.cw_seq ?_
  refine Go.Sl.cw_dec rfl (fun hc48 => ?_) (fun hc48 => ?_)
  refine Go.Sl.cw_skip ?_
  refine Go.Sl.xw_then ?_
  rotate_left
  refine Go.Sl.cw_exit ?_
  refine Go.Sl.xw_then_exit ?_
  refine Go.Sl.xw_round_exit ?_
  refine Go.Sl.xw_block_exit ?_
  refine Go.Sl.xw_then ?_
  refine Go.Sl.cw_seq ?_
  refine Go.Sl.cw_region ?_
  refine Go.Sl.ow_val rfl rfl (Go.Sl.v_assign rfl) ?_
  refine Go.Sl.ow_nil ?_
  refine Go.Sl.xw_then ?_
  refine Go.Sl.cw_ret ?_
  refine Go.Sl.ret1 rfl (Go.Sl.res_tmp rfl) ?_
  rotate_left
  rotate_left
  · skip
    exact done0 rfl (by first | exact Go.Sl.Cov.refl _ | (intro p; simp only [List.flatten_cons, List.flatten_nil, List.flatten_append, List.append_nil, List.nil_append, Go.Sl.cnt_append, Go.Sl.cnt_cons, Go.Sl.cnt_nil, List.set_cons_zero, List.set_cons_succ, List.length_nil, List.length_cons, Nat.zero_add, List.append]; omega))
  have hi2 : i < acts.length := by omega
  have hao := (hA []).ok _ (List.getElem_mem hi2)
  have ha1 := acTy.len _ hao
  have ha2 := acTy.one _ hao
  refine Go.Sl.cw_seq ?_
  refine Go.Sl.cw_block ?_
  refine Go.Sl.cw_seq ?_
  refine Go.Sl.cw_region ?_
  refine Go.Sl.ow_val rfl rfl (Go.Sl.v_move rfl) ?_
  refine Go.Sl.ow_val rfl rfl (Go.Sl.v_indexAddr_vw Try.underlying97 (acTy) rfl rfl (hA []) rfl (by omega)) ?_
  refine Go.Sl.ow_val rfl rfl (Go.Sl.v_load rfl (Go.Sl.Vw.var (acTy) (hA _) (by omega))) ?_
  (refine Go.Sl.ow_alloc rfl rfl Ty.ze101 ?_; intro b10)
  refine Go.Sl.ow_val rfl rfl (Go.Sl.v_assign rfl) ?_
  refine Go.Sl.ow_storeE rfl (acTy) rfl rfl .here (by first | rfl | assumption) (by assumption) ?_
  refine Go.Sl.ow_nil ?_
  refine Go.Sl.xw_then ?_
  have hao : (acts[i]).Ok B w0 := hao
  generalize acts[i] = a at *
  have hk1 := hao.kind
  have hk2 := hao.n
  have hk3 := hao.long
  have hk4 := hao.any
  have hk5 := hao.size
  refine Go.Sl.cw_seq ?_
  refine Go.Sl.cw_seq ?_
  refine Go.Sl.cw_region ?_
  refine Go.Sl.ow_val rfl rfl (Go.Sl.v_move rfl) ?_
  refine Go.Sl.ow_val rfl rfl (Go.Sl.v_geq rfl rfl) ?_
  refine Go.Sl.ow_nil ?_
  refine Go.Sl.xw_then ?_
  refine Go.Sl.cw_dec rfl (fun hc53 => ?_) (fun hc53 => ?_)
  refine Go.Sl.cw_exit ?_
  refine Go.Sl.xw_then_exit ?_
  refine Go.Sl.xw_block_other rfl ?_
  refine Go.Sl.xw_then_exit ?_
  refine Go.Sl.xw_round_exit ?_
  refine Go.Sl.xw_block_exit ?_
  refine Go.Sl.xw_then ?_
  refine Go.Sl.cw_seq ?_
  refine Go.Sl.cw_region ?_
  refine Go.Sl.ow_val rfl rfl (Go.Sl.v_assign rfl) ?_
  refine Go.Sl.ow_nil ?_
  refine Go.Sl.xw_then ?_
  refine Go.Sl.cw_ret ?_
  refine Go.Sl.ret1 rfl (Go.Sl.res_tmp rfl) ?_
  rotate_left
  refine Go.Sl.cw_skip ?_
  refine Go.Sl.xw_then ?_
  refine Go.Sl.cw_seq ?_
  refine Go.Sl.cw_seq ?_
  refine Go.Sl.cw_region ?_
  refine Go.Sl.ow_val rfl rfl (Go.Sl.v_fieldAddr0 Ty.fd101_3 rfl) ?_
  refine Go.Sl.ow_val rfl rfl (Go.Sl.v_load rfl (Go.Sl.Var.at1 Ty.sc57 .here (Go.Sl.GetN.lit rfl))) ?_
  refine Go.Sl.ow_val rfl rfl (Go.Sl.v_len rfl Try.underlying57 rfl) ?_
  refine Go.Sl.ow_val rfl rfl (Go.Sl.v_gtr rfl rfl) ?_
  refine Go.Sl.ow_nil ?_
  refine Go.Sl.xw_then ?_
  refine Go.Sl.cw_dec rfl (fun hc57 => ?_) (fun hc57 => ?_)
  refine Go.Sl.cw_seq ?_
  refine Go.Sl.cw_region ?_
  refine Go.Sl.ow_val rfl rfl (Go.Sl.v_assign rfl) ?_
  refine Go.Sl.ow_nil ?_
  refine Go.Sl.xw_then ?_
  refine Go.Sl.cw_ret ?_
  refine Go.Sl.xw_then_ret ?_
  refine Go.Sl.xw_block_ret ?_
  refine Go.Sl.xw_then_ret ?_
  refine Go.Sl.xw_round_ret ?_
  refine Go.Sl.xw_block_ret ?_
  refine Go.Sl.xw_then_ret ?_
  refine Go.Sl.ret1 rfl (Go.Sl.res_tmp rfl) ?_
  rotate_left
  refine Go.Sl.cw_skip ?_
  refine Go.Sl.xw_then ?_
  refine Go.Sl.cw_seq ?_
  refine Go.Sl.cw_region ?_
  refine Go.Sl.ow_val rfl rfl (Go.Sl.v_assign rfl) ?_
  refine Go.Sl.ow_nil ?_
  refine Go.Sl.xw_then ?_
  rotate_left
  · exact done0 rfl (by first | exact Go.Sl.Cov.refl _ | (intro p; simp only [List.flatten_cons, List.flatten_nil, List.flatten_append, List.append_nil, List.nil_append, Go.Sl.cnt_append, Go.Sl.cnt_cons, Go.Sl.cnt_nil, List.set_cons_zero, List.set_cons_succ, List.length_nil, List.length_cons, Nat.zero_add, List.append]; omega))
  · exact done0 rfl (by first | exact Go.Sl.Cov.refl _ | (intro p; simp only [List.flatten_cons, List.flatten_nil, List.flatten_append, List.append_nil, List.nil_append, Go.Sl.cnt_append, Go.Sl.cnt_cons, Go.Sl.cnt_nil, List.set_cons_zero, List.set_cons_succ, List.length_nil, List.length_cons, Nat.zero_add, List.append]; omega))
  refine Go.Sl.cw_cut2 (ι := (Int)) [(0, _), (3, _), (4, _), (5, _), (6, _), (7, _), (8, _), (9, _), (10, _), (45, _), (46, _), (47, _)] ⟨rfl, rfl, rfl, rfl, rfl, rfl, rfl, rfl, rfl, rfl, rfl, rfl, trivial⟩ ((fun f => [(11, .int .i64 f)])) ((fun f => FirstP M f)) ((fun _ => [(b10, .cells ((enAct B w0).f a).toArray 101 (0, 0))] :: c :: cM :: cS :: F)) ?_ ?_
  · refine Go.Sl.cw_seq ?_
    refine Go.Sl.cw_region ?_
    refine Go.Sl.ow_val rfl rfl (Go.Sl.v_move rfl) ?_
    refine Go.Sl.ow_val rfl rfl (Go.Sl.v_len rfl Try.underlying98 rfl) ?_
    refine Go.Sl.ow_val rfl rfl (Go.Sl.v_move rfl) ?_
    refine Go.Sl.ow_nil ?_
    refine Go.Sl.xw_then ?_
    refine Go.Sl.cw_block ?_
    refine Go.Sl.cw_loop2 (ι := (Nat)) [(0, _), (3, _), (4, _), (5, _), (6, _), (7, _), (8, _), (9, _), (10, _), (45, _), (46, _), (47, _), (58, _), (59, _)] ⟨rfl, rfl, rfl, rfl, rfl, rfl, rfl, rfl, rfl, rfl, rfl, rfl, rfl, rfl, trivial⟩ ((fun j => [(11, .int .i64 (-1)), (60, .int .i64 j)])) ((fun j => j ≤ M.length ∧ ∀ (k : Nat) (h : k < M.length), k < j → (M[k]).s ≠ 0)) ((fun j => M.length - j)) ((fun _ => [(b10, .cells ((enAct B w0).f a).toArray 101 (0, 0))] :: c :: cM :: cS :: F)) (0) (by repeat (first | exact True.intro | refine And.intro rfl ?_)) (by first | exact Go.Sl.Cov.refl _ | (intro p; simp only [List.flatten_cons, List.flatten_nil, List.flatten_append, List.append_nil, List.nil_append, Go.Sl.cnt_append, Go.Sl.cnt_cons, Go.Sl.cnt_nil, List.set_cons_zero, List.set_cons_succ, List.length_nil, List.length_cons, Nat.zero_add, List.append]; omega)) ?_ ?_
    · exact ⟨Nat.zero_le _, fun k _ h => absurd h (by omega)⟩
    rintro j ⟨hj, hno⟩
    refine Go.Sl.cw_seq ?_
    refine Go.Sl.cw_region ?_
    refine Go.Sl.ow_val rfl rfl (Go.Sl.v_lss rfl rfl) ?_
    refine Go.Sl.ow_nil ?_
    refine Go.Sl.xw_then ?_
    refine Go.Sl.cw_seq ?_
    refine Go.Sl.cw_dec rfl (fun hc61 => ?_) (fun hc61 => ?_)
    refine Go.Sl.cw_skip ?_
    refine Go.Sl.xw_then ?_
    rotate_left
    refine Go.Sl.cw_exit ?_
    refine Go.Sl.xw_then_exit ?_
    refine Go.Sl.xw_round_exit ?_
    refine Go.Sl.xw_block_exit ?_
    rotate_left
    · have hj2 : j < M.length := by omega
      have hokj := hL.ok _ (List.getElem_mem hj2)
      have hj3 := plTy.len _ hokj
      have hj4 := plTy.one _ hokj
      refine Go.Sl.cw_seq ?_
      refine Go.Sl.cw_block ?_
      refine Go.Sl.cw_seq ?_
      refine Go.Sl.cw_region ?_
      refine Go.Sl.ow_val rfl rfl (Go.Sl.v_move rfl) ?_
      refine Go.Sl.ow_val rfl rfl (Go.Sl.v_indexAddr_ls Try.underlying98 (plTy) rfl rfl (by assumption) rfl (by omega)) ?_
      refine Go.Sl.ow_val rfl rfl (Go.Sl.v_load rfl (Go.Sl.Vw.var (plTy) ((hL.vw (by repeat (first | exact Go.Sl.Sub.here | assumption | refine Go.Sl.Sub.there ?_)))) (by omega))) ?_
      (refine Go.Sl.ow_alloc rfl rfl Ty.ze103 ?_; intro b13)
      refine Go.Sl.ow_val rfl rfl (Go.Sl.v_assign rfl) ?_
      refine Go.Sl.ow_storeE rfl (plTy) rfl rfl .here (by first | rfl | assumption) (by assumption) ?_
      refine Go.Sl.ow_nil ?_
      refine Go.Sl.xw_then ?_
      refine Go.Sl.cw_seq ?_
      refine Go.Sl.cw_region ?_
      refine Go.Sl.ow_val rfl rfl (Go.Sl.v_fieldAddr0 Ty.fd103_1 rfl) ?_
      refine Go.Sl.ow_val rfl rfl (Go.Sl.v_load rfl (Go.Sl.Var.at1 Ty.sc5 .here (Go.Sl.GetN.lit rfl))) ?_
      refine Go.Sl.ow_val rfl rfl (Go.Sl.v_eql rfl rfl) ?_
      refine Go.Sl.ow_nil ?_
      refine Go.Sl.xw_then ?_
      refine Go.Sl.cw_dec rfl (fun hc67 => ?_) (fun hc67 => ?_)
      refine Go.Sl.cw_seq ?_
      refine Go.Sl.cw_region ?_
      refine Go.Sl.ow_val rfl rfl (Go.Sl.v_move rfl) ?_
      refine Go.Sl.ow_val rfl rfl (Go.Sl.v_assign rfl) ?_
      refine Go.Sl.ow_nil ?_
      refine Go.Sl.xw_then ?_
      refine Go.Sl.cw_exit ?_
      refine Go.Sl.xw_block_other rfl ?_
      refine Go.Sl.xw_then_exit ?_
      refine Go.Sl.xw_round_exit ?_
      refine Go.Sl.xw_block_exit ?_
      rotate_left
      refine Go.Sl.cw_skip ?_
      refine Go.Sl.xw_block ?_
      refine Go.Sl.xw_then ?_
      refine Go.Sl.cw_region ?_
      refine Go.Sl.ow_val rfl rfl (Go.Sl.v_add rfl rfl (Go.Sl.nw_i64 (by omega) (by omega))) ?_
      refine Go.Sl.ow_val rfl rfl (Go.Sl.v_move rfl) ?_
      refine Go.Sl.ow_nil ?_
      rotate_left
      · exact xw_joint (j : Int) (.inr ⟨j, rfl, hj2, hc67, hno⟩) (by first | exact Go.Sl.Cov.refl _ | (intro p; simp only [List.flatten_cons, List.flatten_nil, List.flatten_append, List.append_nil, List.nil_append, Go.Sl.cnt_append, Go.Sl.cnt_cons, Go.Sl.cnt_nil, List.set_cons_zero, List.set_cons_succ, List.length_nil, List.length_cons, Nat.zero_add, List.append]; omega)) (by repeat (first | exact True.intro | refine And.intro rfl ?_))
      · exact xw_round (j + 1) ⟨by omega, fun k h hk => by
          by_cases hkj : k = j
          · subst hkj; exact hc67
          · exact hno k h (by omega)⟩ (by omega) (by first | exact Go.Sl.Cov.refl _ | (intro p; simp only [List.flatten_cons, List.flatten_nil, List.flatten_append, List.append_nil, List.nil_append, Go.Sl.cnt_append, Go.Sl.cnt_cons, Go.Sl.cnt_nil, List.set_cons_zero, List.set_cons_succ, List.length_nil, List.length_cons, Nat.zero_add, List.append]; omega)) (by repeat (first | exact True.intro | refine And.intro rfl ?_))
    · exact xw_joint (-1 : Int) (.inl ⟨rfl, fun k h => hno k h (by omega)⟩) (by first | exact Go.Sl.Cov.refl _ | (intro p; simp only [List.flatten_cons, List.flatten_nil, List.flatten_append, List.append_nil, List.nil_append, Go.Sl.cnt_append, Go.Sl.cnt_cons, Go.Sl.cnt_nil, List.set_cons_zero, List.set_cons_succ, List.length_nil, List.length_cons, Nat.zero_add, List.append]; omega)) (by repeat (first | exact True.intro | refine And.intro rfl ?_))
  rintro f hf
  have hk10 := tmodB (k := a.kind) (n := 10) hao.kind.1 (by decide)
  refine Go.Sl.cw_cut2 (ι := (Ix)) [(0, _), (3, _), (45, _), (46, _), (47, _)] ⟨rfl, rfl, rfl, rfl, rfl, trivial⟩ ((fun x => [(4, .slice x.ao x.M.length x.cap), (5, .slice x.ao2 x.S.length x.cap2), (6, .bool x.fin), (7, .bool x.said), (8, .bool x.came)])) ((fun x => Inv x44.1 (i + 1) x)) ((fun x => x.c :: x.cM :: x.cS :: F)) ?_ ?_
  · refine Go.Sl.cw_seq ?_
    refine Go.Sl.cw_region ?_
    refine Go.Sl.ow_val rfl rfl (Go.Sl.v_fieldAddr0 Ty.fd101_0 rfl) ?_
    refine Go.Sl.ow_val rfl rfl (Go.Sl.v_load rfl (Go.Sl.Var.at1 Ty.sc5 .here (Go.Sl.GetN.lit rfl))) ?_
    refine Go.Sl.ow_val rfl rfl (Go.Sl.v_rem rfl rfl (by decide)) ?_
    refine Go.Sl.ow_val rfl rfl (Go.Sl.v_assign rfl) ?_
    refine Go.Sl.ow_nil ?_
    refine Go.Sl.xw_then ?_
    refine Go.Sl.cw_block ?_
    refine Go.Sl.cw_seq ?_
    refine Go.Sl.cw_region ?_
    refine Go.Sl.ow_val rfl rfl (Go.Sl.v_move rfl) ?_
    refine Go.Sl.ow_val rfl rfl (Go.Sl.v_lss rfl rfl) ?_
    refine Go.Sl.ow_val rfl rfl (Go.Sl.v_assign rfl) ?_
    refine Go.Sl.ow_nil ?_
    refine Go.Sl.xw_then ?_
    refine Go.Sl.cw_dec rfl (fun hc197 => ?_) (fun hc197 => ?_)
    rotate_left
    refine Go.Sl.cw_seq ?_
    refine Go.Sl.cw_region ?_
    refine Go.Sl.ow_val rfl rfl (Go.Sl.v_move rfl) ?_
    refine Go.Sl.ow_val rfl rfl (Go.Sl.v_eql rfl rfl) ?_
    refine Go.Sl.ow_val rfl rfl (Go.Sl.v_assign rfl) ?_
    refine Go.Sl.ow_nil ?_
    refine Go.Sl.xw_then ?_
    refine Go.Sl.cw_dec rfl (fun hc236 => ?_) (fun hc236 => ?_)
    rotate_left
    refine Go.Sl.cw_seq ?_
    refine Go.Sl.cw_region ?_
    refine Go.Sl.ow_val rfl rfl (Go.Sl.v_move rfl) ?_
    refine Go.Sl.ow_val rfl rfl (Go.Sl.v_lss rfl rfl) ?_
    refine Go.Sl.ow_val rfl rfl (Go.Sl.v_assign rfl) ?_
    refine Go.Sl.ow_nil ?_
    refine Go.Sl.xw_then ?_
    refine Go.Sl.cw_dec rfl (fun hc245 => ?_) (fun hc245 => ?_)
    rotate_left
    rotate_left
    ·
      have hdl := hao.data
      have hml := hR.len
      cases fin with
      | true =>
        have hwr : ∀ {G : List Hp} {R : Hp → List Hp}, Sel G c R → Go.Sl.Fn Try.prog 37 #[.pointer (some ⟨x44.1, 0, none⟩), .slice a.ao a.len a.cap] B w0 G fun u G' => ∃ c' : Hp, u = .tuple #[.int .i64 0, .int .i64 19] ∧ OutAt m x44.1 c' ∧ G' = R c' := fun hs => by
          have h := outWrite_c (B := B) (w0 := w0) hs hO hw (hao.vw _) (by omega)
          simp only [hR.fin_, if_true] at h
          exact h
        refine Go.Sl.cw_seq ?_
        refine Go.Sl.cw_region ?_
        refine Go.Sl.ow_val rfl rfl (Go.Sl.v_move rfl) ?_
        refine Go.Sl.ow_val rfl rfl (Go.Sl.v_fieldAddr0 Ty.fd101_3 rfl) ?_
        refine Go.Sl.ow_val rfl rfl (Go.Sl.v_load rfl (Go.Sl.Var.at1 Ty.sc57 .here (Go.Sl.GetN.lit rfl))) ?_
        (refine Go.Sl.ow_call rfl rfl rfl rfl (hwr (by repeat (first | exact Go.Sl.Sel.here | apply Go.Sl.Sel.there))) ?_; rintro _ _ ⟨x204, rfl, hq204, rfl⟩)
        refine Go.Sl.ow_val rfl rfl (Go.Sl.v_move rfl) ?_
        refine Go.Sl.ow_val rfl rfl (Go.Sl.v_extract rfl rfl) ?_
        refine Go.Sl.ow_val rfl rfl (Go.Sl.v_extract rfl rfl) ?_
        refine Go.Sl.ow_val rfl rfl (Go.Sl.v_assign rfl) ?_
        refine Go.Sl.ow_val rfl rfl (Go.Sl.v_assign rfl) ?_
        refine Go.Sl.ow_nil ?_
        refine Go.Sl.xw_then ?_
        refine Go.Sl.cw_seq ?_
        refine Go.Sl.cw_seq ?_
        refine Go.Sl.cw_region ?_
        refine Go.Sl.ow_val rfl rfl (Go.Sl.v_move rfl) ?_
        refine Go.Sl.ow_nil ?_
        refine Go.Sl.xw_then ?_
        refine Go.Sl.cw_true rfl ?_
        refine Go.Sl.cw_seq ?_
        refine Go.Sl.cw_seq ?_
        refine Go.Sl.cw_region ?_
        refine Go.Sl.ow_val rfl rfl (Go.Sl.v_move rfl) ?_
        refine Go.Sl.ow_val rfl rfl (Go.Sl.v_neq rfl rfl) ?_
        refine Go.Sl.ow_val rfl rfl (Go.Sl.v_move rfl) ?_
        refine Go.Sl.ow_dec 210 rfl (fun hc210 => ?_) (fun hc210 => ?_)
        (exfalso; omega)
        refine Go.Sl.ow_val rfl rfl (Go.Sl.v_move rfl) ?_
        refine Go.Sl.ow_val rfl rfl (Go.Sl.v_neq rfl rfl) ?_
        refine Go.Sl.ow_val rfl rfl (Go.Sl.v_pick_false rfl rfl) ?_
        refine Go.Sl.ow_nil ?_
        refine Go.Sl.xw_then ?_
        refine Go.Sl.cw_false rfl ?_
        refine Go.Sl.cw_skip ?_
        refine Go.Sl.xw_then ?_
        refine Go.Sl.cw_exit ?_
        refine Go.Sl.xw_then_exit ?_
        refine Go.Sl.xw_block_exit ?_
        exact xw_joint (⟨i + 1, m, x204, M, ao, cap, cM, S, ao2, cap2, cS, true, said, came⟩ : Ix) ⟨hR, hq204, hL, hLS, by dsimp only; omega, by dsimp only; omega, hSo⟩ (by first | exact Go.Sl.Cov.refl _ | (intro p; simp only [List.flatten_cons, List.flatten_nil, List.flatten_append, List.append_nil, List.nil_append, Go.Sl.cnt_append, Go.Sl.cnt_cons, Go.Sl.cnt_nil, List.set_cons_zero, List.set_cons_succ, List.length_nil, List.length_cons, Nat.zero_add, List.append]; omega)) (by repeat (first | exact True.intro | refine And.intro rfl ?_))
      | false =>
        have hwr : ∀ {G : List Hp} {R : Hp → List Hp}, Sel G c R → Go.Sl.Fn Try.prog 37 #[.pointer (some ⟨x44.1, 0, none⟩), .slice a.ao a.len a.cap] B w0 G fun u G' => ∃ c' : Hp, u = .tuple #[.int .i64 a.len, .int .i64 0] ∧ OutAt (m.write a.data) x44.1 c' ∧ G' = R c' := fun hs => by
          have h := outWrite_c (B := B) (w0 := w0) hs hO hw (hao.vw _) (by omega)
          simp only [hR.fin_, if_false, Bool.false_eq_true, hdl] at h
          exact h
        refine Go.Sl.cw_seq ?_
        refine Go.Sl.cw_region ?_
        refine Go.Sl.ow_val rfl rfl (Go.Sl.v_move rfl) ?_
        refine Go.Sl.ow_val rfl rfl (Go.Sl.v_fieldAddr0 Ty.fd101_3 rfl) ?_
        refine Go.Sl.ow_val rfl rfl (Go.Sl.v_load rfl (Go.Sl.Var.at1 Ty.sc57 .here (Go.Sl.GetN.lit rfl))) ?_
        (refine Go.Sl.ow_call rfl rfl rfl rfl (hwr (by repeat (first | exact Go.Sl.Sel.here | apply Go.Sl.Sel.there))) ?_; rintro _ _ ⟨x204, rfl, hq204, rfl⟩)
        refine Go.Sl.ow_val rfl rfl (Go.Sl.v_move rfl) ?_
        refine Go.Sl.ow_val rfl rfl (Go.Sl.v_extract rfl rfl) ?_
        refine Go.Sl.ow_val rfl rfl (Go.Sl.v_extract rfl rfl) ?_
        refine Go.Sl.ow_val rfl rfl (Go.Sl.v_assign rfl) ?_
        refine Go.Sl.ow_val rfl rfl (Go.Sl.v_assign rfl) ?_
        refine Go.Sl.ow_nil ?_
        refine Go.Sl.xw_then ?_
        refine Go.Sl.cw_seq ?_
        refine Go.Sl.cw_seq ?_
        refine Go.Sl.cw_region ?_
        refine Go.Sl.ow_val rfl rfl (Go.Sl.v_move rfl) ?_
        refine Go.Sl.ow_nil ?_
        refine Go.Sl.xw_then ?_
        refine Go.Sl.cw_false rfl ?_
        refine Go.Sl.cw_skip ?_
        refine Go.Sl.xw_then ?_
        refine Go.Sl.cw_seq ?_
        refine Go.Sl.cw_seq ?_
        refine Go.Sl.cw_region ?_
        refine Go.Sl.ow_val rfl rfl (Go.Sl.v_move rfl) ?_
        refine Go.Sl.ow_val rfl rfl (Go.Sl.v_neq rfl rfl) ?_
        refine Go.Sl.ow_val rfl rfl (Go.Sl.v_move rfl) ?_
        refine Go.Sl.ow_dec 216 rfl (fun hc216 => ?_) (fun hc216 => ?_)
        (exfalso; omega)
        refine Go.Sl.ow_val rfl rfl (Go.Sl.v_move rfl) ?_
        refine Go.Sl.ow_val rfl rfl (Go.Sl.v_fieldAddr0 Ty.fd101_3 rfl) ?_
        refine Go.Sl.ow_val rfl rfl (Go.Sl.v_load rfl (Go.Sl.Var.at1 Ty.sc57 .here (Go.Sl.GetN.lit rfl))) ?_
        refine Go.Sl.ow_val rfl rfl (Go.Sl.v_len rfl Try.underlying57 rfl) ?_
        refine Go.Sl.ow_val rfl rfl (Go.Sl.v_neq rfl rfl) ?_
        refine Go.Sl.ow_val rfl rfl (Go.Sl.v_pick_false rfl rfl) ?_
        refine Go.Sl.ow_nil ?_
        refine Go.Sl.xw_then ?_
        refine Go.Sl.cw_dec rfl (fun hc222 => ?_) (fun hc222 => ?_)
        (exfalso; omega)
        refine Go.Sl.cw_skip ?_
        refine Go.Sl.xw_then ?_
        refine Go.Sl.cw_seq ?_
        refine Go.Sl.cw_region ?_
        refine Go.Sl.ow_val rfl rfl (Go.Sl.v_fieldAddr0 Ty.fd101_3 rfl) ?_
        refine Go.Sl.ow_val rfl rfl (Go.Sl.v_load rfl (Go.Sl.Var.at1 Ty.sc57 .here (Go.Sl.GetN.lit rfl))) ?_
        refine Go.Sl.ow_val rfl rfl (Go.Sl.v_len rfl Try.underlying57 rfl) ?_
        refine Go.Sl.ow_val rfl rfl (Go.Sl.v_move rfl) ?_
        refine Go.Sl.ow_nil ?_
        refine Go.Sl.xw_then ?_
        refine Go.Sl.cw_block ?_
        refine Go.Sl.cw_loop2 (ι := ((Nat × List Pl × Option Addr × Nat × Hp))) [(0, _), (3, _), (5, _), (6, _), (7, _), (8, _), (45, _), (46, _), (47, _), (224, _), (225, _)] ⟨rfl, rfl, rfl, rfl, rfl, rfl, rfl, rfl, rfl, rfl, rfl, trivial⟩ ((fun x => [(4, .slice x.2.2.1 x.2.1.length x.2.2.2.1), (226, .int .i64 x.1)])) ((fun x => x.1 ≤ a.len ∧ x.2.1 = M ++ (a.data.take x.1).map (fun c => (⟨c, 0⟩ : Pl)) ∧ Ls enPl 103 (.slice x.2.2.1 x.2.1.length x.2.2.2.1) x.2.2.2.2 x.2.1)) ((fun x => a.len - x.1)) ((fun x => x204 :: x.2.2.2.2 :: cS :: F)) (((0, M, ao, cap, cM) : Nat × List Pl × Option Addr × Nat × Hp)) (by repeat (first | exact True.intro | refine And.intro rfl ?_)) (by first | exact Go.Sl.Cov.refl _ | (intro p; simp only [List.flatten_cons, List.flatten_nil, List.flatten_append, List.append_nil, List.nil_append, Go.Sl.cnt_append, Go.Sl.cnt_cons, Go.Sl.cnt_nil, List.set_cons_zero, List.set_cons_succ, List.length_nil, List.length_cons, Nat.zero_add, List.append]; omega)) ?_ ?_
        · exact ⟨Nat.zero_le _, by simp, hL⟩
        rintro ⟨j, L, aj, cj, cL⟩ ⟨hj, hE, hLj⟩
        dsimp only at hj hE hLj ⊢
        have hLl : L.length = M.length + j := by
          rw [hE, List.length_append, List.length_map, List.length_take]; omega
        refine Go.Sl.cw_seq ?_
        refine Go.Sl.cw_region ?_
        refine Go.Sl.ow_val rfl rfl (Go.Sl.v_lss rfl rfl) ?_
        refine Go.Sl.ow_nil ?_
        refine Go.Sl.xw_then ?_
        refine Go.Sl.cw_seq ?_
        refine Go.Sl.cw_dec rfl (fun hc227 => ?_) (fun hc227 => ?_)
        refine Go.Sl.cw_skip ?_
        refine Go.Sl.xw_then ?_
        rotate_left
        refine Go.Sl.cw_exit ?_
        refine Go.Sl.xw_then_exit ?_
        refine Go.Sl.xw_round_exit ?_
        refine Go.Sl.xw_block_exit ?_
        refine Go.Sl.xw_block ?_
        rotate_left
        · have hj2 : j < a.data.length := by omega
          have hok0 : enPl.ok ⟨a.data[j], 0⟩ := ⟨by dsimp only; omega, by dsimp only; omega⟩
          refine Go.Sl.cw_seq ?_
          refine Go.Sl.cw_block ?_
          refine Go.Sl.cw_seq ?_
          refine Go.Sl.cw_region ?_
          refine Go.Sl.ow_val rfl rfl (Go.Sl.v_indexAddr_vw Try.underlying57 (u8Ty) rfl rfl (hao.vw []) rfl (by omega)) ?_
          refine Go.Sl.ow_val rfl rfl (Go.Sl.v_load rfl (Go.Sl.Vw.var (u8Ty) (hao.vw _) (by omega))) ?_
          refine Go.Sl.ow_val rfl rfl (Go.Sl.v_assign rfl) ?_
          refine Go.Sl.ow_nil ?_
          refine Go.Sl.xw_then ?_
          refine Go.Sl.cw_region ?_
          refine Go.Sl.ow_val rfl rfl (Go.Sl.v_move rfl) ?_
          refine Go.Sl.ow_val rfl rfl (Go.Sl.v_move rfl) ?_
          refine Go.Sl.ow_val rfl rfl (Go.Sl.v_build rfl (b_pl)) ?_
          (refine Go.Sl.ow_buildL (es := [((⟨a.data[j], 0⟩ : Pl))]) rfl rfl Try.underlying98 Ty.em98 (plTy) rfl rfl (by simp [*]) (by simp only [List.length_cons, List.length_nil]; decide) ?_; intro ao233 c233 hL233)
          (refine Go.Sl.ow_appendL rfl rfl Try.underlying98 Try.underlying98 Ty.em98 (plTy) rfl rfl (by assumption) (by repeat (first | exact Go.Sl.Sel.here | apply Go.Sl.Sel.there)) (Go.Sl.Ls.vw (by assumption) (by repeat (first | exact Go.Sl.Sub.here | assumption | refine Go.Sl.Sub.there ?_))) (by first | omega | (simp only [List.length_append, List.length_take, List.length_drop, List.length_nil, List.length_cons]; omega)) (by first | omega | (simp only [List.length_append, List.length_take, List.length_drop, List.length_nil, List.length_cons]; omega)) ?_; intro ao234 cap234 c234 hL234)
          refine Go.Sl.ow_val rfl rfl (Go.Sl.v_assign rfl) ?_
          refine Go.Sl.ow_nil ?_
          refine Go.Sl.xw_block ?_
          refine Go.Sl.xw_then ?_
          refine Go.Sl.cw_region ?_
          refine Go.Sl.ow_val rfl rfl (Go.Sl.v_add rfl rfl (Go.Sl.nw_i64 (by omega) (by omega))) ?_
          refine Go.Sl.ow_val rfl rfl (Go.Sl.v_move rfl) ?_
          refine Go.Sl.ow_nil ?_
          exact xw_round (j + 1, L ++ [⟨a.data[j], 0⟩], ao234, cap234, c234) ⟨by omega, by rw [hE, List.take_succ_eq_append_getElem hj2, List.map_append, List.append_assoc]; rfl, hL234⟩ (by dsimp only; omega) (by first | exact Go.Sl.Cov.refl _ | (intro p; simp only [List.flatten_cons, List.flatten_nil, List.flatten_append, List.append_nil, List.nil_append, Go.Sl.cnt_append, Go.Sl.cnt_cons, Go.Sl.cnt_nil, List.set_cons_zero, List.set_cons_succ, List.length_nil, List.length_cons, Nat.zero_add, List.append]; omega)) (by repeat (first | exact True.intro | refine And.intro rfl ?_))
        · have hjn : j = a.data.length := by omega
          rw [hjn, List.take_of_length_le (Nat.le_refl _)] at hE
          exact xw_joint (⟨i + 1, m.write a.data, x204, L, aj, cj, cL, S, ao2, cap2, cS, false, said, came⟩ : Ix) ⟨by rw [hE]; exact hR.write (by omega), hq204, hLj, hLS, by dsimp only; omega, by dsimp only; omega, hSo⟩ (by first | exact Go.Sl.Cov.refl _ | (intro p; simp only [List.flatten_cons, List.flatten_nil, List.flatten_append, List.append_nil, List.nil_append, Go.Sl.cnt_append, Go.Sl.cnt_cons, Go.Sl.cnt_nil, List.set_cons_zero, List.set_cons_succ, List.length_nil, List.length_cons, Nat.zero_add, List.append]; omega)) (by repeat (first | exact True.intro | refine And.intro rfl ?_))
    ·
      have hfi : ∀ {G : List Hp} {R : Hp → List Hp}, Sel G c R → Go.Sl.Fn Try.prog 38 #[.pointer (some ⟨x44.1, 0, none⟩)] B w0 G fun u G' => ∃ c' : Hp, u = .int .i64 (if fin = true then 19 else 0) ∧ OutAt m.finish x44.1 c' ∧ G' = R c' := fun hs => by
        have h := outFinish_c (B := B) (w0 := w0) hs hO
        rw [hR.fin_] at h
        exact h
      have hne : decide ((if fin = true then (19 : Int) else 0) = 0) = !fin := by cases fin <;> rfl
      refine Go.Sl.cw_seq ?_
      refine Go.Sl.cw_seq ?_
      refine Go.Sl.cw_region ?_
      refine Go.Sl.ow_val rfl rfl (Go.Sl.v_move rfl) ?_
      (refine Go.Sl.ow_call rfl rfl rfl rfl (hfi (by repeat (first | exact Go.Sl.Sel.here | apply Go.Sl.Sel.there))) ?_; rintro _ _ ⟨x240, rfl, hq240, rfl⟩)
      refine Go.Sl.ow_val rfl rfl (Go.Sl.v_eql rfl rfl) ?_
      refine Go.Sl.ow_val rfl rfl (Go.Sl.v_move rfl) ?_
      refine Go.Sl.ow_val rfl rfl (Go.Sl.v_not_bool rfl) ?_
      refine Go.Sl.ow_val rfl rfl (Go.Sl.v_neqB Try.underlying4 rfl rfl) ?_
      refine Go.Sl.ow_nil ?_
      refine Go.Sl.xw_then ?_
      refine Go.Sl.cw_dec rfl (fun hc244 => ?_) (fun hc244 => ?_)
      refine Go.Sl.cw_seq ?_
      refine Go.Sl.cw_region ?_
      refine Go.Sl.ow_val rfl rfl (Go.Sl.v_assign rfl) ?_
      refine Go.Sl.ow_nil ?_
      refine Go.Sl.xw_then ?_
      refine Go.Sl.cw_ret ?_
      refine Go.Sl.xw_then_ret ?_
      refine Go.Sl.xw_block_ret ?_
      refine Go.Sl.xw_joint_ret ?_
      refine Go.Sl.xw_block_ret ?_
      refine Go.Sl.xw_then_ret ?_
      refine Go.Sl.xw_round_ret ?_
      refine Go.Sl.xw_block_ret ?_
      refine Go.Sl.xw_then_ret ?_
      refine Go.Sl.ret1 rfl (Go.Sl.res_tmp rfl) ?_
      rotate_left
      refine Go.Sl.cw_skip ?_
      refine Go.Sl.xw_then ?_
      refine Go.Sl.cw_region ?_
      refine Go.Sl.ow_val rfl rfl (Go.Sl.v_assign rfl) ?_
      refine Go.Sl.ow_nil ?_
      refine Go.Sl.xw_block ?_
      rotate_left
      · exact absurd hne hc244
      · exact xw_joint (⟨i + 1, m.finish, x240, M, ao, cap, cM, S, ao2, cap2, cS, true, said, came⟩ : Ix) ⟨hR.finish, hq240, hL, hLS, by dsimp only; omega, by dsimp only; omega, hSo⟩ (by first | exact Go.Sl.Cov.refl _ | (intro p; simp only [List.flatten_cons, List.flatten_nil, List.flatten_append, List.append_nil, List.nil_append, Go.Sl.cnt_append, Go.Sl.cnt_cons, Go.Sl.cnt_nil, List.set_cons_zero, List.set_cons_succ, List.length_nil, List.length_cons, Nat.zero_add, List.append]; omega)) (by repeat (first | exact True.intro | refine And.intro rfl ?_))
    ·
      have hml := hR.len
      have htm := tmodB (k := a.n) (n := 20) hao.n.1 (by decide)
      have htl := tmodB (k := a.long) (n := 3) hao.long.1 (by decide)
      have htl2 := tmodB (k := a.long) (n := 2) hao.long.1 (by decide)
      refine Go.Sl.cw_seq ?_
      refine Go.Sl.cw_region ?_
      refine Go.Sl.ow_val rfl rfl (Go.Sl.v_fieldAddr0 Ty.fd101_1 rfl) ?_
      refine Go.Sl.ow_val rfl rfl (Go.Sl.v_load rfl (Go.Sl.Var.at1 Ty.sc5 .here (Go.Sl.GetN.lit rfl))) ?_
      refine Go.Sl.ow_val rfl rfl (Go.Sl.v_rem rfl rfl (by decide)) ?_
      refine Go.Sl.ow_val rfl rfl (Go.Sl.v_convert Try.underlying5 Try.underlying3 rfl (Go.Sl.nw_i64 (by omega) (by omega))) ?_
      refine Go.Sl.ow_val rfl rfl (Go.Sl.v_move rfl) ?_
      refine Go.Sl.ow_val rfl rfl (Go.Sl.v_len rfl Try.underlying98 rfl) ?_
      refine Go.Sl.ow_val rfl rfl (Go.Sl.v_convert Try.underlying3 Try.underlying23 rfl (Go.Sl.nw_u64 (by omega) (by omega))) ?_
      refine Go.Sl.ow_val rfl rfl (Go.Sl.v_assign rfl) ?_
      refine Go.Sl.ow_val rfl rfl (Go.Sl.v_assign rfl) ?_
      refine Go.Sl.ow_nil ?_
      refine Go.Sl.xw_then ?_
      refine Go.Sl.cw_cut2 (ι := (Int)) [(0, _), (3, _), (4, _), (5, _), (6, _), (7, _), (8, _), (9, _), (10, _), (11, _), (19, _), (45, _), (46, _), (47, _)] ⟨rfl, rfl, rfl, rfl, rfl, rfl, rfl, rfl, rfl, rfl, rfl, rfl, rfl, rfl, trivial⟩ ((fun x => [(20, .int .u64 x)])) ((fun x => 0 ≤ x ∧ x ≤ 18446744073709551615)) ((fun _ => [(b10, .cells ((enAct B w0).f a).toArray 101 (0, 0))] :: c :: cM :: cS :: F)) ?_ ?_
      · refine Go.Sl.cw_seq ?_
        refine Go.Sl.cw_region ?_
        refine Go.Sl.ow_val rfl rfl (Go.Sl.v_fieldAddr0 Ty.fd101_2 rfl) ?_
        refine Go.Sl.ow_val rfl rfl (Go.Sl.v_load rfl (Go.Sl.Var.at1 Ty.sc5 .here (Go.Sl.GetN.lit rfl))) ?_
        refine Go.Sl.ow_val rfl rfl (Go.Sl.v_rem rfl rfl (by decide)) ?_
        refine Go.Sl.ow_val rfl rfl (Go.Sl.v_eql rfl rfl) ?_
        refine Go.Sl.ow_nil ?_
        refine Go.Sl.xw_then ?_
        refine Go.Sl.cw_dec rfl (fun hc258 => ?_) (fun hc258 => ?_)
        refine Go.Sl.cw_region ?_
        refine Go.Sl.ow_val rfl rfl (Go.Sl.v_fieldAddr0 Ty.fd101_2 rfl) ?_
        refine Go.Sl.ow_val rfl rfl (Go.Sl.v_load rfl (Go.Sl.Var.at1 Ty.sc5 .here (Go.Sl.GetN.lit rfl))) ?_
        refine Go.Sl.ow_val rfl rfl (Go.Sl.v_convert Try.underlying5 Try.underlying23 rfl (Go.Sl.nw_u64 (by omega) (by omega))) ?_
        refine Go.Sl.ow_val rfl rfl (Go.Sl.v_assign rfl) ?_
        refine Go.Sl.ow_nil ?_
        rotate_left
        refine Go.Sl.cw_skip ?_
        rotate_left
        · exact xw_joint (a.long : Int) (by omega) (by first | exact Go.Sl.Cov.refl _ | (intro p; simp only [List.flatten_cons, List.flatten_nil, List.flatten_append, List.append_nil, List.nil_append, Go.Sl.cnt_append, Go.Sl.cnt_cons, Go.Sl.cnt_nil, List.set_cons_zero, List.set_cons_succ, List.length_nil, List.length_cons, Nat.zero_add, List.append]; omega)) (by repeat (first | exact True.intro | refine And.intro rfl ?_))
        · exact xw_joint (M.length : Int) (by omega) (by first | exact Go.Sl.Cov.refl _ | (intro p; simp only [List.flatten_cons, List.flatten_nil, List.flatten_append, List.append_nil, List.nil_append, Go.Sl.cnt_append, Go.Sl.cnt_cons, Go.Sl.cnt_nil, List.set_cons_zero, List.set_cons_succ, List.length_nil, List.length_cons, Nat.zero_add, List.append]; omega)) (by repeat (first | exact True.intro | refine And.intro rfl ?_))
      rintro lim hlim
      have hfb : -1 ≤ f ∧ f < M.length := by
        rcases hf with ⟨rfl, _⟩ | ⟨k, rfl, hk, _⟩
        · omega
        · omega
      obtain ⟨A, l, fz, okz, hN, hl20, hlM, hpe, hff, hcase⟩ : ∃ (A : Nat) (l : List UInt8) (fz okz : Bool), m.next (a.n.tmod 20) lim = (⟨A, l, fz⟩, okz) ∧ l.length ≤ 20 ∧ A + l.length ≤ M.length ∧ (∀ k : Nat, A ≤ k → k < A + l.length → InR m.pend k) ∧ (fz = true → fin = true) ∧
          ((∃ k : Nat, f = k ∧ 0 < a.n.tmod 20 ∧ (k : Int) < lim ∧ A = k ∧ l = bytesOf M k l.length ∧ fz = (fin && decide (k + l.length = M.length)) ∧ okz = true ∧ (l.length : Int) ≤ a.n.tmod 20 ∧
              ∀ j : Nat, j ≤ l.length → ((k + j < M.length ∧ (∀ h : k + j < M.length, (M[k + j]).s = 0) ∧ ((k + j : Nat) : Int) < lim ∧ (j : Int) < a.n.tmod 20) ↔ j < l.length)) ∨
           (f = -1 ∧ 0 < a.n.tmod 20 ∧ (fin && (!came && !said)) = true ∧ A = M.length ∧ l = [] ∧ fz = true ∧ okz = true) ∨
           (¬ (0 < a.n.tmod 20 ∧ 0 ≤ f ∧ f < lim) ∧ ¬ (0 < a.n.tmod 20 ∧ f < 0 ∧ (fin && (!came && !said)) = true) ∧ A = 0 ∧ l = [] ∧ fz = false ∧ okz = false)) := by
        by_cases hm0 : 0 < a.n.tmod 20
        · rcases hf with ⟨rfl, hno⟩ | ⟨k, rfl, hk, hks, hkb⟩
          · have h := hR.next_none hno (most := a.n.tmod 20) (limit := lim) hm0
            by_cases hc : (fin && (!came && !said)) = true
            · rw [if_pos hc] at h
              refine ⟨M.length, [], true, true, h, by simp, by simp, fun k h1 h2 => by simp at h2; omega, fun _ => ?_, .inr (.inl ⟨rfl, hm0, hc, rfl, rfl, rfl, rfl⟩)⟩
              cases fin with
              | true => rfl
              | false => cases hc
            · rw [if_neg hc] at h
              exact ⟨0, [], false, false, h, by simp, by simp, fun k h1 h2 => by simp at h2, (fun h => by cases h), .inr (.inr ⟨by omega, fun h => hc h.2.2, rfl, rfl, rfl, rfl⟩)⟩
          · by_cases hkl : (k : Int) < lim
            · obtain ⟨n, n1, n2, n3, n4, n5, n6⟩ := hR.next_some hk hks hkb hm0 hkl
              have hbl := bytesOf_len n3
              refine ⟨k, bytesOf M k n, _, _, n4, by omega, by omega, fun i h1 h2 => n5 i h1 (by omega), fun h => ?_, .inl ⟨k, rfl, hm0, hkl, rfl, by rw [hbl], by rw [hbl], rfl, by omega, by rw [hbl]; exact n6⟩⟩
              cases fin with
              | true => rfl
              | false => cases h
            · have h := hR.next_far hk hks hkb (most := a.n.tmod 20) (limit := lim) (.inr (by omega))
              exact ⟨0, [], false, false, h, by simp, by simp, fun k h1 h2 => by simp at h2, (fun h => by cases h), .inr (.inr ⟨by omega, by omega, rfl, rfl, rfl, rfl⟩)⟩
        · exact ⟨0, [], false, false, if_pos (by omega), by simp, by simp, fun k h1 h2 => by simp at h2, (fun h => by cases h), .inr (.inr ⟨fun h => hm0 h.1, fun h => hm0 h.1, rfl, rfl, rfl, rfl⟩)⟩
      have hnx : ∀ {G : List Hp}, Go.Sl.Sub c G → Go.Sl.Fn Try.prog 39 #[.pointer (some ⟨x44.1, 0, none⟩), .int .i64 (a.n.tmod 20), .int .u64 lim] B w0 G fun u G' => ∃ x : Option Addr × Nat × Hp, u = .tuple #[enP.val ⟨A, x.1, l.length, x.2.1, fz⟩, .bool okz] ∧ Ls enB 5 (.slice x.1 l.length x.2.1) x.2.2 l ∧ G' = [x.2.2] ++ G := fun hs => by
        have h := outNext_c (B := B) (w0 := w0) hO hs hw (most := a.n.tmod 20) (limit := lim) (by omega) hlim
        rw [hN] at h
        exact h
      refine Go.Sl.cw_seq ?_
      refine Go.Sl.cw_region ?_
      refine Go.Sl.ow_val rfl rfl (Go.Sl.v_move rfl) ?_
      refine Go.Sl.ow_val rfl rfl (Go.Sl.v_move rfl) ?_
      refine Go.Sl.ow_val rfl rfl (Go.Sl.v_move rfl) ?_
      (refine Go.Sl.ow_call rfl rfl rfl rfl (hnx (by repeat (first | exact Go.Sl.Sub.here | assumption | refine Go.Sl.Sub.there ?_))) ?_; rintro _ _ ⟨x266, rfl, hq266, rfl⟩)
      refine Go.Sl.ow_val rfl rfl (Go.Sl.v_move rfl) ?_
      refine Go.Sl.ow_val rfl rfl (Go.Sl.v_extract rfl rfl) ?_
      refine Go.Sl.ow_val rfl rfl (Go.Sl.v_extract rfl rfl) ?_
      (refine Go.Sl.ow_alloc rfl rfl Ty.ze64 ?_; intro b21)
      refine Go.Sl.ow_storeE rfl (pTy) rfl rfl .here (by first | rfl | assumption) (okP _) ?_
      refine Go.Sl.ow_val rfl rfl (Go.Sl.v_assign rfl) ?_
      refine Go.Sl.ow_nil ?_
      refine Go.Sl.xw_then ?_
      refine Go.Sl.cw_seq ?_
      refine Go.Sl.cw_region ?_
      (refine Go.Sl.ow_alloc rfl rfl Ty.ze64 ?_; intro b23)
      refine Go.Sl.ow_nil ?_
      refine Go.Sl.xw_then ?_
      refine Go.Sl.cw_seq ?_
      refine Go.Sl.cw_region ?_
      refine Go.Sl.ow_val rfl rfl (Go.Sl.v_assign rfl) ?_
      refine Go.Sl.ow_nil ?_
      refine Go.Sl.xw_then ?_
      obtain ⟨aoP, capP, cP⟩ := x266
      dsimp only at hq266 ⊢
      refine Go.Sl.cw_cut2 (ι := ((Option Addr × Nat × Hp))) [(0, _), (3, _), (4, _), (5, _), (6, _), (7, _), (8, _), (10, _), (19, _), (21, _), (22, _), (23, _), (45, _), (46, _), (47, _)] ⟨rfl, rfl, rfl, rfl, rfl, rfl, rfl, rfl, rfl, rfl, rfl, rfl, rfl, rfl, rfl, trivial⟩ ((fun _ => [(24, .bool okz)])) ((fun x => Ls enB 5 (.slice x.1 l.length x.2.1) x.2.2 l)) ((fun x => [(b23, .cells [Value.int .u64 A, .slice x.1 l.length x.2.1, .bool fz].toArray 64 (0, 0))] :: x.2.2 :: [(b21, .cells [Value.int .u64 A, .slice aoP l.length capP, .bool fz].toArray 64 (0, 0))] :: cP :: [(b10, .cells ((enAct B w0).f a).toArray 101 (0, 0))] :: c :: cM :: cS :: F)) ?_ ?_
      · rcases hcase with ⟨k, rfl, hm0, hkl, rfl, hlb, hfz, rfl, hlm, hiff⟩ | ⟨rfl, hm0, hcc, rfl, rfl, rfl, rfl⟩ | ⟨hn1, hn2, rfl, rfl, rfl, rfl⟩
        · refine Go.Sl.cw_seq ?_
          refine Go.Sl.cw_region ?_
          refine Go.Sl.ow_val rfl rfl (Go.Sl.v_move rfl) ?_
          refine Go.Sl.ow_val rfl rfl (Go.Sl.v_gtr rfl rfl) ?_
          refine Go.Sl.ow_val rfl rfl (Go.Sl.v_move rfl) ?_
          refine Go.Sl.ow_dec 271 rfl (fun hc271 => ?_) (fun hc271 => ?_)
          rotate_left; (exfalso; omega); rotate_right
          refine Go.Sl.ow_val rfl rfl (Go.Sl.v_move rfl) ?_
          refine Go.Sl.ow_val rfl rfl (Go.Sl.v_geq rfl rfl) ?_
          refine Go.Sl.ow_val rfl rfl (Go.Sl.v_pick_true rfl rfl) ?_
          refine Go.Sl.ow_val rfl rfl (Go.Sl.v_move rfl) ?_
          refine Go.Sl.ow_dec 275 rfl (fun hc275 => ?_) (fun hc275 => ?_)
          rotate_left; (exfalso; omega); rotate_right
          refine Go.Sl.ow_val rfl rfl (Go.Sl.v_move rfl) ?_
          refine Go.Sl.ow_val rfl rfl (Go.Sl.v_convert Try.underlying3 Try.underlying23 rfl (Go.Sl.nw_u64 (by omega) (by omega))) ?_
          refine Go.Sl.ow_val rfl rfl (Go.Sl.v_move rfl) ?_
          refine Go.Sl.ow_val rfl rfl (Go.Sl.v_lss rfl rfl) ?_
          refine Go.Sl.ow_val rfl rfl (Go.Sl.v_pick_true rfl rfl) ?_
          refine Go.Sl.ow_nil ?_
          refine Go.Sl.xw_then ?_
          refine Go.Sl.cw_dec rfl (fun hc280 => ?_) (fun hc280 => ?_)
          rotate_left; (exfalso; omega); rotate_right
          refine Go.Sl.cw_seq ?_
          refine Go.Sl.cw_region ?_
          refine Go.Sl.ow_val rfl rfl (Go.Sl.v_assign rfl) ?_
          refine Go.Sl.ow_nil ?_
          refine Go.Sl.xw_then ?_
          refine Go.Sl.cw_seq ?_
          refine Go.Sl.cw_region ?_
          refine Go.Sl.ow_val rfl rfl (Go.Sl.v_move rfl) ?_
          refine Go.Sl.ow_val rfl rfl (Go.Sl.v_convert Try.underlying3 Try.underlying23 rfl (Go.Sl.nw_u64 (by omega) (by omega))) ?_
          refine Go.Sl.ow_val rfl rfl (Go.Sl.v_fieldAddr0 Ty.fd64_0 rfl) ?_
          refine Go.Sl.ow_store1 rfl rfl rfl rfl Ty.sc23 .here (Go.Sl.SetN.one (by first | decide | exact Nat.le_of_ble_eq_true rfl)) ?_
          refine Go.Sl.ow_nil ?_
          refine Go.Sl.xw_then ?_
          refine Go.Sl.cw_cut2 (ι := ((Option Addr × Nat × Hp))) [(0, _), (3, _), (4, _), (5, _), (6, _), (7, _), (8, _), (10, _), (11, _), (19, _), (21, _), (22, _), (23, _), (24, _), (45, _), (46, _), (47, _)] ⟨rfl, rfl, rfl, rfl, rfl, rfl, rfl, rfl, rfl, rfl, rfl, rfl, rfl, rfl, rfl, rfl, rfl, trivial⟩ ((fun _ => [])) ((fun x => Ls enB 5 (.slice x.1 l.length x.2.1) x.2.2 l)) ((fun x => [(b23, .cells [Value.int .u64 A, .slice x.1 l.length x.2.1, .bool false].toArray 64 (0, 0))] :: x.2.2 :: [(b21, .cells [Value.int .u64 A, .slice aoP l.length capP, .bool fz].toArray 64 (0, 0))] :: cP :: [(b10, .cells ((enAct B w0).f a).toArray 101 (0, 0))] :: c :: cM :: cS :: F)) ?_ ?_
          · refine Go.Sl.cw_seq ?_
            refine Go.Sl.cw_region ?_
            refine Go.Sl.ow_val rfl rfl (Go.Sl.v_move rfl) ?_
            refine Go.Sl.ow_val rfl rfl (Go.Sl.v_assign rfl) ?_
            refine Go.Sl.ow_nil ?_
            refine Go.Sl.xw_then ?_
            refine Go.Sl.cw_block ?_
            refine Go.Sl.cw_loop2 (ι := ((Nat × Option Addr × Nat × Hp))) [(0, _), (3, _), (4, _), (5, _), (6, _), (7, _), (8, _), (10, _), (11, _), (19, _), (20, _), (21, _), (22, _), (23, _), (24, _), (45, _), (46, _), (47, _)] ⟨rfl, rfl, rfl, rfl, rfl, rfl, rfl, rfl, rfl, rfl, rfl, rfl, rfl, rfl, rfl, rfl, rfl, rfl, trivial⟩ ((fun x => [(25, .int .i64 ((A + x.1 : Nat) : Int))])) ((fun x => x.1 ≤ l.length ∧ Ls enB 5 (.slice x.2.1 x.1 x.2.2.1) x.2.2.2 (bytesOf M A x.1))) ((fun x => l.length - x.1)) ((fun x => [(b23, .cells [Value.int .u64 A, .slice x.2.1 x.1 x.2.2.1, .bool false].toArray 64 (0, 0))] :: x.2.2.2 :: [(b21, .cells [Value.int .u64 A, .slice aoP l.length capP, .bool fz].toArray 64 (0, 0))] :: cP :: [(b10, .cells ((enAct B w0).f a).toArray 101 (0, 0))] :: c :: cM :: cS :: F)) (((0, none, 0, []) : Nat × Option Addr × Nat × Hp)) (by repeat (first | exact True.intro | refine And.intro rfl ?_)) (by first | exact Go.Sl.Cov.refl _ | (intro p; simp only [List.flatten_cons, List.flatten_nil, List.flatten_append, List.append_nil, List.nil_append, Go.Sl.cnt_append, Go.Sl.cnt_cons, Go.Sl.cnt_nil, List.set_cons_zero, List.set_cons_succ, List.length_nil, List.length_cons, Nat.zero_add, List.append]; omega)) ?_ ?_
            · exact ⟨Nat.zero_le _, by
                have h0 : bytesOf M A 0 = [] := List.length_eq_zero_iff.1 (bytesOf_len (by omega))
                show Ls enB 5 (.slice none 0 0) [] (bytesOf M A 0)
                rw [h0]
                exact Ls.nil⟩
            rintro ⟨j, aj, cj, cD⟩ ⟨hj, hLj⟩
            dsimp only at hj hLj ⊢
            have hbl : (bytesOf M A j).length = j := bytesOf_len (by omega)
            have hij := hiff j hj
            refine Go.Sl.cw_seq ?_
            refine Go.Sl.cw_seq ?_
            refine Go.Sl.cw_region ?_
            refine Go.Sl.ow_val rfl rfl (Go.Sl.v_move rfl) ?_
            refine Go.Sl.ow_val rfl rfl (Go.Sl.v_move rfl) ?_
            refine Go.Sl.ow_val rfl rfl (Go.Sl.v_len rfl Try.underlying98 rfl) ?_
            refine Go.Sl.ow_val rfl rfl (Go.Sl.v_lss rfl rfl) ?_
            refine Go.Sl.ow_val rfl rfl (Go.Sl.v_move rfl) ?_
            refine Go.Sl.ow_dec 289 rfl (fun hc289 => ?_) (fun hc289 => ?_)
            refine Go.Sl.ow_val rfl rfl (Go.Sl.v_move rfl) ?_
            refine Go.Sl.ow_val rfl rfl (Go.Sl.v_move rfl) ?_
            refine Go.Sl.ow_val rfl rfl (Go.Sl.v_indexAddr_ls Try.underlying98 (plTy) rfl rfl (by assumption) rfl (by omega)) ?_
            refine Go.Sl.ow_val rfl rfl (Go.Sl.v_fieldAddr Ty.fd103_1 rfl) ?_
            refine Go.Sl.ow_val rfl rfl (Go.Sl.v_load rfl (Go.Sl.Vw.fld1 (plTy) Ty.sc5 ((hL.vw (by repeat (first | exact Go.Sl.Sub.here | assumption | refine Go.Sl.Sub.there ?_)))) (by omega) rfl)) ?_
            refine Go.Sl.ow_val rfl rfl (Go.Sl.v_eql rfl rfl) ?_
            refine Go.Sl.ow_val rfl rfl (Go.Sl.v_pick_true rfl rfl) ?_
            refine Go.Sl.ow_val rfl rfl (Go.Sl.v_move rfl) ?_
            refine Go.Sl.ow_dec 297 rfl (fun hc297 => ?_) (fun hc297 => ?_)
            refine Go.Sl.ow_val rfl rfl (Go.Sl.v_move rfl) ?_
            refine Go.Sl.ow_val rfl rfl (Go.Sl.v_convert Try.underlying3 Try.underlying23 rfl (Go.Sl.nw_u64 (by omega) (by omega))) ?_
            refine Go.Sl.ow_val rfl rfl (Go.Sl.v_move rfl) ?_
            refine Go.Sl.ow_val rfl rfl (Go.Sl.v_lss rfl rfl) ?_
            refine Go.Sl.ow_val rfl rfl (Go.Sl.v_pick_true rfl rfl) ?_
            refine Go.Sl.ow_val rfl rfl (Go.Sl.v_move rfl) ?_
            refine Go.Sl.ow_dec 303 rfl (fun hc303 => ?_) (fun hc303 => ?_)
            refine Go.Sl.ow_val rfl rfl (Go.Sl.v_fieldAddr0 Ty.fd64_1 rfl) ?_
            refine Go.Sl.ow_val rfl rfl (Go.Sl.v_load rfl (Go.Sl.Var.at1 Ty.sc57 .here (Go.Sl.GetN.lit rfl))) ?_
            refine Go.Sl.ow_val rfl rfl (Go.Sl.v_len rfl Try.underlying57 rfl) ?_
            refine Go.Sl.ow_val rfl rfl (Go.Sl.v_move rfl) ?_
            refine Go.Sl.ow_val rfl rfl (Go.Sl.v_lss rfl rfl) ?_
            refine Go.Sl.ow_val rfl rfl (Go.Sl.v_pick_true rfl rfl) ?_
            refine Go.Sl.ow_nil ?_
            refine Go.Sl.xw_then ?_
            refine Go.Sl.cw_dec rfl (fun hc309 => ?_) (fun hc309 => ?_)
            refine Go.Sl.cw_skip ?_
            refine Go.Sl.xw_then ?_
            rotate_left
            refine Go.Sl.cw_exit ?_
            refine Go.Sl.xw_then_exit ?_
            refine Go.Sl.xw_round_exit ?_
            refine Go.Sl.xw_block_exit ?_
            rotate_left
            refine Go.Sl.ow_skip rfl rfl ?_
            refine Go.Sl.ow_skip rfl rfl ?_
            refine Go.Sl.ow_skip rfl rfl ?_
            refine Go.Sl.ow_skip rfl rfl ?_
            refine Go.Sl.ow_skip rfl rfl ?_
            refine Go.Sl.ow_val rfl rfl (Go.Sl.v_pick_false rfl rfl) ?_
            refine Go.Sl.ow_nil ?_
            refine Go.Sl.xw_then ?_
            refine Go.Sl.cw_false rfl ?_
            refine Go.Sl.cw_exit ?_
            refine Go.Sl.xw_then_exit ?_
            refine Go.Sl.xw_round_exit ?_
            refine Go.Sl.xw_block_exit ?_
            rotate_left
            refine Go.Sl.ow_skip rfl rfl ?_
            refine Go.Sl.ow_skip rfl rfl ?_
            refine Go.Sl.ow_skip rfl rfl ?_
            refine Go.Sl.ow_skip rfl rfl ?_
            refine Go.Sl.ow_val rfl rfl (Go.Sl.v_pick_false rfl rfl) ?_
            refine Go.Sl.ow_val rfl rfl (Go.Sl.v_move rfl) ?_
            refine Go.Sl.ow_skip rfl rfl ?_
            refine Go.Sl.ow_skip rfl rfl ?_
            refine Go.Sl.ow_skip rfl rfl ?_
            refine Go.Sl.ow_skip rfl rfl ?_
            refine Go.Sl.ow_skip rfl rfl ?_
            refine Go.Sl.ow_val rfl rfl (Go.Sl.v_pick_false rfl rfl) ?_
            refine Go.Sl.ow_nil ?_
            refine Go.Sl.xw_then ?_
            refine Go.Sl.cw_false rfl ?_
            refine Go.Sl.cw_exit ?_
            refine Go.Sl.xw_then_exit ?_
            refine Go.Sl.xw_round_exit ?_
            refine Go.Sl.xw_block_exit ?_
            rotate_left
            refine Go.Sl.ow_skip rfl rfl ?_
            refine Go.Sl.ow_skip rfl rfl ?_
            refine Go.Sl.ow_skip rfl rfl ?_
            refine Go.Sl.ow_skip rfl rfl ?_
            refine Go.Sl.ow_skip rfl rfl ?_
            refine Go.Sl.ow_skip rfl rfl ?_
            refine Go.Sl.ow_val rfl rfl (Go.Sl.v_pick_false rfl rfl) ?_
            refine Go.Sl.ow_val rfl rfl (Go.Sl.v_move rfl) ?_
            refine Go.Sl.ow_skip rfl rfl ?_
            refine Go.Sl.ow_skip rfl rfl ?_
            refine Go.Sl.ow_skip rfl rfl ?_
            refine Go.Sl.ow_skip rfl rfl ?_
            refine Go.Sl.ow_val rfl rfl (Go.Sl.v_pick_false rfl rfl) ?_
            refine Go.Sl.ow_val rfl rfl (Go.Sl.v_move rfl) ?_
            refine Go.Sl.ow_skip rfl rfl ?_
            refine Go.Sl.ow_skip rfl rfl ?_
            refine Go.Sl.ow_skip rfl rfl ?_
            refine Go.Sl.ow_skip rfl rfl ?_
            refine Go.Sl.ow_skip rfl rfl ?_
            refine Go.Sl.ow_val rfl rfl (Go.Sl.v_pick_false rfl rfl) ?_
            refine Go.Sl.ow_nil ?_
            refine Go.Sl.xw_then ?_
            refine Go.Sl.cw_false rfl ?_
            refine Go.Sl.cw_exit ?_
            refine Go.Sl.xw_then_exit ?_
            refine Go.Sl.xw_round_exit ?_
            refine Go.Sl.xw_block_exit ?_
            rotate_left
            · have hx : A + j < M.length := by omega
              have hlt : j < l.length := hij.1 ⟨hx, fun _ => hc297, hc303, hc309⟩
              have hs := bytesOf_succ hx
              obtain ⟨L, hBj⟩ : ∃ L, bytesOf M A j = L := ⟨_, rfl⟩
              rw [hBj] at hLj hbl hs
              have hokc : enB.ok (M[A + j].c) := trivial
              refine Go.Sl.cw_seq ?_
              refine Go.Sl.cw_block ?_
              refine Go.Sl.cw_mix [7] [8, 9, 10] [0, 1, 2, 3, 4, 5, 6] Ty.mixed rfl rfl rfl rfl (by decide +kernel) ?_
              refine Go.Sl.hw_pure rfl rfl (Go.Sl.v_fieldAddr0 Ty.fd64_1 rfl) rfl ?_
              refine Go.Sl.hw_read rfl rfl rfl (Go.Sl.v_load rfl (Go.Sl.Var.at1 Ty.sc57 .here (Go.Sl.GetN.lit rfl))) ?_
              refine Go.Sl.hw_pure rfl rfl (Go.Sl.v_move rfl) rfl ?_
              refine Go.Sl.hw_pure rfl rfl (Go.Sl.v_move rfl) rfl ?_
              refine Go.Sl.hw_pure rfl rfl (Go.Sl.v_indexAddr_ls Try.underlying98 (plTy) rfl rfl (by assumption) rfl (by omega)) rfl ?_
              refine Go.Sl.hw_pure rfl rfl (Go.Sl.v_fieldAddr Ty.fd103_0 rfl) rfl ?_
              refine Go.Sl.hw_read rfl rfl rfl (Go.Sl.v_load rfl (Go.Sl.Vw.fld1 (plTy) Ty.sc5 ((hL.vw (by repeat (first | exact Go.Sl.Sub.here | assumption | refine Go.Sl.Sub.there ?_)))) (by omega) rfl)) ?_
              refine Go.Sl.hw_nil ?_
              (refine Go.Sl.sw_buildL (es := [(M[A + j].c)]) rfl rfl Try.underlying57 Ty.em57 (u8Ty) rfl rfl (by simp [*]) (by simp only [List.length_cons, List.length_nil]; decide) ?_; intro ao319 c319 hL319)
              refine Go.Sl.sw_nil ?_
              (refine Go.Sl.ow_appendL rfl rfl Try.underlying57 Try.underlying57 Ty.em57 (u8Ty) rfl rfl (by assumption) (by repeat (first | exact Go.Sl.Sel.here | apply Go.Sl.Sel.there)) (Go.Sl.Ls.vw (by assumption) (by repeat (first | exact Go.Sl.Sub.here | assumption | refine Go.Sl.Sub.there ?_))) (by first | omega | (simp only [List.length_append, List.length_take, List.length_drop, List.length_nil, List.length_cons]; omega)) (by first | omega | (simp only [List.length_append, List.length_take, List.length_drop, List.length_nil, List.length_cons]; omega)) ?_; intro ao320 cap320 c320 hL320)
              refine Go.Sl.ow_val rfl rfl (Go.Sl.v_fieldAddr0 Ty.fd64_1 rfl) ?_
              refine Go.Sl.ow_store1 rfl rfl rfl rfl Ty.sc57 (.there .here) (Go.Sl.SetN.one (by first | decide | exact Nat.le_of_ble_eq_true rfl)) ?_
              refine Go.Sl.ow_nil ?_
              refine Go.Sl.xw_np ?_
              refine Go.Sl.xw_block ?_
              refine Go.Sl.xw_then ?_
              refine Go.Sl.cw_region ?_
              refine Go.Sl.ow_val rfl rfl (Go.Sl.v_move rfl) ?_
              refine Go.Sl.ow_val rfl rfl (Go.Sl.v_add rfl rfl (Go.Sl.nw_i64 (by omega) (by omega))) ?_
              refine Go.Sl.ow_val rfl rfl (Go.Sl.v_assign rfl) ?_
              refine Go.Sl.ow_nil ?_
              have hnn : (L ++ [M[A + j].c]).length = j + 1 := by rw [List.length_append, hbl]; rfl
              rw [hnn, hs] at hL320
              rw [hnn]
              exact xw_round (j + 1, ao320, cap320, c320) ⟨by omega, hL320⟩ (by dsimp only; omega) (by first | exact Go.Sl.Cov.refl _ | (intro p; simp only [List.flatten_cons, List.flatten_nil, List.flatten_append, List.append_nil, List.nil_append, Go.Sl.cnt_append, Go.Sl.cnt_cons, Go.Sl.cnt_nil, List.set_cons_zero, List.set_cons_succ, List.length_nil, List.length_cons, Nat.zero_add, List.append]; omega)) (by repeat (first | exact True.intro | refine And.intro rfl ?_))
            all_goals (
              have hjl : j = l.length := by
                rcases Nat.lt_or_ge j l.length with h | h
                · obtain ⟨g1, g2, g3, g4⟩ := hij.2 h
                  first | omega | exact absurd (g2 g1) hc297
                · omega
              subst hjl
              rw [← hlb] at hLj
              exact xw_joint (aj, cj, cD) hLj (by first | exact Go.Sl.Cov.refl _ | (intro p; simp only [List.flatten_cons, List.flatten_nil, List.flatten_append, List.append_nil, List.nil_append, Go.Sl.cnt_append, Go.Sl.cnt_cons, Go.Sl.cnt_nil, List.set_cons_zero, List.set_cons_succ, List.length_nil, List.length_cons, Nat.zero_add, List.append]; omega)) (by repeat (first | exact True.intro | refine And.intro rfl ?_)))
          · rintro ⟨aW, capW, cW⟩ hLW
            dsimp only at hLW ⊢
            refine Go.Sl.cw_region ?_
            refine Go.Sl.ow_val rfl rfl (Go.Sl.v_move rfl) ?_
            refine Go.Sl.ow_val rfl rfl (Go.Sl.v_move rfl) ?_
            refine Go.Sl.ow_bool 323 rfl (fun hc323 => ?_) (fun hc323 => ?_)
            refine Go.Sl.ow_val rfl rfl (Go.Sl.v_move rfl) ?_
            refine Go.Sl.ow_val rfl rfl (Go.Sl.v_fieldAddr0 Ty.fd64_1 rfl) ?_
            refine Go.Sl.ow_val rfl rfl (Go.Sl.v_load rfl (Go.Sl.Var.at1 Ty.sc57 .here (Go.Sl.GetN.lit rfl))) ?_
            refine Go.Sl.ow_val rfl rfl (Go.Sl.v_len rfl Try.underlying57 rfl) ?_
            refine Go.Sl.ow_val rfl rfl (Go.Sl.v_add rfl rfl (Go.Sl.nw_i64 (by omega) (by omega))) ?_
            refine Go.Sl.ow_val rfl rfl (Go.Sl.v_move rfl) ?_
            refine Go.Sl.ow_val rfl rfl (Go.Sl.v_len rfl Try.underlying98 rfl) ?_
            refine Go.Sl.ow_val rfl rfl (Go.Sl.v_eql rfl rfl) ?_
            refine Go.Sl.ow_val rfl rfl (Go.Sl.v_pick_true rfl rfl) ?_
            refine Go.Sl.ow_val rfl rfl (Go.Sl.v_fieldAddr0 Ty.fd64_2 rfl) ?_
            refine Go.Sl.ow_store1 rfl rfl rfl rfl Ty.sc4 .here (Go.Sl.SetN.one (by first | decide | exact Nat.le_of_ble_eq_true rfl)) ?_
            refine Go.Sl.ow_nil ?_
            rotate_left
            refine Go.Sl.ow_skip rfl rfl ?_
            refine Go.Sl.ow_skip rfl rfl ?_
            refine Go.Sl.ow_skip rfl rfl ?_
            refine Go.Sl.ow_skip rfl rfl ?_
            refine Go.Sl.ow_skip rfl rfl ?_
            refine Go.Sl.ow_skip rfl rfl ?_
            refine Go.Sl.ow_skip rfl rfl ?_
            refine Go.Sl.ow_skip rfl rfl ?_
            refine Go.Sl.ow_val rfl rfl (Go.Sl.v_pick_false rfl rfl) ?_
            refine Go.Sl.ow_val rfl rfl (Go.Sl.v_fieldAddr0 Ty.fd64_2 rfl) ?_
            refine Go.Sl.ow_store1 rfl rfl rfl rfl Ty.sc4 .here (Go.Sl.SetN.one (by first | decide | exact Nat.le_of_ble_eq_true rfl)) ?_
            refine Go.Sl.ow_nil ?_
            rotate_left
            · have hfz2 : fz = decide ((A : Int) + l.length = M.length) := by
                rw [hfz, hc323, Bool.true_and]
                exact decide_eq_decide.2 (by omega)
              subst hfz2
              exact xw_joint ((aW, capW, cW) : Option Addr × Nat × Hp) hLW (by first | exact Go.Sl.Cov.refl _ | (intro p; simp only [List.flatten_cons, List.flatten_nil, List.flatten_append, List.append_nil, List.nil_append, Go.Sl.cnt_append, Go.Sl.cnt_cons, Go.Sl.cnt_nil, List.set_cons_zero, List.set_cons_succ, List.length_nil, List.length_cons, Nat.zero_add, List.append]; omega)) (by repeat (first | exact True.intro | refine And.intro rfl ?_))
            · have hfz2 : fz = false := by rw [hfz, hc323, Bool.false_and]
              subst hfz2
              exact xw_joint ((aW, capW, cW) : Option Addr × Nat × Hp) hLW (by first | exact Go.Sl.Cov.refl _ | (intro p; simp only [List.flatten_cons, List.flatten_nil, List.flatten_append, List.append_nil, List.nil_append, Go.Sl.cnt_append, Go.Sl.cnt_cons, Go.Sl.cnt_nil, List.set_cons_zero, List.set_cons_succ, List.length_nil, List.length_cons, Nat.zero_add, List.append]; omega)) (by repeat (first | exact True.intro | refine And.intro rfl ?_))
        · obtain ⟨rfl, rfl, rfl⟩ : fin = true ∧ came = false ∧ said = false := by
            revert hcc
            cases fin <;> cases came <;> cases said <;> simp
          refine Go.Sl.cw_seq ?_
          refine Go.Sl.cw_region ?_
          refine Go.Sl.ow_val rfl rfl (Go.Sl.v_move rfl) ?_
          refine Go.Sl.ow_val rfl rfl (Go.Sl.v_gtr rfl rfl) ?_
          refine Go.Sl.ow_val rfl rfl (Go.Sl.v_move rfl) ?_
          refine Go.Sl.ow_dec 271 rfl (fun hc271 => ?_) (fun hc271 => ?_)
          rotate_left; (exfalso; omega); rotate_right
          refine Go.Sl.ow_val rfl rfl (Go.Sl.v_move rfl) ?_
          refine Go.Sl.ow_val rfl rfl (Go.Sl.v_geq rfl rfl) ?_
          refine Go.Sl.ow_val rfl rfl (Go.Sl.v_pick_true rfl rfl) ?_
          refine Go.Sl.ow_val rfl rfl (Go.Sl.v_move rfl) ?_
          refine Go.Sl.ow_skip rfl rfl ?_
          refine Go.Sl.ow_skip rfl rfl ?_
          refine Go.Sl.ow_skip rfl rfl ?_
          refine Go.Sl.ow_skip rfl rfl ?_
          refine Go.Sl.ow_val rfl rfl (Go.Sl.v_pick_false rfl rfl) ?_
          refine Go.Sl.ow_nil ?_
          refine Go.Sl.xw_then ?_
          refine Go.Sl.cw_false rfl ?_
          refine Go.Sl.cw_seq ?_
          refine Go.Sl.cw_region ?_
          refine Go.Sl.ow_val rfl rfl (Go.Sl.v_move rfl) ?_
          refine Go.Sl.ow_val rfl rfl (Go.Sl.v_gtr rfl rfl) ?_
          refine Go.Sl.ow_val rfl rfl (Go.Sl.v_move rfl) ?_
          refine Go.Sl.ow_dec 336 rfl (fun hc336 => ?_) (fun hc336 => ?_)
          rotate_left; (exfalso; omega); rotate_right
          refine Go.Sl.ow_val rfl rfl (Go.Sl.v_move rfl) ?_
          refine Go.Sl.ow_val rfl rfl (Go.Sl.v_lss rfl rfl) ?_
          refine Go.Sl.ow_val rfl rfl (Go.Sl.v_pick_true rfl rfl) ?_
          refine Go.Sl.ow_val rfl rfl (Go.Sl.v_move rfl) ?_
          refine Go.Sl.ow_dec 340 rfl (fun hc340 => ?_) (fun hc340 => ?_)
          rotate_left; (exfalso; omega); rotate_right
          refine Go.Sl.ow_val rfl rfl (Go.Sl.v_move rfl) ?_
          refine Go.Sl.ow_val rfl rfl (Go.Sl.v_pick_true rfl rfl) ?_
          refine Go.Sl.ow_val rfl rfl (Go.Sl.v_move rfl) ?_
          refine Go.Sl.ow_val rfl rfl (Go.Sl.v_move rfl) ?_
          refine Go.Sl.ow_val rfl rfl (Go.Sl.v_not_false rfl) ?_
          refine Go.Sl.ow_val rfl rfl (Go.Sl.v_pick_true rfl rfl) ?_
          refine Go.Sl.ow_val rfl rfl (Go.Sl.v_move rfl) ?_
          refine Go.Sl.ow_val rfl rfl (Go.Sl.v_move rfl) ?_
          refine Go.Sl.ow_val rfl rfl (Go.Sl.v_not_false rfl) ?_
          refine Go.Sl.ow_val rfl rfl (Go.Sl.v_pick_true rfl rfl) ?_
          refine Go.Sl.ow_nil ?_
          refine Go.Sl.xw_then ?_
          refine Go.Sl.cw_true rfl ?_
          refine Go.Sl.cw_region ?_
          refine Go.Sl.ow_val rfl rfl (Go.Sl.v_move rfl) ?_
          refine Go.Sl.ow_val rfl rfl (Go.Sl.v_len rfl Try.underlying98 rfl) ?_
          refine Go.Sl.ow_val rfl rfl (Go.Sl.v_convert Try.underlying3 Try.underlying23 rfl (Go.Sl.nw_u64 (by omega) (by omega))) ?_
          refine Go.Sl.ow_val rfl rfl (Go.Sl.v_build rfl (b_part2)) ?_
          refine Go.Sl.ow_val rfl rfl (Go.Sl.v_assign rfl) ?_
          refine Go.Sl.ow_storeE rfl (pTy) rfl rfl .here (by first | rfl | assumption) (okP _) ?_
          refine Go.Sl.ow_nil ?_
          exact xw_joint ((none, 0, []) : Option Addr × Nat × Hp) Ls.nil (by first | exact Go.Sl.Cov.refl _ | (intro p; simp only [List.flatten_cons, List.flatten_nil, List.flatten_append, List.append_nil, List.nil_append, Go.Sl.cnt_append, Go.Sl.cnt_cons, Go.Sl.cnt_nil, List.set_cons_zero, List.set_cons_succ, List.length_nil, List.length_cons, Nat.zero_add, List.append]; omega)) (by repeat (first | exact True.intro | refine And.intro rfl ?_))
        · refine Go.Sl.cw_seq ?_
          refine Go.Sl.cw_region ?_
          refine Go.Sl.ow_val rfl rfl (Go.Sl.v_move rfl) ?_
          refine Go.Sl.ow_val rfl rfl (Go.Sl.v_gtr rfl rfl) ?_
          refine Go.Sl.ow_val rfl rfl (Go.Sl.v_move rfl) ?_
          refine Go.Sl.ow_dec 271 rfl (fun hc271 => ?_) (fun hc271 => ?_)
          refine Go.Sl.ow_val rfl rfl (Go.Sl.v_move rfl) ?_
          refine Go.Sl.ow_val rfl rfl (Go.Sl.v_geq rfl rfl) ?_
          refine Go.Sl.ow_val rfl rfl (Go.Sl.v_pick_true rfl rfl) ?_
          refine Go.Sl.ow_val rfl rfl (Go.Sl.v_move rfl) ?_
          refine Go.Sl.ow_dec 275 rfl (fun hc275 => ?_) (fun hc275 => ?_)
          refine Go.Sl.ow_val rfl rfl (Go.Sl.v_move rfl) ?_
          refine Go.Sl.ow_val rfl rfl (Go.Sl.v_convert Try.underlying3 Try.underlying23 rfl (Go.Sl.nw_u64 (by omega) (by omega))) ?_
          refine Go.Sl.ow_val rfl rfl (Go.Sl.v_move rfl) ?_
          refine Go.Sl.ow_val rfl rfl (Go.Sl.v_lss rfl rfl) ?_
          refine Go.Sl.ow_val rfl rfl (Go.Sl.v_pick_true rfl rfl) ?_
          refine Go.Sl.ow_nil ?_
          refine Go.Sl.xw_then ?_
          refine Go.Sl.cw_dec rfl (fun hc280 => ?_) (fun hc280 => ?_)
          (exfalso; omega)
          refine Go.Sl.cw_seq ?_
          refine Go.Sl.cw_region ?_
          refine Go.Sl.ow_val rfl rfl (Go.Sl.v_move rfl) ?_
          refine Go.Sl.ow_val rfl rfl (Go.Sl.v_gtr rfl rfl) ?_
          refine Go.Sl.ow_val rfl rfl (Go.Sl.v_move rfl) ?_
          refine Go.Sl.ow_dec 336 rfl (fun hc336 => ?_) (fun hc336 => ?_)
          rotate_left; (exfalso; omega); rotate_right
          refine Go.Sl.ow_val rfl rfl (Go.Sl.v_move rfl) ?_
          refine Go.Sl.ow_val rfl rfl (Go.Sl.v_lss rfl rfl) ?_
          refine Go.Sl.ow_val rfl rfl (Go.Sl.v_pick_true rfl rfl) ?_
          refine Go.Sl.ow_val rfl rfl (Go.Sl.v_move rfl) ?_
          refine Go.Sl.ow_dec 340 rfl (fun hc340 => ?_) (fun hc340 => ?_)
          (exfalso; omega)
          refine Go.Sl.ow_skip rfl rfl ?_
          refine Go.Sl.ow_val rfl rfl (Go.Sl.v_pick_false rfl rfl) ?_
          refine Go.Sl.ow_val rfl rfl (Go.Sl.v_move rfl) ?_
          refine Go.Sl.ow_skip rfl rfl ?_
          refine Go.Sl.ow_skip rfl rfl ?_
          refine Go.Sl.ow_val rfl rfl (Go.Sl.v_pick_false rfl rfl) ?_
          refine Go.Sl.ow_val rfl rfl (Go.Sl.v_move rfl) ?_
          refine Go.Sl.ow_skip rfl rfl ?_
          refine Go.Sl.ow_skip rfl rfl ?_
          refine Go.Sl.ow_val rfl rfl (Go.Sl.v_pick_false rfl rfl) ?_
          refine Go.Sl.ow_nil ?_
          refine Go.Sl.xw_then ?_
          refine Go.Sl.cw_false rfl ?_
          refine Go.Sl.cw_skip ?_
          rotate_left
          refine Go.Sl.ow_skip rfl rfl ?_
          refine Go.Sl.ow_skip rfl rfl ?_
          refine Go.Sl.ow_skip rfl rfl ?_
          refine Go.Sl.ow_skip rfl rfl ?_
          refine Go.Sl.ow_val rfl rfl (Go.Sl.v_pick_false rfl rfl) ?_
          refine Go.Sl.ow_nil ?_
          refine Go.Sl.xw_then ?_
          refine Go.Sl.cw_false rfl ?_
          refine Go.Sl.cw_seq ?_
          refine Go.Sl.cw_region ?_
          refine Go.Sl.ow_val rfl rfl (Go.Sl.v_move rfl) ?_
          refine Go.Sl.ow_val rfl rfl (Go.Sl.v_gtr rfl rfl) ?_
          refine Go.Sl.ow_val rfl rfl (Go.Sl.v_move rfl) ?_
          refine Go.Sl.ow_dec 336 rfl (fun hc336 => ?_) (fun hc336 => ?_)
          rotate_left; (exfalso; omega); rotate_right
          refine Go.Sl.ow_val rfl rfl (Go.Sl.v_move rfl) ?_
          refine Go.Sl.ow_val rfl rfl (Go.Sl.v_lss rfl rfl) ?_
          refine Go.Sl.ow_val rfl rfl (Go.Sl.v_pick_true rfl rfl) ?_
          refine Go.Sl.ow_val rfl rfl (Go.Sl.v_move rfl) ?_
          refine Go.Sl.ow_dec 340 rfl (fun hc340 => ?_) (fun hc340 => ?_)
          rotate_left; (exfalso; omega); rotate_right
          refine Go.Sl.ow_val rfl rfl (Go.Sl.v_move rfl) ?_
          refine Go.Sl.ow_val rfl rfl (Go.Sl.v_pick_true rfl rfl) ?_
          refine Go.Sl.ow_val rfl rfl (Go.Sl.v_move rfl) ?_
          refine Go.Sl.ow_bool 343 rfl (fun hc343 => ?_) (fun hc343 => ?_)
          refine Go.Sl.ow_val rfl rfl (Go.Sl.v_move rfl) ?_
          refine Go.Sl.ow_val rfl rfl (Go.Sl.v_not_bool rfl) ?_
          refine Go.Sl.ow_val rfl rfl (Go.Sl.v_pick_true rfl rfl) ?_
          refine Go.Sl.ow_val rfl rfl (Go.Sl.v_move rfl) ?_
          refine Go.Sl.ow_bool 347 rfl (fun hc347 => ?_) (fun hc347 => ?_)
          refine Go.Sl.ow_val rfl rfl (Go.Sl.v_move rfl) ?_
          refine Go.Sl.ow_val rfl rfl (Go.Sl.v_not_bool rfl) ?_
          refine Go.Sl.ow_val rfl rfl (Go.Sl.v_pick_true rfl rfl) ?_
          refine Go.Sl.ow_nil ?_
          refine Go.Sl.xw_then ?_
          refine Go.Sl.cw_bool rfl (fun hc350 => ?_) (fun hc350 => ?_)
          refine Go.Sl.cw_region ?_
          refine Go.Sl.ow_val rfl rfl (Go.Sl.v_move rfl) ?_
          refine Go.Sl.ow_val rfl rfl (Go.Sl.v_len rfl Try.underlying98 rfl) ?_
          refine Go.Sl.ow_val rfl rfl (Go.Sl.v_convert Try.underlying3 Try.underlying23 rfl (Go.Sl.nw_u64 (by omega) (by omega))) ?_
          refine Go.Sl.ow_val rfl rfl (Go.Sl.v_build rfl (b_part2)) ?_
          refine Go.Sl.ow_val rfl rfl (Go.Sl.v_assign rfl) ?_
          refine Go.Sl.ow_storeE rfl (pTy) rfl rfl .here (by first | rfl | assumption) (okP _) ?_
          refine Go.Sl.ow_nil ?_
          rotate_left
          refine Go.Sl.cw_skip ?_
          rotate_left
          refine Go.Sl.ow_skip rfl rfl ?_
          refine Go.Sl.ow_skip rfl rfl ?_
          refine Go.Sl.ow_val rfl rfl (Go.Sl.v_pick_false rfl rfl) ?_
          refine Go.Sl.ow_nil ?_
          refine Go.Sl.xw_then ?_
          refine Go.Sl.cw_false rfl ?_
          refine Go.Sl.cw_skip ?_
          rotate_left
          refine Go.Sl.ow_skip rfl rfl ?_
          refine Go.Sl.ow_skip rfl rfl ?_
          refine Go.Sl.ow_val rfl rfl (Go.Sl.v_pick_false rfl rfl) ?_
          refine Go.Sl.ow_val rfl rfl (Go.Sl.v_move rfl) ?_
          refine Go.Sl.ow_skip rfl rfl ?_
          refine Go.Sl.ow_skip rfl rfl ?_
          refine Go.Sl.ow_val rfl rfl (Go.Sl.v_pick_false rfl rfl) ?_
          refine Go.Sl.ow_nil ?_
          refine Go.Sl.xw_then ?_
          refine Go.Sl.cw_false rfl ?_
          refine Go.Sl.cw_skip ?_
          rotate_left
          refine Go.Sl.ow_skip rfl rfl ?_
          refine Go.Sl.ow_skip rfl rfl ?_
          refine Go.Sl.ow_val rfl rfl (Go.Sl.v_pick_false rfl rfl) ?_
          refine Go.Sl.ow_val rfl rfl (Go.Sl.v_move rfl) ?_
          refine Go.Sl.ow_skip rfl rfl ?_
          refine Go.Sl.ow_skip rfl rfl ?_
          refine Go.Sl.ow_skip rfl rfl ?_
          refine Go.Sl.ow_skip rfl rfl ?_
          refine Go.Sl.ow_val rfl rfl (Go.Sl.v_pick_false rfl rfl) ?_
          refine Go.Sl.ow_nil ?_
          refine Go.Sl.xw_then ?_
          refine Go.Sl.cw_false rfl ?_
          refine Go.Sl.cw_seq ?_
          refine Go.Sl.cw_region ?_
          refine Go.Sl.ow_val rfl rfl (Go.Sl.v_move rfl) ?_
          refine Go.Sl.ow_val rfl rfl (Go.Sl.v_gtr rfl rfl) ?_
          refine Go.Sl.ow_val rfl rfl (Go.Sl.v_move rfl) ?_
          refine Go.Sl.ow_dec 336 rfl (fun hc336 => ?_) (fun hc336 => ?_)
          (exfalso; omega)
          refine Go.Sl.ow_skip rfl rfl ?_
          refine Go.Sl.ow_skip rfl rfl ?_
          refine Go.Sl.ow_val rfl rfl (Go.Sl.v_pick_false rfl rfl) ?_
          refine Go.Sl.ow_val rfl rfl (Go.Sl.v_move rfl) ?_
          refine Go.Sl.ow_skip rfl rfl ?_
          refine Go.Sl.ow_val rfl rfl (Go.Sl.v_pick_false rfl rfl) ?_
          refine Go.Sl.ow_val rfl rfl (Go.Sl.v_move rfl) ?_
          refine Go.Sl.ow_skip rfl rfl ?_
          refine Go.Sl.ow_skip rfl rfl ?_
          refine Go.Sl.ow_val rfl rfl (Go.Sl.v_pick_false rfl rfl) ?_
          refine Go.Sl.ow_val rfl rfl (Go.Sl.v_move rfl) ?_
          refine Go.Sl.ow_skip rfl rfl ?_
          refine Go.Sl.ow_skip rfl rfl ?_
          refine Go.Sl.ow_val rfl rfl (Go.Sl.v_pick_false rfl rfl) ?_
          refine Go.Sl.ow_nil ?_
          refine Go.Sl.xw_then ?_
          refine Go.Sl.cw_false rfl ?_
          refine Go.Sl.cw_skip ?_
          rotate_left
          · exact xw_joint ((none, 0, []) : Option Addr × Nat × Hp) Ls.nil (by first | exact Go.Sl.Cov.refl _ | (intro p; simp only [List.flatten_cons, List.flatten_nil, List.flatten_append, List.append_nil, List.nil_append, Go.Sl.cnt_append, Go.Sl.cnt_cons, Go.Sl.cnt_nil, List.set_cons_zero, List.set_cons_succ, List.length_nil, List.length_cons, Nat.zero_add, List.append]; omega)) (by repeat (first | exact True.intro | refine And.intro rfl ?_))
          · refine (hn2 ⟨hc336, hc340, ?_⟩).elim
            rw [hc343, hc347, hc350]
            rfl
          · exact xw_joint ((none, 0, []) : Option Addr × Nat × Hp) Ls.nil (by first | exact Go.Sl.Cov.refl _ | (intro p; simp only [List.flatten_cons, List.flatten_nil, List.flatten_append, List.append_nil, List.nil_append, Go.Sl.cnt_append, Go.Sl.cnt_cons, Go.Sl.cnt_nil, List.set_cons_zero, List.set_cons_succ, List.length_nil, List.length_cons, Nat.zero_add, List.append]; omega)) (by repeat (first | exact True.intro | refine And.intro rfl ?_))
          · exact xw_joint ((none, 0, []) : Option Addr × Nat × Hp) Ls.nil (by first | exact Go.Sl.Cov.refl _ | (intro p; simp only [List.flatten_cons, List.flatten_nil, List.flatten_append, List.append_nil, List.nil_append, Go.Sl.cnt_append, Go.Sl.cnt_cons, Go.Sl.cnt_nil, List.set_cons_zero, List.set_cons_succ, List.length_nil, List.length_cons, Nat.zero_add, List.append]; omega)) (by repeat (first | exact True.intro | refine And.intro rfl ?_))
          · exact xw_joint ((none, 0, []) : Option Addr × Nat × Hp) Ls.nil (by first | exact Go.Sl.Cov.refl _ | (intro p; simp only [List.flatten_cons, List.flatten_nil, List.flatten_append, List.append_nil, List.nil_append, Go.Sl.cnt_append, Go.Sl.cnt_cons, Go.Sl.cnt_nil, List.set_cons_zero, List.set_cons_succ, List.length_nil, List.length_cons, Nat.zero_add, List.append]; omega)) (by repeat (first | exact True.intro | refine And.intro rfl ?_))
          · exact xw_joint ((none, 0, []) : Option Addr × Nat × Hp) Ls.nil (by first | exact Go.Sl.Cov.refl _ | (intro p; simp only [List.flatten_cons, List.flatten_nil, List.flatten_append, List.append_nil, List.nil_append, Go.Sl.cnt_append, Go.Sl.cnt_cons, Go.Sl.cnt_nil, List.set_cons_zero, List.set_cons_succ, List.length_nil, List.length_cons, Nat.zero_add, List.append]; omega)) (by repeat (first | exact True.intro | refine And.intro rfl ?_))
      rintro ⟨aoW, capW, cW⟩ hLW
      dsimp only at hLW ⊢
      refine Go.Sl.cw_seq ?_
      refine Go.Sl.cw_seq ?_
      refine Go.Sl.cw_region ?_
      refine Go.Sl.ow_val rfl rfl (Go.Sl.v_move rfl) ?_
      refine Go.Sl.ow_val rfl rfl (Go.Sl.v_move rfl) ?_
      refine Go.Sl.ow_val rfl rfl (Go.Sl.v_neqB Try.underlying4 rfl rfl) ?_
      refine Go.Sl.ow_val rfl rfl (Go.Sl.v_move rfl) ?_
      refine Go.Sl.ow_dec 358 rfl (fun hc358 => ?_) (fun hc358 => ?_)
      refine Go.Sl.ow_skip rfl rfl ?_
      refine Go.Sl.ow_skip rfl rfl ?_
      refine Go.Sl.ow_skip rfl rfl ?_
      refine Go.Sl.ow_skip rfl rfl ?_
      refine Go.Sl.ow_skip rfl rfl ?_
      refine Go.Sl.ow_val rfl rfl (Go.Sl.v_pick_true rfl rfl) ?_
      refine Go.Sl.ow_val rfl rfl (Go.Sl.v_move rfl) ?_
      refine Go.Sl.ow_skip rfl rfl ?_
      refine Go.Sl.ow_skip rfl rfl ?_
      refine Go.Sl.ow_skip rfl rfl ?_
      refine Go.Sl.ow_skip rfl rfl ?_
      refine Go.Sl.ow_skip rfl rfl ?_
      refine Go.Sl.ow_skip rfl rfl ?_
      refine Go.Sl.ow_skip rfl rfl ?_
      refine Go.Sl.ow_val rfl rfl (Go.Sl.v_pick_true rfl rfl) ?_
      refine Go.Sl.ow_val rfl rfl (Go.Sl.v_move rfl) ?_
      refine Go.Sl.ow_skip rfl rfl ?_
      refine Go.Sl.ow_skip rfl rfl ?_
      refine Go.Sl.ow_skip rfl rfl ?_
      refine Go.Sl.ow_skip rfl rfl ?_
      refine Go.Sl.ow_skip rfl rfl ?_
      refine Go.Sl.ow_val rfl rfl (Go.Sl.v_pick_true rfl rfl) ?_
      refine Go.Sl.ow_nil ?_
      refine Go.Sl.xw_then ?_
      refine Go.Sl.cw_true rfl ?_
      refine Go.Sl.cw_seq ?_
      refine Go.Sl.cw_region ?_
      refine Go.Sl.ow_val rfl rfl (Go.Sl.v_assign rfl) ?_
      refine Go.Sl.ow_nil ?_
      refine Go.Sl.xw_then ?_
      refine Go.Sl.cw_ret ?_
      refine Go.Sl.xw_then_ret ?_
      refine Go.Sl.xw_block_ret ?_
      refine Go.Sl.xw_joint_ret ?_
      refine Go.Sl.xw_block_ret ?_
      refine Go.Sl.xw_then_ret ?_
      refine Go.Sl.xw_round_ret ?_
      refine Go.Sl.xw_block_ret ?_
      refine Go.Sl.xw_then_ret ?_
      refine Go.Sl.ret1 rfl (Go.Sl.res_tmp rfl) ?_
      rotate_left
      refine Go.Sl.ow_val rfl rfl (Go.Sl.v_fieldAddr0 Ty.fd64_0 rfl) ?_
      refine Go.Sl.ow_val rfl rfl (Go.Sl.v_load rfl (Go.Sl.Var.at1 Ty.sc23 (.there (.there .here)) (Go.Sl.GetN.lit rfl))) ?_
      refine Go.Sl.ow_val rfl rfl (Go.Sl.v_fieldAddr0 Ty.fd64_0 rfl) ?_
      refine Go.Sl.ow_val rfl rfl (Go.Sl.v_load rfl (Go.Sl.Var.at1 Ty.sc23 .here (Go.Sl.GetN.lit rfl))) ?_
      refine Go.Sl.ow_val rfl rfl (Go.Sl.v_neq rfl rfl) ?_
      refine Go.Sl.ow_val rfl rfl (Go.Sl.v_pick_false rfl rfl) ?_
      refine Go.Sl.ow_val rfl rfl (Go.Sl.v_move rfl) ?_
      refine Go.Sl.ow_dec 365 rfl (fun hc365 => ?_) (fun hc365 => ?_)
      (exfalso; omega)
      refine Go.Sl.ow_val rfl rfl (Go.Sl.v_fieldAddr0 Ty.fd64_1 rfl) ?_
      refine Go.Sl.ow_val rfl rfl (Go.Sl.v_load rfl (Go.Sl.Var.at1 Ty.sc57 (.there (.there .here)) (Go.Sl.GetN.lit rfl))) ?_
      refine Go.Sl.ow_val rfl rfl (Go.Sl.v_str Try.underlying9 Try.underlying57 Try.underlying5 rfl ((Ls.vw hq266 (by repeat (first | exact Go.Sl.Sub.here | assumption | refine Go.Sl.Sub.there ?_))))) ?_
      refine Go.Sl.ow_val rfl rfl (Go.Sl.v_fieldAddr0 Ty.fd64_1 rfl) ?_
      refine Go.Sl.ow_val rfl rfl (Go.Sl.v_load rfl (Go.Sl.Var.at1 Ty.sc57 .here (Go.Sl.GetN.lit rfl))) ?_
      refine Go.Sl.ow_val rfl rfl (Go.Sl.v_str Try.underlying9 Try.underlying57 Try.underlying5 rfl ((Ls.vw hLW (by repeat (first | exact Go.Sl.Sub.here | assumption | refine Go.Sl.Sub.there ?_))))) ?_
      refine Go.Sl.ow_val rfl rfl (Go.Sl.v_neqS rfl rfl) ?_
      refine Go.Sl.ow_val rfl rfl (Go.Sl.v_pick_false rfl rfl) ?_
      refine Go.Sl.ow_val rfl rfl (Go.Sl.v_move rfl) ?_
      refine Go.Sl.ow_dec 374 rfl (fun hc374 => ?_) (fun hc374 => ?_)
      refine Go.Sl.ow_skip rfl rfl ?_
      refine Go.Sl.ow_skip rfl rfl ?_
      refine Go.Sl.ow_skip rfl rfl ?_
      refine Go.Sl.ow_skip rfl rfl ?_
      refine Go.Sl.ow_skip rfl rfl ?_
      refine Go.Sl.ow_val rfl rfl (Go.Sl.v_pick_true rfl rfl) ?_
      refine Go.Sl.ow_nil ?_
      refine Go.Sl.xw_then ?_
      refine Go.Sl.cw_true rfl ?_
      refine Go.Sl.cw_seq ?_
      refine Go.Sl.cw_region ?_
      refine Go.Sl.ow_val rfl rfl (Go.Sl.v_assign rfl) ?_
      refine Go.Sl.ow_nil ?_
      refine Go.Sl.xw_then ?_
      refine Go.Sl.cw_ret ?_
      refine Go.Sl.xw_then_ret ?_
      refine Go.Sl.xw_block_ret ?_
      refine Go.Sl.xw_joint_ret ?_
      refine Go.Sl.xw_block_ret ?_
      refine Go.Sl.xw_then_ret ?_
      refine Go.Sl.xw_round_ret ?_
      refine Go.Sl.xw_block_ret ?_
      refine Go.Sl.xw_then_ret ?_
      refine Go.Sl.ret1 rfl (Go.Sl.res_tmp rfl) ?_
      rotate_left
      refine Go.Sl.ow_val rfl rfl (Go.Sl.v_fieldAddr0 Ty.fd64_2 rfl) ?_
      refine Go.Sl.ow_val rfl rfl (Go.Sl.v_load rfl (Go.Sl.Var.at1 Ty.sc4 (.there (.there .here)) (Go.Sl.GetN.lit rfl))) ?_
      refine Go.Sl.ow_val rfl rfl (Go.Sl.v_fieldAddr0 Ty.fd64_2 rfl) ?_
      refine Go.Sl.ow_val rfl rfl (Go.Sl.v_load rfl (Go.Sl.Var.at1 Ty.sc4 .here (Go.Sl.GetN.lit rfl))) ?_
      refine Go.Sl.ow_val rfl rfl (Go.Sl.v_neqB Try.underlying4 rfl rfl) ?_
      refine Go.Sl.ow_val rfl rfl (Go.Sl.v_pick_false rfl rfl) ?_
      refine Go.Sl.ow_nil ?_
      refine Go.Sl.xw_then ?_
      refine Go.Sl.cw_dec rfl (fun hc380 => ?_) (fun hc380 => ?_)
      refine Go.Sl.cw_seq ?_
      refine Go.Sl.cw_region ?_
      refine Go.Sl.ow_val rfl rfl (Go.Sl.v_assign rfl) ?_
      refine Go.Sl.ow_nil ?_
      refine Go.Sl.xw_then ?_
      refine Go.Sl.cw_ret ?_
      refine Go.Sl.xw_then_ret ?_
      refine Go.Sl.xw_block_ret ?_
      refine Go.Sl.xw_joint_ret ?_
      refine Go.Sl.xw_block_ret ?_
      refine Go.Sl.xw_then_ret ?_
      refine Go.Sl.xw_round_ret ?_
      refine Go.Sl.xw_block_ret ?_
      refine Go.Sl.xw_then_ret ?_
      refine Go.Sl.ret1 rfl (Go.Sl.res_tmp rfl) ?_
      rotate_left
      refine Go.Sl.cw_skip ?_
      refine Go.Sl.xw_then ?_
      rotate_left
      · exact (hc358 rfl).elim
      · exact (hc374 rfl).elim
      · exact (hc380 rfl).elim
      have hsn : ∀ {G : List Hp} {R : Hp → List Hp}, Sel G c R → Go.Sl.Fn Try.prog 40 #[.pointer (some ⟨x44.1, 0, none⟩), enP.val ⟨A, aoP, l.length, capP, fz⟩] B w0 G fun u G' => ∃ c' : Hp, u = .tuple #[] ∧ OutAt (m.sent A l.length fz) x44.1 c' ∧ G' = R c' := fun hs => outSent_c (p := ⟨A, aoP, l.length, capP, fz⟩) hs hO hw (by dsimp only; omega) (by dsimp only; omega)
      have hRs := hR.sent (a := A) (n := l.length) (f := fz) hpe hff
      refine Go.Sl.cw_seq ?_
      refine Go.Sl.cw_region ?_
      refine Go.Sl.ow_val rfl rfl (Go.Sl.v_move rfl) ?_
      refine Go.Sl.ow_val rfl rfl (Go.Sl.v_move rfl) ?_
      refine Go.Sl.ow_bool 382 rfl (fun hc382 => ?_) (fun hc382 => ?_)
      refine Go.Sl.ow_val rfl rfl (Go.Sl.v_fieldAddr0 Ty.fd101_2 rfl) ?_
      refine Go.Sl.ow_val rfl rfl (Go.Sl.v_load rfl (Go.Sl.Var.at1 Ty.sc5 (.there (.there (.there (.there .here)))) (Go.Sl.GetN.lit rfl))) ?_
      refine Go.Sl.ow_val rfl rfl (Go.Sl.v_rem rfl rfl (by decide)) ?_
      refine Go.Sl.ow_val rfl rfl (Go.Sl.v_eql rfl rfl) ?_
      refine Go.Sl.ow_val rfl rfl (Go.Sl.v_pick_true rfl rfl) ?_
      refine Go.Sl.ow_nil ?_
      refine Go.Sl.xw_then ?_
      refine Go.Sl.cw_dec rfl (fun hc387 => ?_) (fun hc387 => ?_)
      refine Go.Sl.cw_seq ?_
      refine Go.Sl.cw_region ?_
      refine Go.Sl.ow_val rfl rfl (Go.Sl.v_move rfl) ?_
      refine Go.Sl.ow_val rfl rfl (Go.Sl.v_load rfl (Go.Sl.Var.atN Ty.ag64 (.there (.there .here)) Go.Sl.GetN.all (by first | rfl | assumption))) ?_
      (refine Go.Sl.ow_call rfl rfl rfl rfl (hsn (by repeat (first | exact Go.Sl.Sel.here | apply Go.Sl.Sel.there))) ?_; rintro _ _ ⟨x390, rfl, hq390, rfl⟩)
      refine Go.Sl.ow_nil ?_
      refine Go.Sl.xw_then ?_
      rotate_left
      refine Go.Sl.cw_skip ?_
      refine Go.Sl.xw_block ?_
      rotate_left
      refine Go.Sl.ow_skip rfl rfl ?_
      refine Go.Sl.ow_skip rfl rfl ?_
      refine Go.Sl.ow_skip rfl rfl ?_
      refine Go.Sl.ow_skip rfl rfl ?_
      refine Go.Sl.ow_val rfl rfl (Go.Sl.v_pick_false rfl rfl) ?_
      refine Go.Sl.ow_nil ?_
      refine Go.Sl.xw_then ?_
      refine Go.Sl.cw_false rfl ?_
      refine Go.Sl.cw_skip ?_
      refine Go.Sl.xw_block ?_
      rotate_left
      rotate_left
      · exact xw_joint (⟨i + 1, m, c, M, ao, cap, cM, S, ao2, cap2, cS, fin, said, came⟩ : Ix) ⟨hR, hO, hL, hLS, by dsimp only; omega, by dsimp only; omega, hSo⟩ (by first | exact Go.Sl.Cov.refl _ | (intro p; simp only [List.flatten_cons, List.flatten_nil, List.flatten_append, List.append_nil, List.nil_append, Go.Sl.cnt_append, Go.Sl.cnt_cons, Go.Sl.cnt_nil, List.set_cons_zero, List.set_cons_succ, List.length_nil, List.length_cons, Nat.zero_add, List.append]; omega)) (by repeat (first | exact True.intro | refine And.intro rfl ?_))
      · exact xw_joint (⟨i + 1, m, c, M, ao, cap, cM, S, ao2, cap2, cS, fin, said, came⟩ : Ix) ⟨hR, hO, hL, hLS, by dsimp only; omega, by dsimp only; omega, hSo⟩ (by first | exact Go.Sl.Cov.refl _ | (intro p; simp only [List.flatten_cons, List.flatten_nil, List.flatten_append, List.append_nil, List.nil_append, Go.Sl.cnt_append, Go.Sl.cnt_cons, Go.Sl.cnt_nil, List.set_cons_zero, List.set_cons_succ, List.length_nil, List.length_cons, Nat.zero_add, List.append]; omega)) (by repeat (first | exact True.intro | refine And.intro rfl ?_))
      refine Go.Sl.cw_cut2 (ι := (Hp)) [(0, _), (3, _), (4, _), (5, _), (6, _), (7, _), (8, _), (21, _), (45, _), (46, _), (47, _)] ⟨rfl, rfl, rfl, rfl, rfl, rfl, rfl, rfl, rfl, rfl, rfl, trivial⟩ ((fun _ => [])) ((fun x => Ls enPl 103 (.slice ao M.length cap) x (mark M A l.length sentPl))) ((fun x => x390 :: x :: [(b21, .cells [Value.int .u64 A, .slice aoP l.length capP, .bool fz].toArray 64 (0, 0))] :: cP :: cS :: F)) ?_ ?_
      · refine Go.Sl.cw_seq ?_
        refine Go.Sl.cw_region ?_
        refine Go.Sl.ow_val rfl rfl (Go.Sl.v_fieldAddr0 Ty.fd64_1 rfl) ?_
        refine Go.Sl.ow_val rfl rfl (Go.Sl.v_load rfl (Go.Sl.Var.at1 Ty.sc57 (.there (.there .here)) (Go.Sl.GetN.lit rfl))) ?_
        refine Go.Sl.ow_val rfl rfl (Go.Sl.v_len rfl Try.underlying57 rfl) ?_
        refine Go.Sl.ow_val rfl rfl (Go.Sl.v_move rfl) ?_
        refine Go.Sl.ow_nil ?_
        refine Go.Sl.xw_then ?_
        refine Go.Sl.cw_block ?_
        refine Go.Sl.cw_loop2 (ι := ((Nat × Hp))) [(0, _), (3, _), (4, _), (5, _), (6, _), (7, _), (8, _), (21, _), (45, _), (46, _), (47, _), (393, _)] ⟨rfl, rfl, rfl, rfl, rfl, rfl, rfl, rfl, rfl, rfl, rfl, rfl, trivial⟩ ((fun x => [(394, .int .i64 x.1)])) ((fun x => x.1 ≤ l.length ∧ Ls enPl 103 (.slice ao M.length cap) x.2 (mark M A x.1 sentPl))) ((fun x => l.length - x.1)) ((fun x => x390 :: x.2 :: [(b21, .cells [Value.int .u64 A, .slice aoP l.length capP, .bool fz].toArray 64 (0, 0))] :: cP :: cS :: F)) (((0, cM) : Nat × Hp)) (by repeat (first | exact True.intro | refine And.intro rfl ?_)) (by first | exact Go.Sl.Cov.refl _ | (intro p; simp only [List.flatten_cons, List.flatten_nil, List.flatten_append, List.append_nil, List.nil_append, Go.Sl.cnt_append, Go.Sl.cnt_cons, Go.Sl.cnt_nil, List.set_cons_zero, List.set_cons_succ, List.length_nil, List.length_cons, Nat.zero_add, List.append]; omega)) ?_ ?_
        · exact ⟨Nat.zero_le _, by rw [mark_zero]; exact hL⟩
        rintro ⟨j, cj⟩ ⟨hj, hLj⟩
        dsimp only at hj hLj ⊢
        have hmj : (mark M A j sentPl).length = M.length := mark_len
        refine Go.Sl.cw_seq ?_
        refine Go.Sl.cw_region ?_
        refine Go.Sl.ow_val rfl rfl (Go.Sl.v_lss rfl rfl) ?_
        refine Go.Sl.ow_nil ?_
        refine Go.Sl.xw_then ?_
        refine Go.Sl.cw_seq ?_
        refine Go.Sl.cw_dec rfl (fun hc395 => ?_) (fun hc395 => ?_)
        refine Go.Sl.cw_skip ?_
        refine Go.Sl.xw_then ?_
        refine Go.Sl.cw_seq ?_
        refine Go.Sl.cw_block ?_
        refine Go.Sl.cw_seq ?_
        refine Go.Sl.cw_region ?_
        refine Go.Sl.ow_val rfl rfl (Go.Sl.v_move rfl) ?_
        refine Go.Sl.ow_val rfl rfl (Go.Sl.v_assign rfl) ?_
        refine Go.Sl.ow_nil ?_
        refine Go.Sl.xw_then ?_
        refine Go.Sl.cw_region ?_
        refine Go.Sl.ow_val rfl rfl (Go.Sl.v_move rfl) ?_
        refine Go.Sl.ow_val rfl rfl (Go.Sl.v_fieldAddr0 Ty.fd64_0 rfl) ?_
        refine Go.Sl.ow_val rfl rfl (Go.Sl.v_load rfl (Go.Sl.Var.at1 Ty.sc23 (.there (.there .here)) (Go.Sl.GetN.lit rfl))) ?_
        refine Go.Sl.ow_val rfl rfl (Go.Sl.v_convert Try.underlying23 Try.underlying3 rfl (Go.Sl.nw_i64 (by omega) (by omega))) ?_
        refine Go.Sl.ow_val rfl rfl (Go.Sl.v_move rfl) ?_
        refine Go.Sl.ow_val rfl rfl (Go.Sl.v_add rfl rfl (Go.Sl.nw_i64 (by omega) (by omega))) ?_
        refine Go.Sl.ow_val rfl rfl (Go.Sl.v_indexAddr_ls Try.underlying98 (plTy) rfl rfl (by assumption) rfl (by omega)) ?_
        refine Go.Sl.ow_val rfl rfl (Go.Sl.v_fieldAddr Ty.fd103_1 rfl) ?_
        rotate_left
        refine Go.Sl.cw_exit ?_
        refine Go.Sl.xw_then_exit ?_
        refine Go.Sl.xw_round_exit ?_
        refine Go.Sl.xw_block_exit ?_
        rotate_left
        · have hx : ((A : Int) + j).toNat < (mark M A j sentPl).length := by omega
          refine ow_storeLf (i := ((A : Int) + j).toNat) (k := 1) (a := sentPl ((mark M A j sentPl)[((A : Int) + j).toNat])) rfl rfl rfl Ty.sc5 rfl plTy hLj (by repeat (first | exact Go.Sl.Sel.here | apply Go.Sl.Sel.there)) hx (by show 1 < 2; decide) ⟨by simp [sentPl], by simp [sentPl]⟩ rfl ?_
          intro c2 hL2
          have hst : (mark M A j sentPl).set ((A : Int) + j).toNat (sentPl ((mark M A j sentPl)[((A : Int) + j).toNat])) = mark M A (j + 1) sentPl := by
            have h := mark_step (M := M) (a := A) (j := j) (g := sentPl) (by omega)
            rw [← h]
            congr 1
            congr 1
            rw [← mark_at (M := M) (a := A) (j := j) (g := sentPl) (by omega)]
            congr 1
          rw [hst] at hL2
          refine Go.Sl.ow_nil ?_
          refine Go.Sl.xw_block ?_
          refine Go.Sl.xw_then ?_
          refine Go.Sl.cw_region ?_
          refine Go.Sl.ow_val rfl rfl (Go.Sl.v_add rfl rfl (Go.Sl.nw_i64 (by omega) (by omega))) ?_
          refine Go.Sl.ow_val rfl rfl (Go.Sl.v_move rfl) ?_
          refine Go.Sl.ow_nil ?_
          exact xw_round (j + 1, c2) ⟨by omega, hL2⟩ (by dsimp only; omega) (by first | exact Go.Sl.Cov.refl _ | (intro p; simp only [List.flatten_cons, List.flatten_nil, List.flatten_append, List.append_nil, List.nil_append, Go.Sl.cnt_append, Go.Sl.cnt_cons, Go.Sl.cnt_nil, List.set_cons_zero, List.set_cons_succ, List.length_nil, List.length_cons, Nat.zero_add, List.append]; omega)) (by repeat (first | exact True.intro | refine And.intro rfl ?_))
        · have : j = l.length := by omega
          subst this
          exact xw_joint cj hLj (by first | exact Go.Sl.Cov.refl _ | (intro p; simp only [List.flatten_cons, List.flatten_nil, List.flatten_append, List.append_nil, List.nil_append, Go.Sl.cnt_append, Go.Sl.cnt_cons, Go.Sl.cnt_nil, List.set_cons_zero, List.set_cons_succ, List.length_nil, List.length_cons, Nat.zero_add, List.append]; omega)) (by repeat (first | exact True.intro | refine And.intro rfl ?_))
      rintro cM2 hL2
      have hokp : enP.ok ⟨A, aoP, l.length, capP, fz⟩ := okP _
      have hSn : ∀ p ∈ S ++ [(⟨A, aoP, l.length, capP, fz⟩ : PartV)], (0 ≤ p.at_ ∧ p.at_ ≤ 18446744073709551615) ∧ p.n ≤ 20 := fun p hp => by
        rcases List.mem_append.1 hp with h | h
        · exact hSo p h
        · obtain rfl : p = ⟨A, aoP, l.length, capP, fz⟩ := by simpa using h
          exact ⟨⟨by dsimp only; omega, by dsimp only; omega⟩, hl20⟩
      refine Go.Sl.cw_seq ?_
      refine Go.Sl.cw_region ?_
      refine Go.Sl.ow_val rfl rfl (Go.Sl.v_move rfl) ?_
      refine Go.Sl.ow_val rfl rfl (Go.Sl.v_move rfl) ?_
      refine Go.Sl.ow_bool 407 rfl (fun hc407 => ?_) (fun hc407 => ?_)
      refine Go.Sl.ow_skip rfl rfl ?_
      refine Go.Sl.ow_skip rfl rfl ?_
      refine Go.Sl.ow_val rfl rfl (Go.Sl.v_pick_true rfl rfl) ?_
      refine Go.Sl.ow_val rfl rfl (Go.Sl.v_assign rfl) ?_
      refine Go.Sl.ow_nil ?_
      refine Go.Sl.xw_then ?_
      refine Go.Sl.cw_region ?_
      refine Go.Sl.ow_val rfl rfl (Go.Sl.v_move rfl) ?_
      refine Go.Sl.ow_val rfl rfl (Go.Sl.v_load rfl (Go.Sl.Var.atN Ty.ag64 (.there (.there .here)) Go.Sl.GetN.all (by first | rfl | assumption))) ?_
      (refine Go.Sl.ow_buildL (es := [((⟨A, aoP, l.length, capP, fz⟩ : PartV))]) rfl rfl Try.underlying99 Ty.em99 (pTy) rfl rfl (by simp [*]) (by simp only [List.length_cons, List.length_nil]; decide) ?_; intro ao413 c413 hL413)
      (refine Go.Sl.ow_appendL rfl rfl Try.underlying99 Try.underlying99 Ty.em99 (pTy) rfl rfl (by assumption) (by repeat (first | exact Go.Sl.Sel.here | apply Go.Sl.Sel.there)) (Go.Sl.Ls.vw (by assumption) (by repeat (first | exact Go.Sl.Sub.here | assumption | refine Go.Sl.Sub.there ?_))) (by first | omega | (simp only [List.length_append, List.length_take, List.length_drop, List.length_nil, List.length_cons]; omega)) (by first | omega | (simp only [List.length_append, List.length_take, List.length_drop, List.length_nil, List.length_cons]; omega)) ?_; intro ao414 cap414 c414 hL414)
      refine Go.Sl.ow_val rfl rfl (Go.Sl.v_assign rfl) ?_
      refine Go.Sl.ow_nil ?_
      refine Go.Sl.xw_block ?_
      rotate_left
      refine Go.Sl.ow_val rfl rfl (Go.Sl.v_fieldAddr0 Ty.fd64_2 rfl) ?_
      refine Go.Sl.ow_val rfl rfl (Go.Sl.v_load rfl (Go.Sl.Var.at1 Ty.sc4 (.there (.there .here)) (Go.Sl.GetN.lit rfl))) ?_
      refine Go.Sl.ow_val rfl rfl (Go.Sl.v_pick_false rfl rfl) ?_
      refine Go.Sl.ow_val rfl rfl (Go.Sl.v_assign rfl) ?_
      refine Go.Sl.ow_nil ?_
      refine Go.Sl.xw_then ?_
      refine Go.Sl.cw_region ?_
      refine Go.Sl.ow_val rfl rfl (Go.Sl.v_move rfl) ?_
      refine Go.Sl.ow_val rfl rfl (Go.Sl.v_load rfl (Go.Sl.Var.atN Ty.ag64 (.there (.there .here)) Go.Sl.GetN.all (by first | rfl | assumption))) ?_
      (refine Go.Sl.ow_buildL (es := [((⟨A, aoP, l.length, capP, fz⟩ : PartV))]) rfl rfl Try.underlying99 Ty.em99 (pTy) rfl rfl (by simp [*]) (by simp only [List.length_cons, List.length_nil]; decide) ?_; intro ao413 c413 hL413)
      (refine Go.Sl.ow_appendL rfl rfl Try.underlying99 Try.underlying99 Ty.em99 (pTy) rfl rfl (by assumption) (by repeat (first | exact Go.Sl.Sel.here | apply Go.Sl.Sel.there)) (Go.Sl.Ls.vw (by assumption) (by repeat (first | exact Go.Sl.Sub.here | assumption | refine Go.Sl.Sub.there ?_))) (by first | omega | (simp only [List.length_append, List.length_take, List.length_drop, List.length_nil, List.length_cons]; omega)) (by first | omega | (simp only [List.length_append, List.length_take, List.length_drop, List.length_nil, List.length_cons]; omega)) ?_; intro ao414 cap414 c414 hL414)
      refine Go.Sl.ow_val rfl rfl (Go.Sl.v_assign rfl) ?_
      refine Go.Sl.ow_nil ?_
      refine Go.Sl.xw_block ?_
      rotate_left
      · exact xw_joint (⟨i + 1, m.sent A l.length fz, x390, mark M A l.length sentPl, ao, cap, cM2, S ++ [⟨A, aoP, l.length, capP, fz⟩], ao414, cap414, c414, fin, said || fz, came⟩ : Ix) ⟨hRs, hq390, by dsimp only; rw [mark_len]; exact hL2, hL414, by dsimp only; rw [mark_len]; omega, by dsimp only; rw [List.length_append]; show S.length + 1 ≤ i + 1; omega, hSn⟩ (by first | exact Go.Sl.Cov.refl _ | (intro p; simp only [List.flatten_cons, List.flatten_nil, List.flatten_append, List.append_nil, List.nil_append, Go.Sl.cnt_append, Go.Sl.cnt_cons, Go.Sl.cnt_nil, List.set_cons_zero, List.set_cons_succ, List.length_nil, List.length_cons, Nat.zero_add, List.append]; omega)) ⟨congrArg (fun z => some (Value.slice ao z cap)) (mark_len (M := M)).symm, rfl, rfl, by rw [hc407]; rfl, rfl, (by repeat (first | exact True.intro | refine And.intro rfl ?_))⟩
      · exact xw_joint (⟨i + 1, m.sent A l.length fz, x390, mark M A l.length sentPl, ao, cap, cM2, S ++ [⟨A, aoP, l.length, capP, fz⟩], ao414, cap414, c414, fin, said || fz, came⟩ : Ix) ⟨hRs, hq390, by dsimp only; rw [mark_len]; exact hL2, hL414, by dsimp only; rw [mark_len]; omega, by dsimp only; rw [List.length_append]; show S.length + 1 ≤ i + 1; omega, hSn⟩ (by first | exact Go.Sl.Cov.refl _ | (intro p; simp only [List.flatten_cons, List.flatten_nil, List.flatten_append, List.append_nil, List.nil_append, Go.Sl.cnt_append, Go.Sl.cnt_cons, Go.Sl.cnt_nil, List.set_cons_zero, List.set_cons_succ, List.length_nil, List.length_cons, Nat.zero_add, List.append]; omega)) ⟨congrArg (fun z => some (Value.slice ao z cap)) (mark_len (M := M)).symm, rfl, rfl, by rw [hc407]; rfl, rfl, (by repeat (first | exact True.intro | refine And.intro rfl ?_))⟩
    ·
      refine Go.Sl.cw_seq ?_
      refine Go.Sl.cw_seq ?_
      refine Go.Sl.cw_region ?_
      refine Go.Sl.ow_val rfl rfl (Go.Sl.v_move rfl) ?_
      refine Go.Sl.ow_val rfl rfl (Go.Sl.v_len rfl Try.underlying99 rfl) ?_
      refine Go.Sl.ow_val rfl rfl (Go.Sl.v_eql rfl rfl) ?_
      refine Go.Sl.ow_nil ?_
      refine Go.Sl.xw_then ?_
      refine Go.Sl.cw_dec rfl (fun hc75 => ?_) (fun hc75 => ?_)
      refine Go.Sl.cw_exit ?_
      refine Go.Sl.xw_then_exit ?_
      refine Go.Sl.xw_block_exit ?_
      rotate_left
      refine Go.Sl.cw_skip ?_
      refine Go.Sl.xw_then ?_
      rotate_left
      · exact xw_joint (⟨i + 1, m, c, M, ao, cap, cM, S, ao2, cap2, cS, fin, said, came⟩ : Ix) ⟨hR, hO, hL, hLS, by dsimp only; omega, by dsimp only; omega, hSo⟩ (by first | exact Go.Sl.Cov.refl _ | (intro p; simp only [List.flatten_cons, List.flatten_nil, List.flatten_append, List.append_nil, List.nil_append, Go.Sl.cnt_append, Go.Sl.cnt_cons, Go.Sl.cnt_nil, List.set_cons_zero, List.set_cons_succ, List.length_nil, List.length_cons, Nat.zero_add, List.append]; omega)) (by repeat (first | exact True.intro | refine And.intro rfl ?_))
      have htm := tmodB (k := a.n) (n := (S.length : Int)) hao.n.1 (by omega)
      have hpS : (a.n.tmod S.length).toNat < S.length := by omega
      have hpk := hLS.ok _ (List.getElem_mem hpS)
      have hp3 := pTy.len _ hpk
      have hp4 := pTy.one _ hpk
      have hp5 := hSo _ (List.getElem_mem hpS)
      refine Go.Sl.cw_seq ?_
      refine Go.Sl.cw_region ?_
      refine Go.Sl.ow_val rfl rfl (Go.Sl.v_move rfl) ?_
      refine Go.Sl.ow_val rfl rfl (Go.Sl.v_fieldAddr0 Ty.fd101_1 rfl) ?_
      refine Go.Sl.ow_val rfl rfl (Go.Sl.v_load rfl (Go.Sl.Var.at1 Ty.sc5 .here (Go.Sl.GetN.lit rfl))) ?_
      refine Go.Sl.ow_val rfl rfl (Go.Sl.v_convert Try.underlying5 Try.underlying3 rfl (Go.Sl.nw_i64 (by omega) (by omega))) ?_
      refine Go.Sl.ow_val rfl rfl (Go.Sl.v_move rfl) ?_
      refine Go.Sl.ow_val rfl rfl (Go.Sl.v_len rfl Try.underlying99 rfl) ?_
      refine Go.Sl.ow_val rfl rfl (Go.Sl.v_rem rfl rfl (by omega)) ?_
      refine Go.Sl.ow_val rfl rfl (Go.Sl.v_indexAddr_ls Try.underlying99 (pTy) rfl rfl (by assumption) (Int.toNat_of_nonneg (by omega)).symm (by omega)) ?_
      refine Go.Sl.ow_val rfl rfl (Go.Sl.v_load rfl (Go.Sl.Vw.var (pTy) ((hLS.vw (by repeat (first | exact Go.Sl.Sub.here | assumption | refine Go.Sl.Sub.there ?_)))) (by omega))) ?_
      (refine Go.Sl.ow_alloc rfl rfl Ty.ze64 ?_; intro b27)
      refine Go.Sl.ow_storeE rfl (pTy) rfl rfl .here (by first | rfl | assumption) (by assumption) ?_
      refine Go.Sl.ow_nil ?_
      refine Go.Sl.xw_then ?_
      generalize S[(a.n.tmod S.length).toNat] = p at *
      refine Go.Sl.cw_seq ?_
      refine Go.Sl.cw_quiet Ty.mixed (by decide +kernel) ?_
      refine Go.Sl.kw_val rfl rfl (Go.Sl.v_fieldAddr0 Ty.fd64_0 rfl) ?_
      refine Go.Sl.kw_val rfl rfl (Go.Sl.v_load rfl (Go.Sl.Var.at1 Ty.sc23 .here (Go.Sl.GetN.lit rfl))) ?_
      refine Go.Sl.kw_val rfl rfl (Go.Sl.v_fieldAddr0 Ty.fd64_1 rfl) ?_
      refine Go.Sl.kw_val rfl rfl (Go.Sl.v_load rfl (Go.Sl.Var.at1 Ty.sc57 .here (Go.Sl.GetN.lit rfl))) ?_
      refine Go.Sl.kw_val rfl rfl (Go.Sl.v_len rfl Try.underlying57 rfl) ?_
      refine Go.Sl.kw_val rfl rfl (Go.Sl.v_fieldAddr0 Ty.fd64_2 rfl) ?_
      refine Go.Sl.kw_val rfl rfl (Go.Sl.v_load rfl (Go.Sl.Var.at1 Ty.sc4 .here (Go.Sl.GetN.lit rfl))) ?_
      refine Go.Sl.kw_val rfl rfl (Go.Sl.v_assign rfl) ?_
      refine Go.Sl.kw_val rfl rfl (Go.Sl.v_assign rfl) ?_
      refine Go.Sl.kw_val rfl rfl (Go.Sl.v_assign rfl) ?_
      refine Go.Sl.kw_nil ?_
      refine Go.Sl.xw_then ?_
      refine Go.Sl.cw_cut2 (ι := ((Int × Int × Bool))) [(0, _), (3, _), (4, _), (5, _), (6, _), (7, _), (8, _), (9, _), (14, _), (45, _), (46, _), (47, _)] ⟨rfl, rfl, rfl, rfl, rfl, rfl, rfl, rfl, rfl, rfl, rfl, rfl, trivial⟩ ((fun x => [(28, .int .u64 x.1), (29, .int .i64 x.2.1), (30, .bool x.2.2)])) ((fun x => (0 ≤ x.1 ∧ x.1 ≤ 18446744073709551615) ∧ (-9223372036854775808 ≤ x.2.1 ∧ x.2.1 ≤ 9223372036854775807))) ((fun _ => [(b10, .cells ((enAct B w0).f a).toArray 101 (0, 0))] :: c :: cM :: cS :: F)) ?_ ?_
      · have htm2 := tmodB (k := a.n) (n := 2) hao.n.1 (by decide)
        refine Go.Sl.cw_seq ?_
        refine Go.Sl.cw_region ?_
        refine Go.Sl.ow_val rfl rfl (Go.Sl.v_fieldAddr0 Ty.fd101_6 rfl) ?_
        refine Go.Sl.ow_val rfl rfl (Go.Sl.v_load rfl (Go.Sl.Var.at1 Ty.sc4 (.there .here) (Go.Sl.GetN.lit rfl))) ?_
        refine Go.Sl.ow_nil ?_
        refine Go.Sl.xw_then ?_
        refine Go.Sl.cw_bool rfl (fun hc93 => ?_) (fun hc93 => ?_)
        refine Go.Sl.cw_quiet Ty.mixed (by decide +kernel) ?_
        refine Go.Sl.kw_val rfl rfl (Go.Sl.v_fieldAddr0 Ty.fd101_4 rfl) ?_
        refine Go.Sl.kw_val rfl rfl (Go.Sl.v_load rfl (Go.Sl.Var.at1 Ty.sc23 (.there .here) (Go.Sl.GetN.lit rfl))) ?_
        refine Go.Sl.kw_val rfl rfl (Go.Sl.v_fieldAddr0 Ty.fd101_5 rfl) ?_
        refine Go.Sl.kw_val rfl rfl (Go.Sl.v_load rfl (Go.Sl.Var.at1 Ty.sc3 (.there .here) (Go.Sl.GetN.lit rfl))) ?_
        refine Go.Sl.kw_val rfl rfl (Go.Sl.v_fieldAddr0 Ty.fd101_1 rfl) ?_
        refine Go.Sl.kw_val rfl rfl (Go.Sl.v_load rfl (Go.Sl.Var.at1 Ty.sc5 (.there .here) (Go.Sl.GetN.lit rfl))) ?_
        refine Go.Sl.kw_val rfl rfl (Go.Sl.v_rem rfl rfl (by decide)) ?_
        refine Go.Sl.kw_val rfl rfl (Go.Sl.v_eql rfl rfl) ?_
        refine Go.Sl.kw_val rfl rfl (Go.Sl.v_assign rfl) ?_
        refine Go.Sl.kw_val rfl rfl (Go.Sl.v_assign rfl) ?_
        refine Go.Sl.kw_val rfl rfl (Go.Sl.v_assign rfl) ?_
        refine Go.Sl.kw_nil ?_
        rotate_left
        refine Go.Sl.cw_skip ?_
        rotate_left
        · exact xw_joint ((a.any, a.size, _) : Int × Int × Bool) ⟨hao.any, hao.size⟩ (by first | exact Go.Sl.Cov.refl _ | (intro p; simp only [List.flatten_cons, List.flatten_nil, List.flatten_append, List.append_nil, List.nil_append, Go.Sl.cnt_append, Go.Sl.cnt_cons, Go.Sl.cnt_nil, List.set_cons_zero, List.set_cons_succ, List.length_nil, List.length_cons, Nat.zero_add, List.append]; omega)) (by repeat (first | exact True.intro | refine And.intro rfl ?_))
        · exact xw_joint ((p.at_, (p.n : Int), p.fin) : Int × Int × Bool) ⟨hp5.1, by dsimp only; omega⟩ (by first | exact Go.Sl.Cov.refl _ | (intro p; simp only [List.flatten_cons, List.flatten_nil, List.flatten_append, List.append_nil, List.nil_append, Go.Sl.cnt_append, Go.Sl.cnt_cons, Go.Sl.cnt_nil, List.set_cons_zero, List.set_cons_succ, List.length_nil, List.length_cons, Nat.zero_add, List.append]; omega)) (by repeat (first | exact True.intro | refine And.intro rfl ?_))
      rintro ⟨at_, sz, f2⟩ ⟨hat, hsz⟩
      dsimp only at hat hsz ⊢
      have hml := hR.len
      skip
      refine Go.Sl.cw_cut2 (ι := (Unit)) [(0, _), (3, _), (4, _), (5, _), (6, _), (7, _), (8, _), (14, _), (28, _), (29, _), (30, _), (45, _), (46, _), (47, _)] ⟨rfl, rfl, rfl, rfl, rfl, rfl, rfl, rfl, rfl, rfl, rfl, rfl, rfl, rfl, trivial⟩ ((fun _ => [(31, .bool (m.written at_ sz))])) ((fun _ => True)) ((fun _ => [(b10, .cells ((enAct B w0).f a).toArray 101 (0, 0))] :: c :: cM :: cS :: F)) ?_ ?_
      · refine Go.Sl.cw_region ?_
        refine Go.Sl.ow_val rfl rfl (Go.Sl.v_move rfl) ?_
        refine Go.Sl.ow_val rfl rfl (Go.Sl.v_geq rfl rfl) ?_
        refine Go.Sl.ow_val rfl rfl (Go.Sl.v_move rfl) ?_
        refine Go.Sl.ow_dec 104 rfl (fun hc104 => ?_) (fun hc104 => ?_)
        refine Go.Sl.ow_val rfl rfl (Go.Sl.v_move rfl) ?_
        refine Go.Sl.ow_val rfl rfl (Go.Sl.v_move rfl) ?_
        refine Go.Sl.ow_val rfl rfl (Go.Sl.v_len rfl Try.underlying98 rfl) ?_
        refine Go.Sl.ow_val rfl rfl (Go.Sl.v_convert Try.underlying3 Try.underlying23 rfl (Go.Sl.nw_u64 (by omega) (by omega))) ?_
        refine Go.Sl.ow_val rfl rfl (Go.Sl.v_leq rfl rfl) ?_
        refine Go.Sl.ow_val rfl rfl (Go.Sl.v_pick_true rfl rfl) ?_
        refine Go.Sl.ow_val rfl rfl (Go.Sl.v_move rfl) ?_
        refine Go.Sl.ow_dec 111 rfl (fun hc111 => ?_) (fun hc111 => ?_)
        refine Go.Sl.ow_val rfl rfl (Go.Sl.v_move rfl) ?_
        refine Go.Sl.ow_val rfl rfl (Go.Sl.v_convert Try.underlying3 Try.underlying23 rfl (Go.Sl.nw_u64 (by omega) (by omega))) ?_
        refine Go.Sl.ow_val rfl rfl (Go.Sl.v_move rfl) ?_
        refine Go.Sl.ow_val rfl rfl (Go.Sl.v_len rfl Try.underlying98 rfl) ?_
        refine Go.Sl.ow_val rfl rfl (Go.Sl.v_convert Try.underlying3 Try.underlying23 rfl (Go.Sl.nw_u64 (by omega) (by omega))) ?_
        refine Go.Sl.ow_val rfl rfl (Go.Sl.v_move rfl) ?_
        refine Go.Sl.ow_val rfl rfl (Go.Sl.v_sub rfl rfl (Go.Sl.nw_u64 (by omega) (by omega))) ?_
        refine Go.Sl.ow_val rfl rfl (Go.Sl.v_leq rfl rfl) ?_
        refine Go.Sl.ow_val rfl rfl (Go.Sl.v_pick_true rfl rfl) ?_
        refine Go.Sl.ow_val rfl rfl (Go.Sl.v_assign rfl) ?_
        refine Go.Sl.ow_nil ?_
        rotate_left
        refine Go.Sl.ow_skip rfl rfl ?_
        refine Go.Sl.ow_skip rfl rfl ?_
        refine Go.Sl.ow_skip rfl rfl ?_
        refine Go.Sl.ow_skip rfl rfl ?_
        refine Go.Sl.ow_skip rfl rfl ?_
        refine Go.Sl.ow_skip rfl rfl ?_
        refine Go.Sl.ow_skip rfl rfl ?_
        refine Go.Sl.ow_skip rfl rfl ?_
        refine Go.Sl.ow_val rfl rfl (Go.Sl.v_pick_false rfl rfl) ?_
        refine Go.Sl.ow_val rfl rfl (Go.Sl.v_assign rfl) ?_
        refine Go.Sl.ow_nil ?_
        rotate_left
        refine Go.Sl.ow_skip rfl rfl ?_
        refine Go.Sl.ow_skip rfl rfl ?_
        refine Go.Sl.ow_skip rfl rfl ?_
        refine Go.Sl.ow_skip rfl rfl ?_
        refine Go.Sl.ow_skip rfl rfl ?_
        refine Go.Sl.ow_val rfl rfl (Go.Sl.v_pick_false rfl rfl) ?_
        refine Go.Sl.ow_val rfl rfl (Go.Sl.v_move rfl) ?_
        refine Go.Sl.ow_skip rfl rfl ?_
        refine Go.Sl.ow_skip rfl rfl ?_
        refine Go.Sl.ow_skip rfl rfl ?_
        refine Go.Sl.ow_skip rfl rfl ?_
        refine Go.Sl.ow_skip rfl rfl ?_
        refine Go.Sl.ow_skip rfl rfl ?_
        refine Go.Sl.ow_skip rfl rfl ?_
        refine Go.Sl.ow_skip rfl rfl ?_
        refine Go.Sl.ow_val rfl rfl (Go.Sl.v_pick_false rfl rfl) ?_
        refine Go.Sl.ow_val rfl rfl (Go.Sl.v_assign rfl) ?_
        refine Go.Sl.ow_nil ?_
        rotate_left
        all_goals first
          | (rw [show m.written at_ sz = true from BufM.written_iff.2 ⟨by omega, by omega, by omega⟩]; exact xw_joint () trivial (by first | exact Go.Sl.Cov.refl _ | (intro p; simp only [List.flatten_cons, List.flatten_nil, List.flatten_append, List.append_nil, List.nil_append, Go.Sl.cnt_append, Go.Sl.cnt_cons, Go.Sl.cnt_nil, List.set_cons_zero, List.set_cons_succ, List.length_nil, List.length_cons, Nat.zero_add, List.append]; omega)) (by repeat (first | exact True.intro | refine And.intro rfl ?_)))
          | (rw [show m.written at_ sz = false from by
              rw [Bool.eq_false_iff]
              intro h
              have := BufM.written_iff.1 h
              omega]; exact xw_joint () trivial (by first | exact Go.Sl.Cov.refl _ | (intro p; simp only [List.flatten_cons, List.flatten_nil, List.flatten_append, List.append_nil, List.nil_append, Go.Sl.cnt_append, Go.Sl.cnt_cons, Go.Sl.cnt_nil, List.set_cons_zero, List.set_cons_succ, List.length_nil, List.length_cons, Nat.zero_add, List.append]; omega)) (by repeat (first | exact True.intro | refine And.intro rfl ?_)))
          | (rw [show m.written at_ sz = decide (sz ≤ (M.length : Int) - at_) from by
              rw [Bool.eq_iff_iff, BufM.written_iff, decide_eq_true_eq]
              omega]; exact xw_joint () trivial (by first | exact Go.Sl.Cov.refl _ | (intro p; simp only [List.flatten_cons, List.flatten_nil, List.flatten_append, List.append_nil, List.nil_append, Go.Sl.cnt_append, Go.Sl.cnt_cons, Go.Sl.cnt_nil, List.set_cons_zero, List.set_cons_succ, List.length_nil, List.length_cons, Nat.zero_add, List.append]; omega)) (by repeat (first | exact True.intro | refine And.intro rfl ?_)))
      rintro _ _
      have hcm : ∀ {G : List Hp} {R : Hp → List Hp}, Sel G c R → Go.Sl.Fn Try.prog 62 #[.pointer (some ⟨x44.1, 0, none⟩), .int .u64 at_, .int .i64 sz, .bool f2] B w0 G fun u G' => ∃ c' : Hp, u = .tuple #[] ∧ OutAt (m.gotIt at_ sz f2) x44.1 c' ∧ G' = R c' := fun hs => outCame_c hs hO hw hat hsz
      have hlo : ∀ {G : List Hp} {R : Hp → List Hp}, Sel G c R → Go.Sl.Fn Try.prog 61 #[.pointer (some ⟨x44.1, 0, none⟩), .int .u64 at_, .int .i64 sz, .bool f2] B w0 G fun u G' => ∃ c' : Hp, u = .tuple #[] ∧ OutAt (m.lostIt at_ sz f2) x44.1 c' ∧ G' = R c' := fun hs => outLost_c hs hO hw hat hsz
      have hRc := hR.gotIt (n := sz) (f := f2) hat.1
      have hRl := hR.lostIt (n := sz) (f := f2) hat.1
      skip
      by_cases hwr : m.written at_ sz = true
      · obtain ⟨w1, w2, w3⟩ := BufM.written_iff.1 hwr
        obtain ⟨A, rfl⟩ := Int.eq_ofNat_of_zero_le hat.1
        obtain ⟨n, rfl⟩ := Int.eq_ofNat_of_zero_le w1
        have hAn : A + n ≤ M.length := by omega
        rw [hwr, if_pos rfl, Bool.true_and] at hRc hRl
        rw [hwr]
        simp only [Int.toNat_natCast] at hRc hRl
        refine Go.Sl.cw_cut2 (ι := (Unit)) [(0, _), (3, _), (4, _), (5, _), (6, _), (7, _), (8, _), (14, _), (28, _), (29, _), (30, _), (31, _), (45, _), (46, _), (47, _)] ⟨rfl, rfl, rfl, rfl, rfl, rfl, rfl, rfl, rfl, rfl, rfl, rfl, rfl, rfl, rfl, trivial⟩ ((fun _ => [(32, .bool (f2 && (fin && decide ((A : Int) + n = M.length))))])) ((fun _ => True)) ((fun _ => [(b10, .cells ((enAct B w0).f a).toArray 101 (0, 0))] :: c :: cM :: cS :: F)) ?_ ?_
        · refine Go.Sl.cw_region ?_
          refine Go.Sl.ow_val rfl rfl (Go.Sl.v_move rfl) ?_
          refine Go.Sl.ow_val rfl rfl (Go.Sl.v_move rfl) ?_
          refine Go.Sl.ow_val rfl rfl (Go.Sl.v_move rfl) ?_
          refine Go.Sl.ow_val rfl rfl (Go.Sl.v_pick_true rfl rfl) ?_
          refine Go.Sl.ow_val rfl rfl (Go.Sl.v_move rfl) ?_
          refine Go.Sl.ow_bool 125 rfl (fun hc125 => ?_) (fun hc125 => ?_)
          refine Go.Sl.ow_val rfl rfl (Go.Sl.v_move rfl) ?_
          refine Go.Sl.ow_val rfl rfl (Go.Sl.v_pick_true rfl rfl) ?_
          refine Go.Sl.ow_val rfl rfl (Go.Sl.v_move rfl) ?_
          refine Go.Sl.ow_bool 128 rfl (fun hc128 => ?_) (fun hc128 => ?_)
          refine Go.Sl.ow_val rfl rfl (Go.Sl.v_move rfl) ?_
          refine Go.Sl.ow_val rfl rfl (Go.Sl.v_move rfl) ?_
          refine Go.Sl.ow_val rfl rfl (Go.Sl.v_convert Try.underlying3 Try.underlying23 rfl (Go.Sl.nw_u64 (by omega) (by omega))) ?_
          refine Go.Sl.ow_val rfl rfl (Go.Sl.v_add rfl rfl (Go.Sl.nw_u64 (by omega) (by omega))) ?_
          refine Go.Sl.ow_val rfl rfl (Go.Sl.v_move rfl) ?_
          refine Go.Sl.ow_val rfl rfl (Go.Sl.v_len rfl Try.underlying98 rfl) ?_
          refine Go.Sl.ow_val rfl rfl (Go.Sl.v_convert Try.underlying3 Try.underlying23 rfl (Go.Sl.nw_u64 (by omega) (by omega))) ?_
          refine Go.Sl.ow_val rfl rfl (Go.Sl.v_eql rfl rfl) ?_
          refine Go.Sl.ow_val rfl rfl (Go.Sl.v_pick_true rfl rfl) ?_
          refine Go.Sl.ow_val rfl rfl (Go.Sl.v_assign rfl) ?_
          refine Go.Sl.ow_nil ?_
          rotate_left
          refine Go.Sl.ow_skip rfl rfl ?_
          refine Go.Sl.ow_skip rfl rfl ?_
          refine Go.Sl.ow_skip rfl rfl ?_
          refine Go.Sl.ow_skip rfl rfl ?_
          refine Go.Sl.ow_skip rfl rfl ?_
          refine Go.Sl.ow_skip rfl rfl ?_
          refine Go.Sl.ow_skip rfl rfl ?_
          refine Go.Sl.ow_skip rfl rfl ?_
          refine Go.Sl.ow_val rfl rfl (Go.Sl.v_pick_false rfl rfl) ?_
          refine Go.Sl.ow_val rfl rfl (Go.Sl.v_assign rfl) ?_
          refine Go.Sl.ow_nil ?_
          rotate_left
          refine Go.Sl.ow_skip rfl rfl ?_
          refine Go.Sl.ow_val rfl rfl (Go.Sl.v_pick_false rfl rfl) ?_
          refine Go.Sl.ow_val rfl rfl (Go.Sl.v_move rfl) ?_
          refine Go.Sl.ow_skip rfl rfl ?_
          refine Go.Sl.ow_skip rfl rfl ?_
          refine Go.Sl.ow_skip rfl rfl ?_
          refine Go.Sl.ow_skip rfl rfl ?_
          refine Go.Sl.ow_skip rfl rfl ?_
          refine Go.Sl.ow_skip rfl rfl ?_
          refine Go.Sl.ow_skip rfl rfl ?_
          refine Go.Sl.ow_skip rfl rfl ?_
          refine Go.Sl.ow_val rfl rfl (Go.Sl.v_pick_false rfl rfl) ?_
          refine Go.Sl.ow_val rfl rfl (Go.Sl.v_assign rfl) ?_
          refine Go.Sl.ow_nil ?_
          rotate_left
          all_goals (cases f2 <;> cases fin <;> first | contradiction | exact xw_joint () trivial (by first | exact Go.Sl.Cov.refl _ | (intro p; simp only [List.flatten_cons, List.flatten_nil, List.flatten_append, List.append_nil, List.nil_append, Go.Sl.cnt_append, Go.Sl.cnt_cons, Go.Sl.cnt_nil, List.set_cons_zero, List.set_cons_succ, List.length_nil, List.length_cons, Nat.zero_add, List.append]; omega)) (by repeat (first | exact True.intro | refine And.intro rfl ?_)))
        rintro _ _
        refine Go.Sl.cw_seq ?_
        refine Go.Sl.cw_seq ?_
        refine Go.Sl.cw_region ?_
        refine Go.Sl.ow_val rfl rfl (Go.Sl.v_move rfl) ?_
        refine Go.Sl.ow_val rfl rfl (Go.Sl.v_lss rfl rfl) ?_
        refine Go.Sl.ow_nil ?_
        refine Go.Sl.xw_then ?_
        refine Go.Sl.cw_dec rfl (fun hc139 => ?_) (fun hc139 => ?_)
        refine Go.Sl.cw_seq ?_
        refine Go.Sl.cw_region ?_
        refine Go.Sl.ow_val rfl rfl (Go.Sl.v_move rfl) ?_
        refine Go.Sl.ow_val rfl rfl (Go.Sl.v_move rfl) ?_
        refine Go.Sl.ow_val rfl rfl (Go.Sl.v_move rfl) ?_
        refine Go.Sl.ow_val rfl rfl (Go.Sl.v_move rfl) ?_
        (refine Go.Sl.ow_call rfl rfl rfl rfl (hcm (by repeat (first | exact Go.Sl.Sel.here | apply Go.Sl.Sel.there))) ?_; rintro _ _ ⟨x144, rfl, hq144, rfl⟩)
        refine Go.Sl.ow_nil ?_
        refine Go.Sl.xw_then ?_
        rotate_left
        refine Go.Sl.cw_skip ?_
        refine Go.Sl.xw_then ?_
        refine Go.Sl.cw_seq ?_
        refine Go.Sl.cw_region ?_
        refine Go.Sl.ow_val rfl rfl (Go.Sl.v_move rfl) ?_
        refine Go.Sl.ow_val rfl rfl (Go.Sl.v_move rfl) ?_
        refine Go.Sl.ow_val rfl rfl (Go.Sl.v_move rfl) ?_
        refine Go.Sl.ow_val rfl rfl (Go.Sl.v_move rfl) ?_
        (refine Go.Sl.ow_call rfl rfl rfl rfl (hlo (by repeat (first | exact Go.Sl.Sel.here | apply Go.Sl.Sel.there))) ?_; rintro _ _ ⟨x166, rfl, hq166, rfl⟩)
        refine Go.Sl.ow_nil ?_
        refine Go.Sl.xw_then ?_
        refine Go.Sl.cw_seq ?_
        refine Go.Sl.cw_region ?_
        refine Go.Sl.ow_val rfl rfl (Go.Sl.v_move rfl) ?_
        refine Go.Sl.ow_nil ?_
        refine Go.Sl.xw_then ?_
        refine Go.Sl.cw_true rfl ?_
        rotate_left
        · refine Go.Sl.cw_cut2 (ι := (Hp)) [(0, _), (3, _), (4, _), (5, _), (6, _), (7, _), (8, _), (28, _), (29, _), (30, _), (31, _), (32, _), (45, _), (46, _), (47, _)] ⟨rfl, rfl, rfl, rfl, rfl, rfl, rfl, rfl, rfl, rfl, rfl, rfl, rfl, rfl, rfl, trivial⟩ ((fun _ => [])) ((fun x => Ls enPl 103 (.slice ao M.length cap) x (mark M A n camePl))) ((fun x => x144 :: x :: cS :: F)) ?_ ?_
          · refine Go.Sl.cw_seq ?_
            refine Go.Sl.cw_region ?_
            refine Go.Sl.ow_val rfl rfl (Go.Sl.v_move rfl) ?_
            refine Go.Sl.ow_nil ?_
            refine Go.Sl.xw_then ?_
            refine Go.Sl.cw_true rfl ?_
            refine Go.Sl.cw_seq ?_
            refine Go.Sl.cw_region ?_
            refine Go.Sl.ow_val rfl rfl (Go.Sl.v_move rfl) ?_
            refine Go.Sl.ow_val rfl rfl (Go.Sl.v_move rfl) ?_
            refine Go.Sl.ow_nil ?_
            refine Go.Sl.xw_then ?_
            refine Go.Sl.cw_block ?_
            refine Go.Sl.cw_loop2 (ι := ((Nat × Hp))) [(0, _), (3, _), (4, _), (5, _), (6, _), (7, _), (8, _), (28, _), (29, _), (30, _), (31, _), (32, _), (45, _), (46, _), (47, _), (146, _)] ⟨rfl, rfl, rfl, rfl, rfl, rfl, rfl, rfl, rfl, rfl, rfl, rfl, rfl, rfl, rfl, rfl, trivial⟩ ((fun x => [(147, .int .i64 x.1)])) ((fun x => x.1 ≤ n ∧ Ls enPl 103 (.slice ao M.length cap) x.2 (mark M A x.1 camePl))) ((fun x => n - x.1)) ((fun x => x144 :: x.2 :: cS :: F)) (((0, cM) : Nat × Hp)) (by repeat (first | exact True.intro | refine And.intro rfl ?_)) (by first | exact Go.Sl.Cov.refl _ | (intro p; simp only [List.flatten_cons, List.flatten_nil, List.flatten_append, List.append_nil, List.nil_append, Go.Sl.cnt_append, Go.Sl.cnt_cons, Go.Sl.cnt_nil, List.set_cons_zero, List.set_cons_succ, List.length_nil, List.length_cons, Nat.zero_add, List.append]; omega)) ?_ ?_
            · exact ⟨Nat.zero_le _, by rw [mark_zero]; exact hL⟩
            rintro ⟨j, cj⟩ ⟨hj, hLj⟩
            dsimp only at hj hLj ⊢
            have hmj : (mark M A j camePl).length = M.length := mark_len
            refine Go.Sl.cw_seq ?_
            refine Go.Sl.cw_region ?_
            refine Go.Sl.ow_val rfl rfl (Go.Sl.v_lss rfl rfl) ?_
            refine Go.Sl.ow_nil ?_
            refine Go.Sl.xw_then ?_
            refine Go.Sl.cw_seq ?_
            refine Go.Sl.cw_dec rfl (fun hc148 => ?_) (fun hc148 => ?_)
            refine Go.Sl.cw_skip ?_
            refine Go.Sl.xw_then ?_
            refine Go.Sl.cw_seq ?_
            refine Go.Sl.cw_block ?_
            refine Go.Sl.cw_seq ?_
            refine Go.Sl.cw_region ?_
            refine Go.Sl.ow_val rfl rfl (Go.Sl.v_move rfl) ?_
            refine Go.Sl.ow_val rfl rfl (Go.Sl.v_assign rfl) ?_
            refine Go.Sl.ow_nil ?_
            refine Go.Sl.xw_then ?_
            refine Go.Sl.cw_region ?_
            refine Go.Sl.ow_val rfl rfl (Go.Sl.v_move rfl) ?_
            refine Go.Sl.ow_val rfl rfl (Go.Sl.v_move rfl) ?_
            refine Go.Sl.ow_val rfl rfl (Go.Sl.v_convert Try.underlying23 Try.underlying3 rfl (Go.Sl.nw_i64 (by omega) (by omega))) ?_
            refine Go.Sl.ow_val rfl rfl (Go.Sl.v_move rfl) ?_
            refine Go.Sl.ow_val rfl rfl (Go.Sl.v_add rfl rfl (Go.Sl.nw_i64 (by omega) (by omega))) ?_
            refine Go.Sl.ow_val rfl rfl (Go.Sl.v_indexAddr_ls Try.underlying98 (plTy) rfl rfl (by assumption) rfl (by omega)) ?_
            refine Go.Sl.ow_val rfl rfl (Go.Sl.v_fieldAddr Ty.fd103_1 rfl) ?_
            rotate_left
            refine Go.Sl.cw_exit ?_
            refine Go.Sl.xw_then_exit ?_
            refine Go.Sl.xw_round_exit ?_
            refine Go.Sl.xw_block_exit ?_
            rotate_left
            · have hx : ((A : Int) + j).toNat < (mark M A j camePl).length := by omega
              refine ow_storeLf (i := ((A : Int) + j).toNat) (k := 1) (a := camePl ((mark M A j camePl)[((A : Int) + j).toNat])) rfl rfl rfl Ty.sc5 rfl plTy hLj (by repeat (first | exact Go.Sl.Sel.here | apply Go.Sl.Sel.there)) hx (by show 1 < 2; decide) ⟨by simp [camePl], by simp [camePl]⟩ rfl ?_
              intro c2 hL2
              have hx2 : ((A : Int) + j).toNat = A + j := by omega
              have hst : (mark M A j camePl).set ((A : Int) + j).toNat (camePl ((mark M A j camePl)[((A : Int) + j).toNat])) = mark M A (j + 1) camePl := by
                have h := mark_step (M := M) (a := A) (j := j) (g := camePl) (by omega)
                rw [← h]
                congr 1
                congr 1
                rw [← mark_at (M := M) (a := A) (j := j) (g := camePl) (by omega)]
                congr 1
              rw [hst] at hL2
              refine Go.Sl.ow_nil ?_
              refine Go.Sl.xw_block ?_
              refine Go.Sl.xw_then ?_
              refine Go.Sl.cw_region ?_
              refine Go.Sl.ow_val rfl rfl (Go.Sl.v_add rfl rfl (Go.Sl.nw_i64 (by omega) (by omega))) ?_
              refine Go.Sl.ow_val rfl rfl (Go.Sl.v_move rfl) ?_
              refine Go.Sl.ow_nil ?_
              exact xw_round (j + 1, c2) ⟨by omega, hL2⟩ (by dsimp only; omega) (by first | exact Go.Sl.Cov.refl _ | (intro p; simp only [List.flatten_cons, List.flatten_nil, List.flatten_append, List.append_nil, List.nil_append, Go.Sl.cnt_append, Go.Sl.cnt_cons, Go.Sl.cnt_nil, List.set_cons_zero, List.set_cons_succ, List.length_nil, List.length_cons, Nat.zero_add, List.append]; omega)) (by repeat (first | exact True.intro | refine And.intro rfl ?_))
            · have : j = n := by omega
              subst this
              exact xw_joint cj hLj (by first | exact Go.Sl.Cov.refl _ | (intro p; simp only [List.flatten_cons, List.flatten_nil, List.flatten_append, List.append_nil, List.nil_append, Go.Sl.cnt_append, Go.Sl.cnt_cons, Go.Sl.cnt_nil, List.set_cons_zero, List.set_cons_succ, List.length_nil, List.length_cons, Nat.zero_add, List.append]; omega)) (by repeat (first | exact True.intro | refine And.intro rfl ?_))
          · rintro cM2 hL2
            refine Go.Sl.cw_seq ?_
            refine Go.Sl.cw_region ?_
            refine Go.Sl.ow_val rfl rfl (Go.Sl.v_move rfl) ?_
            refine Go.Sl.ow_val rfl rfl (Go.Sl.v_move rfl) ?_
            refine Go.Sl.ow_bool 159 rfl (fun hc159 => ?_) (fun hc159 => ?_)
            refine Go.Sl.ow_skip rfl rfl ?_
            refine Go.Sl.ow_val rfl rfl (Go.Sl.v_pick_true rfl rfl) ?_
            refine Go.Sl.ow_val rfl rfl (Go.Sl.v_assign rfl) ?_
            refine Go.Sl.ow_nil ?_
            refine Go.Sl.xw_then ?_
            refine Go.Sl.cw_exit ?_
            refine Go.Sl.xw_then_exit ?_
            refine Go.Sl.xw_block_exit ?_
            rotate_left
            refine Go.Sl.ow_val rfl rfl (Go.Sl.v_move rfl) ?_
            refine Go.Sl.ow_val rfl rfl (Go.Sl.v_pick_false rfl rfl) ?_
            refine Go.Sl.ow_val rfl rfl (Go.Sl.v_assign rfl) ?_
            refine Go.Sl.ow_nil ?_
            refine Go.Sl.xw_then ?_
            refine Go.Sl.cw_exit ?_
            refine Go.Sl.xw_then_exit ?_
            refine Go.Sl.xw_block_exit ?_
            rotate_left
            · exact xw_joint (⟨i + 1, m.gotIt A n f2, x144, mark M A n camePl, ao, cap, cM2, S, ao2, cap2, cS, fin, said, came || (f2 && (fin && decide ((A : Int) + n = M.length)))⟩ : Ix) ⟨hRc, hq144, by dsimp only; rw [mark_len]; exact hL2, hLS, by dsimp only; rw [mark_len]; omega, by dsimp only; omega, hSo⟩ (by first | exact Go.Sl.Cov.refl _ | (intro p; simp only [List.flatten_cons, List.flatten_nil, List.flatten_append, List.append_nil, List.nil_append, Go.Sl.cnt_append, Go.Sl.cnt_cons, Go.Sl.cnt_nil, List.set_cons_zero, List.set_cons_succ, List.length_nil, List.length_cons, Nat.zero_add, List.append]; omega)) ⟨congrArg (fun z => some (Value.slice ao z cap)) (mark_len (M := M)).symm, rfl, rfl, rfl, by rw [hc159]; rfl, (by repeat (first | exact True.intro | refine And.intro rfl ?_))⟩
            · exact xw_joint (⟨i + 1, m.gotIt A n f2, x144, mark M A n camePl, ao, cap, cM2, S, ao2, cap2, cS, fin, said, came || (f2 && (fin && decide ((A : Int) + n = M.length)))⟩ : Ix) ⟨hRc, hq144, by dsimp only; rw [mark_len]; exact hL2, hLS, by dsimp only; rw [mark_len]; omega, by dsimp only; omega, hSo⟩ (by first | exact Go.Sl.Cov.refl _ | (intro p; simp only [List.flatten_cons, List.flatten_nil, List.flatten_append, List.append_nil, List.nil_append, Go.Sl.cnt_append, Go.Sl.cnt_cons, Go.Sl.cnt_nil, List.set_cons_zero, List.set_cons_succ, List.length_nil, List.length_cons, Nat.zero_add, List.append]; omega)) ⟨congrArg (fun z => some (Value.slice ao z cap)) (mark_len (M := M)).symm, rfl, rfl, rfl, by rw [hc159]; rfl, (by repeat (first | exact True.intro | refine And.intro rfl ?_))⟩
        · refine Go.Sl.cw_cut2 (ι := (Hp)) [(0, _), (3, _), (4, _), (5, _), (6, _), (7, _), (8, _), (30, _), (45, _), (46, _), (47, _)] ⟨rfl, rfl, rfl, rfl, rfl, rfl, rfl, rfl, rfl, rfl, rfl, trivial⟩ ((fun _ => [])) ((fun x => Ls enPl 103 (.slice ao M.length cap) x (mark M A n lostPl))) ((fun x => x166 :: x :: cS :: F)) ?_ ?_
          · refine Go.Sl.cw_seq ?_
            refine Go.Sl.cw_region ?_
            refine Go.Sl.ow_val rfl rfl (Go.Sl.v_move rfl) ?_
            refine Go.Sl.ow_val rfl rfl (Go.Sl.v_move rfl) ?_
            refine Go.Sl.ow_nil ?_
            refine Go.Sl.xw_then ?_
            refine Go.Sl.cw_block ?_
            refine Go.Sl.cw_loop2 (ι := ((Nat × Hp))) [(0, _), (3, _), (4, _), (5, _), (6, _), (7, _), (8, _), (28, _), (30, _), (45, _), (46, _), (47, _), (168, _)] ⟨rfl, rfl, rfl, rfl, rfl, rfl, rfl, rfl, rfl, rfl, rfl, rfl, rfl, trivial⟩ ((fun x => [(169, .int .i64 x.1)])) ((fun x => x.1 ≤ n ∧ Ls enPl 103 (.slice ao M.length cap) x.2 (mark M A x.1 lostPl))) ((fun x => n - x.1)) ((fun x => x166 :: x.2 :: cS :: F)) (((0, cM) : Nat × Hp)) (by repeat (first | exact True.intro | refine And.intro rfl ?_)) (by first | exact Go.Sl.Cov.refl _ | (intro p; simp only [List.flatten_cons, List.flatten_nil, List.flatten_append, List.append_nil, List.nil_append, Go.Sl.cnt_append, Go.Sl.cnt_cons, Go.Sl.cnt_nil, List.set_cons_zero, List.set_cons_succ, List.length_nil, List.length_cons, Nat.zero_add, List.append]; omega)) ?_ ?_
            · exact ⟨Nat.zero_le _, by rw [mark_zero]; exact hL⟩
            rintro ⟨j, cj⟩ ⟨hj, hLj⟩
            dsimp only at hj hLj ⊢
            have hmj : (mark M A j lostPl).length = M.length := mark_len
            refine Go.Sl.cw_seq ?_
            refine Go.Sl.cw_region ?_
            refine Go.Sl.ow_val rfl rfl (Go.Sl.v_lss rfl rfl) ?_
            refine Go.Sl.ow_nil ?_
            refine Go.Sl.xw_then ?_
            refine Go.Sl.cw_seq ?_
            refine Go.Sl.cw_dec rfl (fun hc170 => ?_) (fun hc170 => ?_)
            refine Go.Sl.cw_skip ?_
            refine Go.Sl.xw_then ?_
            rotate_left
            refine Go.Sl.cw_exit ?_
            refine Go.Sl.xw_then_exit ?_
            refine Go.Sl.xw_round_exit ?_
            refine Go.Sl.xw_block_exit ?_
            rotate_left
            · have hx : ((A : Int) + j).toNat < (mark M A j lostPl).length := by omega
              have hst0 : (mark M A j lostPl).set ((A : Int) + j).toNat (lostPl ((mark M A j lostPl)[((A : Int) + j).toNat])) = mark M A (j + 1) lostPl := by
                have h := mark_step (M := M) (a := A) (j := j) (g := lostPl) (by omega)
                rw [← h]
                congr 1
                congr 1
                rw [← mark_at (M := M) (a := A) (j := j) (g := lostPl) (by omega)]
                congr 1
              refine Go.Sl.cw_seq ?_
              refine Go.Sl.cw_block ?_
              refine Go.Sl.cw_seq ?_
              refine Go.Sl.cw_region ?_
              refine Go.Sl.ow_val rfl rfl (Go.Sl.v_move rfl) ?_
              refine Go.Sl.ow_val rfl rfl (Go.Sl.v_assign rfl) ?_
              refine Go.Sl.ow_nil ?_
              refine Go.Sl.xw_then ?_
              refine Go.Sl.cw_seq ?_
              refine Go.Sl.cw_region ?_
              refine Go.Sl.ow_val rfl rfl (Go.Sl.v_move rfl) ?_
              refine Go.Sl.ow_val rfl rfl (Go.Sl.v_move rfl) ?_
              refine Go.Sl.ow_val rfl rfl (Go.Sl.v_convert Try.underlying23 Try.underlying3 rfl (Go.Sl.nw_i64 (by omega) (by omega))) ?_
              refine Go.Sl.ow_val rfl rfl (Go.Sl.v_move rfl) ?_
              refine Go.Sl.ow_val rfl rfl (Go.Sl.v_add rfl rfl (Go.Sl.nw_i64 (by omega) (by omega))) ?_
              refine Go.Sl.ow_val rfl rfl (Go.Sl.v_indexAddr_ls Try.underlying98 (plTy) rfl rfl (by assumption) rfl (by omega)) ?_
              refine Go.Sl.ow_val rfl rfl (Go.Sl.v_fieldAddr Ty.fd103_1 rfl) ?_
              refine Go.Sl.ow_val rfl rfl (Go.Sl.v_load rfl (Go.Sl.Vw.fld1 (plTy) Ty.sc5 (Go.Sl.Ls.vw (by assumption) (by repeat (first | exact Go.Sl.Sub.here | assumption | refine Go.Sl.Sub.there ?_))) (by omega) rfl)) ?_
              refine Go.Sl.ow_val rfl rfl (Go.Sl.v_neq rfl rfl) ?_
              refine Go.Sl.ow_nil ?_
              refine Go.Sl.xw_then ?_
              refine Go.Sl.cw_dec rfl (fun hc180 => ?_) (fun hc180 => ?_)
              refine Go.Sl.cw_region ?_
              refine Go.Sl.ow_val rfl rfl (Go.Sl.v_move rfl) ?_
              refine Go.Sl.ow_val rfl rfl (Go.Sl.v_move rfl) ?_
              refine Go.Sl.ow_val rfl rfl (Go.Sl.v_convert Try.underlying23 Try.underlying3 rfl (Go.Sl.nw_i64 (by omega) (by omega))) ?_
              refine Go.Sl.ow_val rfl rfl (Go.Sl.v_move rfl) ?_
              refine Go.Sl.ow_val rfl rfl (Go.Sl.v_add rfl rfl (Go.Sl.nw_i64 (by omega) (by omega))) ?_
              refine Go.Sl.ow_val rfl rfl (Go.Sl.v_indexAddr_ls Try.underlying98 (plTy) rfl rfl (by assumption) rfl (by omega)) ?_
              refine Go.Sl.ow_val rfl rfl (Go.Sl.v_fieldAddr Ty.fd103_1 rfl) ?_
              rotate_left
              refine Go.Sl.cw_skip ?_
              refine Go.Sl.xw_block ?_
              refine Go.Sl.xw_then ?_
              refine Go.Sl.cw_region ?_
              refine Go.Sl.ow_val rfl rfl (Go.Sl.v_add rfl rfl (Go.Sl.nw_i64 (by omega) (by omega))) ?_
              refine Go.Sl.ow_val rfl rfl (Go.Sl.v_move rfl) ?_
              refine Go.Sl.ow_nil ?_
              rotate_left
              · have hlp : lostPl ((mark M A j lostPl)[((A : Int) + j).toNat]) = ⟨((mark M A j lostPl)[((A : Int) + j).toNat]).c, 0⟩ := if_neg hc180
                rw [hlp] at hst0
                refine ow_storeLf (i := ((A : Int) + j).toNat) (k := 1) (a := ⟨((mark M A j lostPl)[((A : Int) + j).toNat]).c, 0⟩) rfl rfl rfl Ty.sc5 rfl plTy hLj (by repeat (first | exact Go.Sl.Sel.here | apply Go.Sl.Sel.there)) hx (by show 1 < 2; decide) ⟨by simp, by simp⟩ rfl ?_
                intro c2 hL2
                rw [hst0] at hL2
                refine Go.Sl.ow_nil ?_
                refine Go.Sl.xw_block ?_
                refine Go.Sl.xw_then ?_
                refine Go.Sl.cw_region ?_
                refine Go.Sl.ow_val rfl rfl (Go.Sl.v_add rfl rfl (Go.Sl.nw_i64 (by omega) (by omega))) ?_
                refine Go.Sl.ow_val rfl rfl (Go.Sl.v_move rfl) ?_
                refine Go.Sl.ow_nil ?_
                exact xw_round (j + 1, c2) ⟨by omega, hL2⟩ (by dsimp only; omega) (by first | exact Go.Sl.Cov.refl _ | (intro p; simp only [List.flatten_cons, List.flatten_nil, List.flatten_append, List.append_nil, List.nil_append, Go.Sl.cnt_append, Go.Sl.cnt_cons, Go.Sl.cnt_nil, List.set_cons_zero, List.set_cons_succ, List.length_nil, List.length_cons, Nat.zero_add, List.append]; omega)) (by repeat (first | exact True.intro | refine And.intro rfl ?_))
              · have hlp : lostPl ((mark M A j lostPl)[((A : Int) + j).toNat]) = (mark M A j lostPl)[((A : Int) + j).toNat] := if_pos (Decidable.not_not.1 hc180)
                rw [hlp, List.set_getElem_self] at hst0
                rw [hst0] at hLj
                exact xw_round (j + 1, cj) ⟨by omega, hLj⟩ (by dsimp only; omega) (by first | exact Go.Sl.Cov.refl _ | (intro p; simp only [List.flatten_cons, List.flatten_nil, List.flatten_append, List.append_nil, List.nil_append, Go.Sl.cnt_append, Go.Sl.cnt_cons, Go.Sl.cnt_nil, List.set_cons_zero, List.set_cons_succ, List.length_nil, List.length_cons, Nat.zero_add, List.append]; omega)) (by repeat (first | exact True.intro | refine And.intro rfl ?_))
            · have : j = n := by omega
              subst this
              exact xw_joint cj hLj (by first | exact Go.Sl.Cov.refl _ | (intro p; simp only [List.flatten_cons, List.flatten_nil, List.flatten_append, List.append_nil, List.nil_append, Go.Sl.cnt_append, Go.Sl.cnt_cons, Go.Sl.cnt_nil, List.set_cons_zero, List.set_cons_succ, List.length_nil, List.length_cons, Nat.zero_add, List.append]; omega)) (by repeat (first | exact True.intro | refine And.intro rfl ?_))
          · rintro cM2 hL2
            refine Go.Sl.cw_seq ?_
            refine Go.Sl.cw_region ?_
            refine Go.Sl.ow_val rfl rfl (Go.Sl.v_move rfl) ?_
            refine Go.Sl.ow_val rfl rfl (Go.Sl.v_move rfl) ?_
            refine Go.Sl.ow_bool 190 rfl (fun hc190 => ?_) (fun hc190 => ?_)
            refine Go.Sl.ow_val rfl rfl (Go.Sl.v_move rfl) ?_
            refine Go.Sl.ow_val rfl rfl (Go.Sl.v_pick_true rfl rfl) ?_
            refine Go.Sl.ow_val rfl rfl (Go.Sl.v_move rfl) ?_
            refine Go.Sl.ow_bool 193 rfl (fun hc193 => ?_) (fun hc193 => ?_)
            refine Go.Sl.ow_val rfl rfl (Go.Sl.v_move rfl) ?_
            refine Go.Sl.ow_val rfl rfl (Go.Sl.v_not_bool rfl) ?_
            refine Go.Sl.ow_val rfl rfl (Go.Sl.v_pick_true rfl rfl) ?_
            refine Go.Sl.ow_nil ?_
            refine Go.Sl.xw_then ?_
            refine Go.Sl.cw_bool rfl (fun hc196 => ?_) (fun hc196 => ?_)
            refine Go.Sl.cw_region ?_
            refine Go.Sl.ow_val rfl rfl (Go.Sl.v_assign rfl) ?_
            refine Go.Sl.ow_nil ?_
            refine Go.Sl.xw_block ?_
            rotate_left
            refine Go.Sl.cw_skip ?_
            refine Go.Sl.xw_block ?_
            rotate_left
            refine Go.Sl.ow_skip rfl rfl ?_
            refine Go.Sl.ow_skip rfl rfl ?_
            refine Go.Sl.ow_val rfl rfl (Go.Sl.v_pick_false rfl rfl) ?_
            refine Go.Sl.ow_nil ?_
            refine Go.Sl.xw_then ?_
            refine Go.Sl.cw_false rfl ?_
            refine Go.Sl.cw_skip ?_
            refine Go.Sl.xw_block ?_
            rotate_left
            refine Go.Sl.ow_skip rfl rfl ?_
            refine Go.Sl.ow_val rfl rfl (Go.Sl.v_pick_false rfl rfl) ?_
            refine Go.Sl.ow_val rfl rfl (Go.Sl.v_move rfl) ?_
            refine Go.Sl.ow_skip rfl rfl ?_
            refine Go.Sl.ow_skip rfl rfl ?_
            refine Go.Sl.ow_val rfl rfl (Go.Sl.v_pick_false rfl rfl) ?_
            refine Go.Sl.ow_nil ?_
            refine Go.Sl.xw_then ?_
            refine Go.Sl.cw_false rfl ?_
            refine Go.Sl.cw_skip ?_
            refine Go.Sl.xw_block ?_
            rotate_left
            all_goals generalize hsd : (if (f2 && (fin && !came)) = true then false else said) = said2 at hRl
            · rw [hc190, hc193, hc196] at hsd
              exact xw_joint (⟨i + 1, m.lostIt A n f2, x166, mark M A n lostPl, ao, cap, cM2, S, ao2, cap2, cS, fin, said2, came⟩ : Ix) ⟨hRl, hq166, by dsimp only; rw [mark_len]; exact hL2, hLS, by dsimp only; rw [mark_len]; omega, by dsimp only; omega, hSo⟩ (by first | exact Go.Sl.Cov.refl _ | (intro p; simp only [List.flatten_cons, List.flatten_nil, List.flatten_append, List.append_nil, List.nil_append, Go.Sl.cnt_append, Go.Sl.cnt_cons, Go.Sl.cnt_nil, List.set_cons_zero, List.set_cons_succ, List.length_nil, List.length_cons, Nat.zero_add, List.append]; omega)) ⟨congrArg (fun z => some (Value.slice ao z cap)) (mark_len (M := M)).symm, rfl, rfl, congrArg (fun z => some (Value.bool z)) hsd, rfl, (by repeat (first | exact True.intro | refine And.intro rfl ?_))⟩
            · rw [hc190, hc193, hc196] at hsd
              exact xw_joint (⟨i + 1, m.lostIt A n f2, x166, mark M A n lostPl, ao, cap, cM2, S, ao2, cap2, cS, fin, said2, came⟩ : Ix) ⟨hRl, hq166, by dsimp only; rw [mark_len]; exact hL2, hLS, by dsimp only; rw [mark_len]; omega, by dsimp only; omega, hSo⟩ (by first | exact Go.Sl.Cov.refl _ | (intro p; simp only [List.flatten_cons, List.flatten_nil, List.flatten_append, List.append_nil, List.nil_append, Go.Sl.cnt_append, Go.Sl.cnt_cons, Go.Sl.cnt_nil, List.set_cons_zero, List.set_cons_succ, List.length_nil, List.length_cons, Nat.zero_add, List.append]; omega)) ⟨congrArg (fun z => some (Value.slice ao z cap)) (mark_len (M := M)).symm, rfl, rfl, congrArg (fun z => some (Value.bool z)) hsd, rfl, (by repeat (first | exact True.intro | refine And.intro rfl ?_))⟩
            · rw [hc190, hc193, Bool.false_and, Bool.and_false] at hsd
              exact xw_joint (⟨i + 1, m.lostIt A n f2, x166, mark M A n lostPl, ao, cap, cM2, S, ao2, cap2, cS, fin, said2, came⟩ : Ix) ⟨hRl, hq166, by dsimp only; rw [mark_len]; exact hL2, hLS, by dsimp only; rw [mark_len]; omega, by dsimp only; omega, hSo⟩ (by first | exact Go.Sl.Cov.refl _ | (intro p; simp only [List.flatten_cons, List.flatten_nil, List.flatten_append, List.append_nil, List.nil_append, Go.Sl.cnt_append, Go.Sl.cnt_cons, Go.Sl.cnt_nil, List.set_cons_zero, List.set_cons_succ, List.length_nil, List.length_cons, Nat.zero_add, List.append]; omega)) ⟨congrArg (fun z => some (Value.slice ao z cap)) (mark_len (M := M)).symm, rfl, rfl, congrArg (fun z => some (Value.bool z)) hsd, rfl, (by repeat (first | exact True.intro | refine And.intro rfl ?_))⟩
            · rw [hc190, Bool.false_and] at hsd
              exact xw_joint (⟨i + 1, m.lostIt A n f2, x166, mark M A n lostPl, ao, cap, cM2, S, ao2, cap2, cS, fin, said2, came⟩ : Ix) ⟨hRl, hq166, by dsimp only; rw [mark_len]; exact hL2, hLS, by dsimp only; rw [mark_len]; omega, by dsimp only; omega, hSo⟩ (by first | exact Go.Sl.Cov.refl _ | (intro p; simp only [List.flatten_cons, List.flatten_nil, List.flatten_append, List.append_nil, List.nil_append, Go.Sl.cnt_append, Go.Sl.cnt_cons, Go.Sl.cnt_nil, List.set_cons_zero, List.set_cons_succ, List.length_nil, List.length_cons, Nat.zero_add, List.append]; omega)) ⟨congrArg (fun z => some (Value.slice ao z cap)) (mark_len (M := M)).symm, rfl, rfl, congrArg (fun z => some (Value.bool z)) hsd, rfl, (by repeat (first | exact True.intro | refine And.intro rfl ?_))⟩
      · have hwf : m.written at_ sz = false := by simpa using hwr
        rw [if_neg hwr, hwf, Bool.false_and, Bool.or_false] at hRc
        rw [if_neg hwr, hwf, Bool.false_and, if_neg (by decide)] at hRl
        rw [hwf]
        refine Go.Sl.cw_seq ?_
        refine Go.Sl.cw_region ?_
        refine Go.Sl.ow_val rfl rfl (Go.Sl.v_move rfl) ?_
        refine Go.Sl.ow_val rfl rfl (Go.Sl.v_move rfl) ?_
        refine Go.Sl.ow_skip rfl rfl ?_
        refine Go.Sl.ow_val rfl rfl (Go.Sl.v_pick_false rfl rfl) ?_
        refine Go.Sl.ow_val rfl rfl (Go.Sl.v_move rfl) ?_
        refine Go.Sl.ow_skip rfl rfl ?_
        refine Go.Sl.ow_val rfl rfl (Go.Sl.v_pick_false rfl rfl) ?_
        refine Go.Sl.ow_val rfl rfl (Go.Sl.v_move rfl) ?_
        refine Go.Sl.ow_skip rfl rfl ?_
        refine Go.Sl.ow_skip rfl rfl ?_
        refine Go.Sl.ow_skip rfl rfl ?_
        refine Go.Sl.ow_skip rfl rfl ?_
        refine Go.Sl.ow_skip rfl rfl ?_
        refine Go.Sl.ow_skip rfl rfl ?_
        refine Go.Sl.ow_skip rfl rfl ?_
        refine Go.Sl.ow_skip rfl rfl ?_
        refine Go.Sl.ow_val rfl rfl (Go.Sl.v_pick_false rfl rfl) ?_
        refine Go.Sl.ow_val rfl rfl (Go.Sl.v_assign rfl) ?_
        refine Go.Sl.ow_nil ?_
        refine Go.Sl.xw_then ?_
        refine Go.Sl.cw_seq ?_
        refine Go.Sl.cw_seq ?_
        refine Go.Sl.cw_region ?_
        refine Go.Sl.ow_val rfl rfl (Go.Sl.v_move rfl) ?_
        refine Go.Sl.ow_val rfl rfl (Go.Sl.v_lss rfl rfl) ?_
        refine Go.Sl.ow_nil ?_
        refine Go.Sl.xw_then ?_
        refine Go.Sl.cw_dec rfl (fun hc139 => ?_) (fun hc139 => ?_)
        refine Go.Sl.cw_seq ?_
        refine Go.Sl.cw_region ?_
        refine Go.Sl.ow_val rfl rfl (Go.Sl.v_move rfl) ?_
        refine Go.Sl.ow_val rfl rfl (Go.Sl.v_move rfl) ?_
        refine Go.Sl.ow_val rfl rfl (Go.Sl.v_move rfl) ?_
        refine Go.Sl.ow_val rfl rfl (Go.Sl.v_move rfl) ?_
        (refine Go.Sl.ow_call rfl rfl rfl rfl (hcm (by repeat (first | exact Go.Sl.Sel.here | apply Go.Sl.Sel.there))) ?_; rintro _ _ ⟨x144, rfl, hq144, rfl⟩)
        refine Go.Sl.ow_nil ?_
        refine Go.Sl.xw_then ?_
        refine Go.Sl.cw_seq ?_
        refine Go.Sl.cw_seq ?_
        refine Go.Sl.cw_region ?_
        refine Go.Sl.ow_val rfl rfl (Go.Sl.v_move rfl) ?_
        refine Go.Sl.ow_nil ?_
        refine Go.Sl.xw_then ?_
        refine Go.Sl.cw_false rfl ?_
        refine Go.Sl.cw_skip ?_
        refine Go.Sl.xw_then ?_
        refine Go.Sl.cw_seq ?_
        refine Go.Sl.cw_region ?_
        refine Go.Sl.ow_val rfl rfl (Go.Sl.v_move rfl) ?_
        refine Go.Sl.ow_val rfl rfl (Go.Sl.v_move rfl) ?_
        refine Go.Sl.ow_bool 159 rfl (fun hc159 => ?_) (fun hc159 => ?_)
        refine Go.Sl.ow_skip rfl rfl ?_
        refine Go.Sl.ow_val rfl rfl (Go.Sl.v_pick_true rfl rfl) ?_
        refine Go.Sl.ow_val rfl rfl (Go.Sl.v_assign rfl) ?_
        refine Go.Sl.ow_nil ?_
        refine Go.Sl.xw_then ?_
        refine Go.Sl.cw_exit ?_
        refine Go.Sl.xw_then_exit ?_
        refine Go.Sl.xw_block_exit ?_
        rotate_left
        refine Go.Sl.ow_val rfl rfl (Go.Sl.v_move rfl) ?_
        refine Go.Sl.ow_val rfl rfl (Go.Sl.v_pick_false rfl rfl) ?_
        refine Go.Sl.ow_val rfl rfl (Go.Sl.v_assign rfl) ?_
        refine Go.Sl.ow_nil ?_
        refine Go.Sl.xw_then ?_
        refine Go.Sl.cw_exit ?_
        refine Go.Sl.xw_then_exit ?_
        refine Go.Sl.xw_block_exit ?_
        rotate_left
        refine Go.Sl.cw_skip ?_
        refine Go.Sl.xw_then ?_
        refine Go.Sl.cw_seq ?_
        refine Go.Sl.cw_region ?_
        refine Go.Sl.ow_val rfl rfl (Go.Sl.v_move rfl) ?_
        refine Go.Sl.ow_val rfl rfl (Go.Sl.v_move rfl) ?_
        refine Go.Sl.ow_val rfl rfl (Go.Sl.v_move rfl) ?_
        refine Go.Sl.ow_val rfl rfl (Go.Sl.v_move rfl) ?_
        (refine Go.Sl.ow_call rfl rfl rfl rfl (hlo (by repeat (first | exact Go.Sl.Sel.here | apply Go.Sl.Sel.there))) ?_; rintro _ _ ⟨x166, rfl, hq166, rfl⟩)
        refine Go.Sl.ow_nil ?_
        refine Go.Sl.xw_then ?_
        refine Go.Sl.cw_seq ?_
        refine Go.Sl.cw_region ?_
        refine Go.Sl.ow_val rfl rfl (Go.Sl.v_move rfl) ?_
        refine Go.Sl.ow_nil ?_
        refine Go.Sl.xw_then ?_
        refine Go.Sl.cw_false rfl ?_
        refine Go.Sl.cw_skip ?_
        refine Go.Sl.xw_block ?_
        rotate_left
        · exact xw_joint (⟨i + 1, m.gotIt at_ sz f2, x144, M, ao, cap, cM, S, ao2, cap2, cS, fin, said, came⟩ : Ix) ⟨hRc, hq144, hL, hLS, by dsimp only; omega, by dsimp only; omega, hSo⟩ (by first | exact Go.Sl.Cov.refl _ | (intro p; simp only [List.flatten_cons, List.flatten_nil, List.flatten_append, List.append_nil, List.nil_append, Go.Sl.cnt_append, Go.Sl.cnt_cons, Go.Sl.cnt_nil, List.set_cons_zero, List.set_cons_succ, List.length_nil, List.length_cons, Nat.zero_add, List.append]; omega)) ⟨rfl, rfl, rfl, rfl, by rw [hc159]; rfl, (by repeat (first | exact True.intro | refine And.intro rfl ?_))⟩
        · exact xw_joint (⟨i + 1, m.gotIt at_ sz f2, x144, M, ao, cap, cM, S, ao2, cap2, cS, fin, said, came⟩ : Ix) ⟨hRc, hq144, hL, hLS, by dsimp only; omega, by dsimp only; omega, hSo⟩ (by first | exact Go.Sl.Cov.refl _ | (intro p; simp only [List.flatten_cons, List.flatten_nil, List.flatten_append, List.append_nil, List.nil_append, Go.Sl.cnt_append, Go.Sl.cnt_cons, Go.Sl.cnt_nil, List.set_cons_zero, List.set_cons_succ, List.length_nil, List.length_cons, Nat.zero_add, List.append]; omega)) ⟨rfl, rfl, rfl, rfl, by rw [hc159]; rfl, (by repeat (first | exact True.intro | refine And.intro rfl ?_))⟩
        · exact xw_joint (⟨i + 1, m.lostIt at_ sz f2, x166, M, ao, cap, cM, S, ao2, cap2, cS, fin, said, came⟩ : Ix) ⟨hRl, hq166, hL, hLS, by dsimp only; omega, by dsimp only; omega, hSo⟩ (by first | exact Go.Sl.Cov.refl _ | (intro p; simp only [List.flatten_cons, List.flatten_nil, List.flatten_append, List.append_nil, List.nil_append, Go.Sl.cnt_append, Go.Sl.cnt_cons, Go.Sl.cnt_nil, List.set_cons_zero, List.set_cons_succ, List.length_nil, List.length_cons, Nat.zero_add, List.append]; omega)) (by repeat (first | exact True.intro | refine And.intro rfl ?_))
  ·
    rintro ⟨_, m, c, M, ao, cap, cM, S, ao2, cap2, cS, fin, said, came⟩ ⟨hR, hO, hL, hLS, hMl, hSl, hSo⟩
    dsimp only at hR hO hL hLS hMl hSl hSo ⊢
    have hw := hR.wf
    obtain ⟨b, hb1, hb2, hb3, hb4⟩ := hR.all_
    refine Go.Sl.cw_seq ?_
    refine Go.Sl.cw_region ?_
    refine Go.Sl.ow_val rfl rfl (Go.Sl.v_assign rfl) ?_
    refine Go.Sl.ow_val rfl rfl (Go.Sl.v_assign rfl) ?_
    refine Go.Sl.ow_nil ?_
    refine Go.Sl.xw_then ?_
    refine Go.Sl.cw_cut2 (ι := (Unit)) [(0, _), (3, _), (4, _), (5, _), (6, _), (7, _), (8, _), (36, _), (45, _), (46, _), (47, _)] ⟨rfl, rfl, rfl, rfl, rfl, rfl, rfl, rfl, rfl, rfl, rfl, trivial⟩ ((fun _ => [(35, .int .u64 b)])) ((fun _ => True)) ((fun _ => c :: cM :: cS :: F)) ?_ ?_
    · refine Go.Sl.cw_block ?_
      refine Go.Sl.cw_loop2 (ι := (Nat)) [(0, _), (3, _), (4, _), (5, _), (6, _), (7, _), (8, _), (36, _), (45, _), (46, _), (47, _)] ⟨rfl, rfl, rfl, rfl, rfl, rfl, rfl, rfl, rfl, rfl, rfl, trivial⟩ ((fun n => [(35, .int .u64 n)])) ((fun n => n ≤ b)) ((fun n => b - n)) ((fun _ => c :: cM :: cS :: F)) (0) (by repeat (first | exact True.intro | refine And.intro rfl ?_)) (by first | exact Go.Sl.Cov.refl _ | (intro p; simp only [List.flatten_cons, List.flatten_nil, List.flatten_append, List.append_nil, List.nil_append, Go.Sl.cnt_append, Go.Sl.cnt_cons, Go.Sl.cnt_nil, List.set_cons_zero, List.set_cons_succ, List.length_nil, List.length_cons, Nat.zero_add, List.append]; omega)) ?_ ?_
      · exact Nat.zero_le _
      rintro n hn
      refine Go.Sl.cw_seq ?_
      refine Go.Sl.cw_seq ?_
      refine Go.Sl.cw_region ?_
      refine Go.Sl.ow_val rfl rfl (Go.Sl.v_move rfl) ?_
      refine Go.Sl.ow_val rfl rfl (Go.Sl.v_convert Try.underlying23 Try.underlying3 rfl (Go.Sl.nw_i64 (by omega) (by omega))) ?_
      refine Go.Sl.ow_val rfl rfl (Go.Sl.v_move rfl) ?_
      refine Go.Sl.ow_val rfl rfl (Go.Sl.v_len rfl Try.underlying98 rfl) ?_
      refine Go.Sl.ow_val rfl rfl (Go.Sl.v_lss rfl rfl) ?_
      refine Go.Sl.ow_val rfl rfl (Go.Sl.v_move rfl) ?_
      refine Go.Sl.ow_dec 420 rfl (fun hc420 => ?_) (fun hc420 => ?_)
      refine Go.Sl.ow_val rfl rfl (Go.Sl.v_move rfl) ?_
      refine Go.Sl.ow_val rfl rfl (Go.Sl.v_move rfl) ?_
      refine Go.Sl.ow_val rfl rfl (Go.Sl.v_indexAddr_ls Try.underlying98 (plTy) rfl rfl (by assumption) rfl (by omega)) ?_
      refine Go.Sl.ow_val rfl rfl (Go.Sl.v_fieldAddr Ty.fd103_1 rfl) ?_
      refine Go.Sl.ow_val rfl rfl (Go.Sl.v_load rfl (Go.Sl.Vw.fld1 (plTy) Ty.sc5 ((hL.vw (by repeat (first | exact Go.Sl.Sub.here | assumption | refine Go.Sl.Sub.there ?_)))) (by omega) rfl)) ?_
      refine Go.Sl.ow_val rfl rfl (Go.Sl.v_eql rfl rfl) ?_
      refine Go.Sl.ow_val rfl rfl (Go.Sl.v_pick_true rfl rfl) ?_
      refine Go.Sl.ow_nil ?_
      refine Go.Sl.xw_then ?_
      refine Go.Sl.cw_dec rfl (fun hc427 => ?_) (fun hc427 => ?_)
      refine Go.Sl.cw_skip ?_
      refine Go.Sl.xw_then ?_
      refine Go.Sl.cw_block ?_
      refine Go.Sl.cw_region ?_
      refine Go.Sl.ow_val rfl rfl (Go.Sl.v_move rfl) ?_
      refine Go.Sl.ow_val rfl rfl (Go.Sl.v_add rfl rfl (Go.Sl.nw_u64 (by omega) (by omega))) ?_
      refine Go.Sl.ow_val rfl rfl (Go.Sl.v_assign rfl) ?_
      refine Go.Sl.ow_nil ?_
      refine Go.Sl.xw_block ?_
      rotate_left
      refine Go.Sl.cw_exit ?_
      refine Go.Sl.xw_then_exit ?_
      refine Go.Sl.xw_round_exit ?_
      refine Go.Sl.xw_block_exit ?_
      rotate_left
      refine Go.Sl.ow_skip rfl rfl ?_
      refine Go.Sl.ow_skip rfl rfl ?_
      refine Go.Sl.ow_skip rfl rfl ?_
      refine Go.Sl.ow_skip rfl rfl ?_
      refine Go.Sl.ow_skip rfl rfl ?_
      refine Go.Sl.ow_skip rfl rfl ?_
      refine Go.Sl.ow_val rfl rfl (Go.Sl.v_pick_false rfl rfl) ?_
      refine Go.Sl.ow_nil ?_
      refine Go.Sl.xw_then ?_
      refine Go.Sl.cw_false rfl ?_
      refine Go.Sl.cw_exit ?_
      refine Go.Sl.xw_then_exit ?_
      refine Go.Sl.xw_round_exit ?_
      refine Go.Sl.xw_block_exit ?_
      rotate_left
      · have hlt : n < b := by
          rcases Nat.lt_or_ge n b with h | h
          · exact h
          · have hnb : n = b := by omega
            subst hnb
            exact absurd hc427 (hb4 (by omega))
        exact xw_round (n + 1) (by omega) (by omega) (by first | exact Go.Sl.Cov.refl _ | (intro p; simp only [List.flatten_cons, List.flatten_nil, List.flatten_append, List.append_nil, List.nil_append, Go.Sl.cnt_append, Go.Sl.cnt_cons, Go.Sl.cnt_nil, List.set_cons_zero, List.set_cons_succ, List.length_nil, List.length_cons, Nat.zero_add, List.append]; omega)) (by repeat (first | exact True.intro | refine And.intro rfl ?_))
      · have hnb : n = b := by
          rcases Nat.lt_or_ge n b with h | h
          · exact absurd (hb3 n (by omega) h) hc427
          · omega
        subst hnb
        exact xw_joint () trivial (by first | exact Go.Sl.Cov.refl _ | (intro p; simp only [List.flatten_cons, List.flatten_nil, List.flatten_append, List.append_nil, List.nil_append, Go.Sl.cnt_append, Go.Sl.cnt_cons, Go.Sl.cnt_nil, List.set_cons_zero, List.set_cons_succ, List.length_nil, List.length_cons, Nat.zero_add, List.append]; omega)) (by repeat (first | exact True.intro | refine And.intro rfl ?_))
      · have hnb : n = b := by omega
        subst hnb
        exact xw_joint () trivial (by first | exact Go.Sl.Cov.refl _ | (intro p; simp only [List.flatten_cons, List.flatten_nil, List.flatten_append, List.append_nil, List.nil_append, Go.Sl.cnt_append, Go.Sl.cnt_cons, Go.Sl.cnt_nil, List.set_cons_zero, List.set_cons_succ, List.length_nil, List.length_cons, Nat.zero_add, List.append]; omega)) (by repeat (first | exact True.intro | refine And.intro rfl ?_))
    rintro _ _
    skip
    refine Go.Sl.cw_cut2 (ι := (Unit)) [(0, _), (3, _), (4, _), (5, _), (6, _), (7, _), (8, _), (35, _), (45, _), (46, _), (47, _)] ⟨rfl, rfl, rfl, rfl, rfl, rfl, rfl, rfl, rfl, rfl, rfl, trivial⟩ ((fun _ => [(36, .int .u64 (waitC M : Nat))])) ((fun _ => True)) ((fun _ => c :: cM :: cS :: F)) ?_ ?_
    · refine Go.Sl.cw_seq ?_
      refine Go.Sl.cw_region ?_
      refine Go.Sl.ow_val rfl rfl (Go.Sl.v_move rfl) ?_
      refine Go.Sl.ow_val rfl rfl (Go.Sl.v_len rfl Try.underlying98 rfl) ?_
      refine Go.Sl.ow_val rfl rfl (Go.Sl.v_move rfl) ?_
      refine Go.Sl.ow_nil ?_
      refine Go.Sl.xw_then ?_
      refine Go.Sl.cw_block ?_
      refine Go.Sl.cw_loop2 (ι := (Nat)) [(0, _), (3, _), (4, _), (5, _), (6, _), (7, _), (8, _), (35, _), (45, _), (46, _), (47, _), (430, _), (431, _)] ⟨rfl, rfl, rfl, rfl, rfl, rfl, rfl, rfl, rfl, rfl, rfl, rfl, rfl, trivial⟩ ((fun j => [(36, .int .u64 (waitC (M.take j) : Nat)), (432, .int .i64 j)])) ((fun j => j ≤ M.length)) ((fun j => M.length - j)) ((fun _ => c :: cM :: cS :: F)) (0) (by repeat (first | exact True.intro | refine And.intro rfl ?_)) (by first | exact Go.Sl.Cov.refl _ | (intro p; simp only [List.flatten_cons, List.flatten_nil, List.flatten_append, List.append_nil, List.nil_append, Go.Sl.cnt_append, Go.Sl.cnt_cons, Go.Sl.cnt_nil, List.set_cons_zero, List.set_cons_succ, List.length_nil, List.length_cons, Nat.zero_add, List.append]; omega)) ?_ ?_
      · exact Nat.zero_le _
      rintro j hj
      have hwj : waitC (M.take j) ≤ M.length := by
        have := List.countP_le_length (p := fun p : Pl => decide (p.s = 0)) (l := M.take j)
        rw [List.length_take] at this
        unfold waitC
        omega
      refine Go.Sl.cw_seq ?_
      refine Go.Sl.cw_region ?_
      refine Go.Sl.ow_val rfl rfl (Go.Sl.v_lss rfl rfl) ?_
      refine Go.Sl.ow_nil ?_
      refine Go.Sl.xw_then ?_
      refine Go.Sl.cw_seq ?_
      refine Go.Sl.cw_dec rfl (fun hc433 => ?_) (fun hc433 => ?_)
      refine Go.Sl.cw_skip ?_
      refine Go.Sl.xw_then ?_
      rotate_left
      refine Go.Sl.cw_exit ?_
      refine Go.Sl.xw_then_exit ?_
      refine Go.Sl.xw_round_exit ?_
      refine Go.Sl.xw_block_exit ?_
      rotate_left
      · have hj2 : j < M.length := by omega
        have hokj := hL.ok _ (List.getElem_mem hj2)
        have hj3 := plTy.len _ hokj
        have hj4 := plTy.one _ hokj
        have hsu := waitC_succ hj2
        refine Go.Sl.cw_seq ?_
        refine Go.Sl.cw_block ?_
        refine Go.Sl.cw_seq ?_
        refine Go.Sl.cw_region ?_
        refine Go.Sl.ow_val rfl rfl (Go.Sl.v_indexAddr_ls Try.underlying98 (plTy) rfl rfl (by assumption) rfl (by omega)) ?_
        refine Go.Sl.ow_val rfl rfl (Go.Sl.v_load rfl (Go.Sl.Vw.var (plTy) ((hL.vw (by repeat (first | exact Go.Sl.Sub.here | assumption | refine Go.Sl.Sub.there ?_)))) (by omega))) ?_
        (refine Go.Sl.ow_alloc rfl rfl Ty.ze103 ?_; intro b38)
        refine Go.Sl.ow_storeE rfl (plTy) rfl rfl .here (by first | rfl | assumption) (by assumption) ?_
        refine Go.Sl.ow_nil ?_
        refine Go.Sl.xw_then ?_
        refine Go.Sl.cw_seq ?_
        refine Go.Sl.cw_region ?_
        refine Go.Sl.ow_val rfl rfl (Go.Sl.v_fieldAddr0 Ty.fd103_1 rfl) ?_
        refine Go.Sl.ow_val rfl rfl (Go.Sl.v_load rfl (Go.Sl.Var.at1 Ty.sc5 .here (Go.Sl.GetN.lit rfl))) ?_
        refine Go.Sl.ow_val rfl rfl (Go.Sl.v_eql rfl rfl) ?_
        refine Go.Sl.ow_nil ?_
        refine Go.Sl.xw_then ?_
        refine Go.Sl.cw_dec rfl (fun hc438 => ?_) (fun hc438 => ?_)
        refine Go.Sl.cw_region ?_
        refine Go.Sl.ow_val rfl rfl (Go.Sl.v_move rfl) ?_
        refine Go.Sl.ow_val rfl rfl (Go.Sl.v_add rfl rfl (Go.Sl.nw_u64 (by omega) (by omega))) ?_
        refine Go.Sl.ow_val rfl rfl (Go.Sl.v_assign rfl) ?_
        refine Go.Sl.ow_nil ?_
        refine Go.Sl.xw_block ?_
        refine Go.Sl.xw_then ?_
        refine Go.Sl.cw_region ?_
        refine Go.Sl.ow_val rfl rfl (Go.Sl.v_add rfl rfl (Go.Sl.nw_i64 (by omega) (by omega))) ?_
        refine Go.Sl.ow_val rfl rfl (Go.Sl.v_move rfl) ?_
        refine Go.Sl.ow_nil ?_
        rotate_left
        refine Go.Sl.cw_skip ?_
        refine Go.Sl.xw_block ?_
        refine Go.Sl.xw_then ?_
        refine Go.Sl.cw_region ?_
        refine Go.Sl.ow_val rfl rfl (Go.Sl.v_add rfl rfl (Go.Sl.nw_i64 (by omega) (by omega))) ?_
        refine Go.Sl.ow_val rfl rfl (Go.Sl.v_move rfl) ?_
        refine Go.Sl.ow_nil ?_
        rotate_left
        · rw [if_pos hc438] at hsu
          exact xw_round (j + 1) (by omega) (by omega) (by first | exact Go.Sl.Cov.refl _ | (intro p; simp only [List.flatten_cons, List.flatten_nil, List.flatten_append, List.append_nil, List.nil_append, Go.Sl.cnt_append, Go.Sl.cnt_cons, Go.Sl.cnt_nil, List.set_cons_zero, List.set_cons_succ, List.length_nil, List.length_cons, Nat.zero_add, List.append]; omega)) ⟨by rw [hsu]; rfl, (by repeat (first | exact True.intro | refine And.intro rfl ?_))⟩
        · rw [if_neg hc438] at hsu
          exact xw_round (j + 1) (by omega) (by omega) (by first | exact Go.Sl.Cov.refl _ | (intro p; simp only [List.flatten_cons, List.flatten_nil, List.flatten_append, List.append_nil, List.nil_append, Go.Sl.cnt_append, Go.Sl.cnt_cons, Go.Sl.cnt_nil, List.set_cons_zero, List.set_cons_succ, List.length_nil, List.length_cons, Nat.zero_add, List.append]; omega)) ⟨by rw [hsu]; rfl, (by repeat (first | exact True.intro | refine And.intro rfl ?_))⟩
      · have hx : M.take j = M := List.take_of_length_le (by omega)
        rw [hx]
        exact xw_joint () trivial (by first | exact Go.Sl.Cov.refl _ | (intro p; simp only [List.flatten_cons, List.flatten_nil, List.flatten_append, List.append_nil, List.nil_append, Go.Sl.cnt_append, Go.Sl.cnt_cons, Go.Sl.cnt_nil, List.set_cons_zero, List.set_cons_succ, List.length_nil, List.length_cons, Nat.zero_add, List.append]; omega)) (by repeat (first | exact True.intro | refine And.intro rfl ?_))
    rintro _ _
    have hpl : ∀ {G : List Hp}, Go.Sl.Sub c G → Go.Sl.Fn Try.prog 63 #[.pointer (some ⟨x44.1, 0, none⟩)] B w0 G fun u G' => u = .tuple #[.int .u64 b, .int .u64 (waitC M : Nat), .bool fin] ∧ G' = G := fun hs => by
      have h := outPlaces_c (B := B) (w0 := w0) hO hs hw
      rw [hb1, hR.count, hR.fin_] at h
      exact h
    have hst : ∀ {G : List Hp}, Go.Sl.Sub c G → Go.Sl.Fn Try.prog 64 #[.pointer (some ⟨x44.1, 0, none⟩)] B w0 G fun u G' => u = .int .u64 M.length ∧ G' = G := fun hs => by
      have h := outStop_c (B := B) (w0 := w0) hO hs hw
      rw [hR.len] at h
      exact h
    have hdo : ∀ {G : List Hp}, Go.Sl.Sub c G → Go.Sl.Fn Try.prog 42 #[.pointer (some ⟨x44.1, 0, none⟩)] B w0 G fun u G' => u = .bool (came && decide ((b : Int) = M.length)) ∧ G' = G := fun hs => by
      have h := outDone_c (B := B) (w0 := w0) hO hs hw
      rw [hR.endCame, show decide (m.data.length = 0) = decide ((b : Int) = M.length) from decide_eq_decide.2 (by have := hR.len; omega)] at h
      exact h
    have hwa : ∀ {G : List Hp}, Go.Sl.Sub c G → Go.Sl.Fn Try.prog 41 #[.pointer (some ⟨x44.1, 0, none⟩)] B w0 G fun u G' => u = .bool (decide (0 < ((waitC M : Nat) : Int)) || (fin && (!came && !said))) ∧ G' = G := fun hs => by
      have h := outWaits_c (B := B) (w0 := w0) hO hs hw
      rw [hR.waits, show decide (0 < m.pend.length) = decide (0 < ((waitC M : Nat) : Int)) from decide_eq_decide.2 (by rw [hR.pendLen]; omega), Bool.or_comm] at h
      exact h
    refine Go.Sl.cw_seq ?_
    refine Go.Sl.cw_region ?_
    refine Go.Sl.ow_val rfl rfl (Go.Sl.v_move rfl) ?_
    refine Go.Sl.ow_val rfl rfl (Go.Sl.v_call rfl rfl (hpl (by repeat (first | exact Go.Sl.Sub.here | assumption | refine Go.Sl.Sub.there ?_)))) ?_
    refine Go.Sl.ow_val rfl rfl (Go.Sl.v_move rfl) ?_
    refine Go.Sl.ow_val rfl rfl (Go.Sl.v_extract rfl rfl) ?_
    refine Go.Sl.ow_val rfl rfl (Go.Sl.v_extract rfl rfl) ?_
    refine Go.Sl.ow_val rfl rfl (Go.Sl.v_extract rfl rfl) ?_
    refine Go.Sl.ow_val rfl rfl (Go.Sl.v_assign rfl) ?_
    refine Go.Sl.ow_val rfl rfl (Go.Sl.v_assign rfl) ?_
    refine Go.Sl.ow_val rfl rfl (Go.Sl.v_assign rfl) ?_
    refine Go.Sl.ow_nil ?_
    refine Go.Sl.xw_then ?_
    refine Go.Sl.cw_seq ?_
    refine Go.Sl.cw_region ?_
    refine Go.Sl.ow_val rfl rfl (Go.Sl.v_move rfl) ?_
    refine Go.Sl.ow_val rfl rfl (Go.Sl.v_move rfl) ?_
    refine Go.Sl.ow_val rfl rfl (Go.Sl.v_neq rfl rfl) ?_
    refine Go.Sl.ow_val rfl rfl (Go.Sl.v_move rfl) ?_
    refine Go.Sl.ow_dec 451 rfl (fun hc451 => ?_) (fun hc451 => ?_)
    (exfalso; omega)
    refine Go.Sl.ow_val rfl rfl (Go.Sl.v_move rfl) ?_
    refine Go.Sl.ow_val rfl rfl (Go.Sl.v_move rfl) ?_
    refine Go.Sl.ow_val rfl rfl (Go.Sl.v_neq rfl rfl) ?_
    refine Go.Sl.ow_val rfl rfl (Go.Sl.v_pick_false rfl rfl) ?_
    refine Go.Sl.ow_val rfl rfl (Go.Sl.v_move rfl) ?_
    refine Go.Sl.ow_dec 456 rfl (fun hc456 => ?_) (fun hc456 => ?_)
    (exfalso; omega)
    refine Go.Sl.ow_val rfl rfl (Go.Sl.v_move rfl) ?_
    refine Go.Sl.ow_val rfl rfl (Go.Sl.v_move rfl) ?_
    refine Go.Sl.ow_val rfl rfl (Go.Sl.v_neqB Try.underlying4 rfl rfl) ?_
    refine Go.Sl.ow_val rfl rfl (Go.Sl.v_pick_false rfl rfl) ?_
    refine Go.Sl.ow_val rfl rfl (Go.Sl.v_move rfl) ?_
    refine Go.Sl.ow_dec 461 rfl (fun hc461 => ?_) (fun hc461 => ?_)
    refine Go.Sl.ow_skip rfl rfl ?_
    refine Go.Sl.ow_skip rfl rfl ?_
    refine Go.Sl.ow_skip rfl rfl ?_
    refine Go.Sl.ow_skip rfl rfl ?_
    refine Go.Sl.ow_skip rfl rfl ?_
    refine Go.Sl.ow_skip rfl rfl ?_
    refine Go.Sl.ow_val rfl rfl (Go.Sl.v_pick_true rfl rfl) ?_
    refine Go.Sl.ow_val rfl rfl (Go.Sl.v_move rfl) ?_
    refine Go.Sl.ow_skip rfl rfl ?_
    refine Go.Sl.ow_skip rfl rfl ?_
    refine Go.Sl.ow_skip rfl rfl ?_
    refine Go.Sl.ow_skip rfl rfl ?_
    refine Go.Sl.ow_skip rfl rfl ?_
    refine Go.Sl.ow_skip rfl rfl ?_
    refine Go.Sl.ow_skip rfl rfl ?_
    refine Go.Sl.ow_skip rfl rfl ?_
    refine Go.Sl.ow_skip rfl rfl ?_
    refine Go.Sl.ow_skip rfl rfl ?_
    refine Go.Sl.ow_skip rfl rfl ?_
    refine Go.Sl.ow_val rfl rfl (Go.Sl.v_pick_true rfl rfl) ?_
    refine Go.Sl.ow_val rfl rfl (Go.Sl.v_move rfl) ?_
    refine Go.Sl.ow_skip rfl rfl ?_
    refine Go.Sl.ow_skip rfl rfl ?_
    refine Go.Sl.ow_skip rfl rfl ?_
    refine Go.Sl.ow_skip rfl rfl ?_
    refine Go.Sl.ow_skip rfl rfl ?_
    refine Go.Sl.ow_skip rfl rfl ?_
    refine Go.Sl.ow_skip rfl rfl ?_
    refine Go.Sl.ow_skip rfl rfl ?_
    refine Go.Sl.ow_skip rfl rfl ?_
    refine Go.Sl.ow_skip rfl rfl ?_
    refine Go.Sl.ow_skip rfl rfl ?_
    refine Go.Sl.ow_skip rfl rfl ?_
    refine Go.Sl.ow_skip rfl rfl ?_
    refine Go.Sl.ow_skip rfl rfl ?_
    refine Go.Sl.ow_skip rfl rfl ?_
    refine Go.Sl.ow_skip rfl rfl ?_
    refine Go.Sl.ow_val rfl rfl (Go.Sl.v_pick_true rfl rfl) ?_
    refine Go.Sl.ow_nil ?_
    refine Go.Sl.xw_then ?_
    refine Go.Sl.cw_true rfl ?_
    refine Go.Sl.cw_seq ?_
    refine Go.Sl.cw_region ?_
    refine Go.Sl.ow_val rfl rfl (Go.Sl.v_assign rfl) ?_
    refine Go.Sl.ow_nil ?_
    refine Go.Sl.xw_then ?_
    refine Go.Sl.cw_ret ?_
    refine Go.Sl.xw_block_ret ?_
    refine Go.Sl.xw_then_ret ?_
    refine Go.Sl.xw_round_ret ?_
    refine Go.Sl.xw_block_ret ?_
    refine Go.Sl.xw_then_ret ?_
    refine Go.Sl.ret1 rfl (Go.Sl.res_tmp rfl) ?_
    rotate_left
    refine Go.Sl.ow_val rfl rfl (Go.Sl.v_move rfl) ?_
    refine Go.Sl.ow_val rfl rfl (Go.Sl.v_call rfl rfl (hst (by repeat (first | exact Go.Sl.Sub.here | assumption | refine Go.Sl.Sub.there ?_)))) ?_
    refine Go.Sl.ow_val rfl rfl (Go.Sl.v_move rfl) ?_
    refine Go.Sl.ow_val rfl rfl (Go.Sl.v_len rfl Try.underlying98 rfl) ?_
    refine Go.Sl.ow_val rfl rfl (Go.Sl.v_convert Try.underlying3 Try.underlying23 rfl (Go.Sl.nw_u64 (by omega) (by omega))) ?_
    refine Go.Sl.ow_val rfl rfl (Go.Sl.v_neq rfl rfl) ?_
    refine Go.Sl.ow_val rfl rfl (Go.Sl.v_pick_false rfl rfl) ?_
    refine Go.Sl.ow_val rfl rfl (Go.Sl.v_move rfl) ?_
    refine Go.Sl.ow_dec 469 rfl (fun hc469 => ?_) (fun hc469 => ?_)
    (exfalso; omega)
    refine Go.Sl.ow_val rfl rfl (Go.Sl.v_move rfl) ?_
    refine Go.Sl.ow_val rfl rfl (Go.Sl.v_call rfl rfl (hdo (by repeat (first | exact Go.Sl.Sub.here | assumption | refine Go.Sl.Sub.there ?_)))) ?_
    refine Go.Sl.ow_val rfl rfl (Go.Sl.v_move rfl) ?_
    refine Go.Sl.ow_val rfl rfl (Go.Sl.v_move rfl) ?_
    refine Go.Sl.ow_bool 473 rfl (fun hc473 => ?_) (fun hc473 => ?_)
    refine Go.Sl.ow_val rfl rfl (Go.Sl.v_move rfl) ?_
    refine Go.Sl.ow_val rfl rfl (Go.Sl.v_convert Try.underlying23 Try.underlying3 rfl (Go.Sl.nw_i64 (by omega) (by omega))) ?_
    refine Go.Sl.ow_val rfl rfl (Go.Sl.v_move rfl) ?_
    refine Go.Sl.ow_val rfl rfl (Go.Sl.v_len rfl Try.underlying98 rfl) ?_
    refine Go.Sl.ow_val rfl rfl (Go.Sl.v_eql rfl rfl) ?_
    refine Go.Sl.ow_val rfl rfl (Go.Sl.v_pick_true rfl rfl) ?_
    refine Go.Sl.ow_val rfl rfl (Go.Sl.v_neqB Try.underlying4 rfl rfl) ?_
    refine Go.Sl.ow_val rfl rfl (Go.Sl.v_pick_false rfl rfl) ?_
    refine Go.Sl.ow_val rfl rfl (Go.Sl.v_move rfl) ?_
    refine Go.Sl.ow_dec 482 rfl (fun hc482 => ?_) (fun hc482 => ?_)
    refine Go.Sl.ow_skip rfl rfl ?_
    refine Go.Sl.ow_skip rfl rfl ?_
    refine Go.Sl.ow_skip rfl rfl ?_
    refine Go.Sl.ow_skip rfl rfl ?_
    refine Go.Sl.ow_skip rfl rfl ?_
    refine Go.Sl.ow_skip rfl rfl ?_
    refine Go.Sl.ow_skip rfl rfl ?_
    refine Go.Sl.ow_skip rfl rfl ?_
    refine Go.Sl.ow_skip rfl rfl ?_
    refine Go.Sl.ow_skip rfl rfl ?_
    refine Go.Sl.ow_skip rfl rfl ?_
    refine Go.Sl.ow_skip rfl rfl ?_
    refine Go.Sl.ow_skip rfl rfl ?_
    refine Go.Sl.ow_skip rfl rfl ?_
    refine Go.Sl.ow_skip rfl rfl ?_
    refine Go.Sl.ow_skip rfl rfl ?_
    refine Go.Sl.ow_val rfl rfl (Go.Sl.v_pick_true rfl rfl) ?_
    refine Go.Sl.ow_nil ?_
    refine Go.Sl.xw_then ?_
    refine Go.Sl.cw_true rfl ?_
    refine Go.Sl.cw_seq ?_
    refine Go.Sl.cw_region ?_
    refine Go.Sl.ow_val rfl rfl (Go.Sl.v_assign rfl) ?_
    refine Go.Sl.ow_nil ?_
    refine Go.Sl.xw_then ?_
    refine Go.Sl.cw_ret ?_
    refine Go.Sl.xw_block_ret ?_
    refine Go.Sl.xw_then_ret ?_
    refine Go.Sl.xw_round_ret ?_
    refine Go.Sl.xw_block_ret ?_
    refine Go.Sl.xw_then_ret ?_
    refine Go.Sl.ret1 rfl (Go.Sl.res_tmp rfl) ?_
    rotate_left
    refine Go.Sl.ow_val rfl rfl (Go.Sl.v_move rfl) ?_
    refine Go.Sl.ow_val rfl rfl (Go.Sl.v_call rfl rfl (hwa (by repeat (first | exact Go.Sl.Sub.here | assumption | refine Go.Sl.Sub.there ?_)))) ?_
    refine Go.Sl.ow_val rfl rfl (Go.Sl.v_move rfl) ?_
    refine Go.Sl.ow_val rfl rfl (Go.Sl.v_gtr rfl rfl) ?_
    refine Go.Sl.ow_val rfl rfl (Go.Sl.v_move rfl) ?_
    refine Go.Sl.ow_dec 487 rfl (fun hc487 => ?_) (fun hc487 => ?_)
    refine Go.Sl.ow_skip rfl rfl ?_
    refine Go.Sl.ow_skip rfl rfl ?_
    refine Go.Sl.ow_skip rfl rfl ?_
    refine Go.Sl.ow_skip rfl rfl ?_
    refine Go.Sl.ow_skip rfl rfl ?_
    refine Go.Sl.ow_skip rfl rfl ?_
    refine Go.Sl.ow_skip rfl rfl ?_
    refine Go.Sl.ow_skip rfl rfl ?_
    refine Go.Sl.ow_skip rfl rfl ?_
    refine Go.Sl.ow_val rfl rfl (Go.Sl.v_pick_true rfl rfl) ?_
    refine Go.Sl.ow_val rfl rfl (Go.Sl.v_neqB Try.underlying4 rfl rfl) ?_
    refine Go.Sl.ow_val rfl rfl (Go.Sl.v_pick_false rfl rfl) ?_
    refine Go.Sl.ow_nil ?_
    refine Go.Sl.xw_then ?_
    refine Go.Sl.cw_dec rfl (fun hc499 => ?_) (fun hc499 => ?_)
    refine Go.Sl.cw_seq ?_
    refine Go.Sl.cw_region ?_
    refine Go.Sl.ow_val rfl rfl (Go.Sl.v_assign rfl) ?_
    refine Go.Sl.ow_nil ?_
    refine Go.Sl.xw_then ?_
    refine Go.Sl.cw_ret ?_
    refine Go.Sl.xw_block_ret ?_
    refine Go.Sl.xw_then_ret ?_
    refine Go.Sl.xw_round_ret ?_
    refine Go.Sl.xw_block_ret ?_
    refine Go.Sl.xw_then_ret ?_
    refine Go.Sl.ret1 rfl (Go.Sl.res_tmp rfl) ?_
    rotate_left
    refine Go.Sl.cw_skip ?_
    refine Go.Sl.xw_block ?_
    refine Go.Sl.xw_then ?_
    refine Go.Sl.cw_region ?_
    refine Go.Sl.ow_val rfl rfl (Go.Sl.v_add rfl rfl (Go.Sl.nw_i64 (by omega) (by omega))) ?_
    refine Go.Sl.ow_val rfl rfl (Go.Sl.v_move rfl) ?_
    refine Go.Sl.ow_nil ?_
    rotate_left
    refine Go.Sl.ow_val rfl rfl (Go.Sl.v_move rfl) ?_
    refine Go.Sl.ow_val rfl rfl (Go.Sl.v_move rfl) ?_
    refine Go.Sl.ow_bool 489 rfl (fun hc489 => ?_) (fun hc489 => ?_)
    refine Go.Sl.ow_val rfl rfl (Go.Sl.v_move rfl) ?_
    refine Go.Sl.ow_val rfl rfl (Go.Sl.v_not_bool rfl) ?_
    refine Go.Sl.ow_val rfl rfl (Go.Sl.v_pick_true rfl rfl) ?_
    refine Go.Sl.ow_val rfl rfl (Go.Sl.v_move rfl) ?_
    refine Go.Sl.ow_bool 493 rfl (fun hc493 => ?_) (fun hc493 => ?_)
    refine Go.Sl.ow_val rfl rfl (Go.Sl.v_move rfl) ?_
    refine Go.Sl.ow_val rfl rfl (Go.Sl.v_not_bool rfl) ?_
    refine Go.Sl.ow_val rfl rfl (Go.Sl.v_pick_true rfl rfl) ?_
    refine Go.Sl.ow_val rfl rfl (Go.Sl.v_pick_false rfl rfl) ?_
    refine Go.Sl.ow_val rfl rfl (Go.Sl.v_neqB Try.underlying4 rfl rfl) ?_
    refine Go.Sl.ow_val rfl rfl (Go.Sl.v_pick_false rfl rfl) ?_
    refine Go.Sl.ow_nil ?_
    refine Go.Sl.xw_then ?_
    refine Go.Sl.cw_dec rfl (fun hc499 => ?_) (fun hc499 => ?_)
    refine Go.Sl.cw_seq ?_
    refine Go.Sl.cw_region ?_
    refine Go.Sl.ow_val rfl rfl (Go.Sl.v_assign rfl) ?_
    refine Go.Sl.ow_nil ?_
    refine Go.Sl.xw_then ?_
    refine Go.Sl.cw_ret ?_
    refine Go.Sl.xw_block_ret ?_
    refine Go.Sl.xw_then_ret ?_
    refine Go.Sl.xw_round_ret ?_
    refine Go.Sl.xw_block_ret ?_
    refine Go.Sl.xw_then_ret ?_
    refine Go.Sl.ret1 rfl (Go.Sl.res_tmp rfl) ?_
    rotate_left
    refine Go.Sl.cw_skip ?_
    refine Go.Sl.xw_block ?_
    refine Go.Sl.xw_then ?_
    refine Go.Sl.cw_region ?_
    refine Go.Sl.ow_val rfl rfl (Go.Sl.v_add rfl rfl (Go.Sl.nw_i64 (by omega) (by omega))) ?_
    refine Go.Sl.ow_val rfl rfl (Go.Sl.v_move rfl) ?_
    refine Go.Sl.ow_nil ?_
    rotate_left
    refine Go.Sl.ow_skip rfl rfl ?_
    refine Go.Sl.ow_skip rfl rfl ?_
    refine Go.Sl.ow_val rfl rfl (Go.Sl.v_pick_false rfl rfl) ?_
    refine Go.Sl.ow_val rfl rfl (Go.Sl.v_pick_false rfl rfl) ?_
    refine Go.Sl.ow_val rfl rfl (Go.Sl.v_neqB Try.underlying4 rfl rfl) ?_
    refine Go.Sl.ow_val rfl rfl (Go.Sl.v_pick_false rfl rfl) ?_
    refine Go.Sl.ow_nil ?_
    refine Go.Sl.xw_then ?_
    refine Go.Sl.cw_dec rfl (fun hc499 => ?_) (fun hc499 => ?_)
    refine Go.Sl.cw_seq ?_
    refine Go.Sl.cw_region ?_
    refine Go.Sl.ow_val rfl rfl (Go.Sl.v_assign rfl) ?_
    refine Go.Sl.ow_nil ?_
    refine Go.Sl.xw_then ?_
    refine Go.Sl.cw_ret ?_
    refine Go.Sl.xw_block_ret ?_
    refine Go.Sl.xw_then_ret ?_
    refine Go.Sl.xw_round_ret ?_
    refine Go.Sl.xw_block_ret ?_
    refine Go.Sl.xw_then_ret ?_
    refine Go.Sl.ret1 rfl (Go.Sl.res_tmp rfl) ?_
    rotate_left
    refine Go.Sl.cw_skip ?_
    refine Go.Sl.xw_block ?_
    refine Go.Sl.xw_then ?_
    refine Go.Sl.cw_region ?_
    refine Go.Sl.ow_val rfl rfl (Go.Sl.v_add rfl rfl (Go.Sl.nw_i64 (by omega) (by omega))) ?_
    refine Go.Sl.ow_val rfl rfl (Go.Sl.v_move rfl) ?_
    refine Go.Sl.ow_nil ?_
    rotate_left
    refine Go.Sl.ow_skip rfl rfl ?_
    refine Go.Sl.ow_skip rfl rfl ?_
    refine Go.Sl.ow_val rfl rfl (Go.Sl.v_pick_false rfl rfl) ?_
    refine Go.Sl.ow_val rfl rfl (Go.Sl.v_move rfl) ?_
    refine Go.Sl.ow_skip rfl rfl ?_
    refine Go.Sl.ow_skip rfl rfl ?_
    refine Go.Sl.ow_val rfl rfl (Go.Sl.v_pick_false rfl rfl) ?_
    refine Go.Sl.ow_val rfl rfl (Go.Sl.v_pick_false rfl rfl) ?_
    refine Go.Sl.ow_val rfl rfl (Go.Sl.v_neqB Try.underlying4 rfl rfl) ?_
    refine Go.Sl.ow_val rfl rfl (Go.Sl.v_pick_false rfl rfl) ?_
    refine Go.Sl.ow_nil ?_
    refine Go.Sl.xw_then ?_
    refine Go.Sl.cw_dec rfl (fun hc499 => ?_) (fun hc499 => ?_)
    refine Go.Sl.cw_seq ?_
    refine Go.Sl.cw_region ?_
    refine Go.Sl.ow_val rfl rfl (Go.Sl.v_assign rfl) ?_
    refine Go.Sl.ow_nil ?_
    refine Go.Sl.xw_then ?_
    refine Go.Sl.cw_ret ?_
    refine Go.Sl.xw_block_ret ?_
    refine Go.Sl.xw_then_ret ?_
    refine Go.Sl.xw_round_ret ?_
    refine Go.Sl.xw_block_ret ?_
    refine Go.Sl.xw_then_ret ?_
    refine Go.Sl.ret1 rfl (Go.Sl.res_tmp rfl) ?_
    rotate_left
    refine Go.Sl.cw_skip ?_
    refine Go.Sl.xw_block ?_
    refine Go.Sl.xw_then ?_
    refine Go.Sl.cw_region ?_
    refine Go.Sl.ow_val rfl rfl (Go.Sl.v_add rfl rfl (Go.Sl.nw_i64 (by omega) (by omega))) ?_
    refine Go.Sl.ow_val rfl rfl (Go.Sl.v_move rfl) ?_
    refine Go.Sl.ow_nil ?_
    rotate_left
    refine Go.Sl.ow_skip rfl rfl ?_
    refine Go.Sl.ow_skip rfl rfl ?_
    refine Go.Sl.ow_skip rfl rfl ?_
    refine Go.Sl.ow_skip rfl rfl ?_
    refine Go.Sl.ow_skip rfl rfl ?_
    refine Go.Sl.ow_val rfl rfl (Go.Sl.v_pick_false rfl rfl) ?_
    refine Go.Sl.ow_val rfl rfl (Go.Sl.v_neqB Try.underlying4 rfl rfl) ?_
    refine Go.Sl.ow_val rfl rfl (Go.Sl.v_pick_false rfl rfl) ?_
    refine Go.Sl.ow_val rfl rfl (Go.Sl.v_move rfl) ?_
    refine Go.Sl.ow_dec 482 rfl (fun hc482 => ?_) (fun hc482 => ?_)
    refine Go.Sl.ow_skip rfl rfl ?_
    refine Go.Sl.ow_skip rfl rfl ?_
    refine Go.Sl.ow_skip rfl rfl ?_
    refine Go.Sl.ow_skip rfl rfl ?_
    refine Go.Sl.ow_skip rfl rfl ?_
    refine Go.Sl.ow_skip rfl rfl ?_
    refine Go.Sl.ow_skip rfl rfl ?_
    refine Go.Sl.ow_skip rfl rfl ?_
    refine Go.Sl.ow_skip rfl rfl ?_
    refine Go.Sl.ow_skip rfl rfl ?_
    refine Go.Sl.ow_skip rfl rfl ?_
    refine Go.Sl.ow_skip rfl rfl ?_
    refine Go.Sl.ow_skip rfl rfl ?_
    refine Go.Sl.ow_skip rfl rfl ?_
    refine Go.Sl.ow_skip rfl rfl ?_
    refine Go.Sl.ow_skip rfl rfl ?_
    refine Go.Sl.ow_val rfl rfl (Go.Sl.v_pick_true rfl rfl) ?_
    refine Go.Sl.ow_nil ?_
    refine Go.Sl.xw_then ?_
    refine Go.Sl.cw_true rfl ?_
    refine Go.Sl.cw_seq ?_
    refine Go.Sl.cw_region ?_
    refine Go.Sl.ow_val rfl rfl (Go.Sl.v_assign rfl) ?_
    refine Go.Sl.ow_nil ?_
    refine Go.Sl.xw_then ?_
    refine Go.Sl.cw_ret ?_
    refine Go.Sl.xw_block_ret ?_
    refine Go.Sl.xw_then_ret ?_
    refine Go.Sl.xw_round_ret ?_
    refine Go.Sl.xw_block_ret ?_
    refine Go.Sl.xw_then_ret ?_
    refine Go.Sl.ret1 rfl (Go.Sl.res_tmp rfl) ?_
    rotate_left
    refine Go.Sl.ow_val rfl rfl (Go.Sl.v_move rfl) ?_
    refine Go.Sl.ow_val rfl rfl (Go.Sl.v_call rfl rfl (hwa (by repeat (first | exact Go.Sl.Sub.here | assumption | refine Go.Sl.Sub.there ?_)))) ?_
    refine Go.Sl.ow_val rfl rfl (Go.Sl.v_move rfl) ?_
    refine Go.Sl.ow_val rfl rfl (Go.Sl.v_gtr rfl rfl) ?_
    refine Go.Sl.ow_val rfl rfl (Go.Sl.v_move rfl) ?_
    refine Go.Sl.ow_dec 487 rfl (fun hc487 => ?_) (fun hc487 => ?_)
    refine Go.Sl.ow_skip rfl rfl ?_
    refine Go.Sl.ow_skip rfl rfl ?_
    refine Go.Sl.ow_skip rfl rfl ?_
    refine Go.Sl.ow_skip rfl rfl ?_
    refine Go.Sl.ow_skip rfl rfl ?_
    refine Go.Sl.ow_skip rfl rfl ?_
    refine Go.Sl.ow_skip rfl rfl ?_
    refine Go.Sl.ow_skip rfl rfl ?_
    refine Go.Sl.ow_skip rfl rfl ?_
    refine Go.Sl.ow_val rfl rfl (Go.Sl.v_pick_true rfl rfl) ?_
    refine Go.Sl.ow_val rfl rfl (Go.Sl.v_neqB Try.underlying4 rfl rfl) ?_
    refine Go.Sl.ow_val rfl rfl (Go.Sl.v_pick_false rfl rfl) ?_
    refine Go.Sl.ow_nil ?_
    refine Go.Sl.xw_then ?_
    refine Go.Sl.cw_dec rfl (fun hc499 => ?_) (fun hc499 => ?_)
    refine Go.Sl.cw_seq ?_
    refine Go.Sl.cw_region ?_
    refine Go.Sl.ow_val rfl rfl (Go.Sl.v_assign rfl) ?_
    refine Go.Sl.ow_nil ?_
    refine Go.Sl.xw_then ?_
    refine Go.Sl.cw_ret ?_
    refine Go.Sl.xw_block_ret ?_
    refine Go.Sl.xw_then_ret ?_
    refine Go.Sl.xw_round_ret ?_
    refine Go.Sl.xw_block_ret ?_
    refine Go.Sl.xw_then_ret ?_
    refine Go.Sl.ret1 rfl (Go.Sl.res_tmp rfl) ?_
    rotate_left
    refine Go.Sl.cw_skip ?_
    refine Go.Sl.xw_block ?_
    refine Go.Sl.xw_then ?_
    refine Go.Sl.cw_region ?_
    refine Go.Sl.ow_val rfl rfl (Go.Sl.v_add rfl rfl (Go.Sl.nw_i64 (by omega) (by omega))) ?_
    refine Go.Sl.ow_val rfl rfl (Go.Sl.v_move rfl) ?_
    refine Go.Sl.ow_nil ?_
    rotate_left
    refine Go.Sl.ow_val rfl rfl (Go.Sl.v_move rfl) ?_
    refine Go.Sl.ow_val rfl rfl (Go.Sl.v_move rfl) ?_
    refine Go.Sl.ow_bool 489 rfl (fun hc489 => ?_) (fun hc489 => ?_)
    refine Go.Sl.ow_val rfl rfl (Go.Sl.v_move rfl) ?_
    refine Go.Sl.ow_val rfl rfl (Go.Sl.v_not_bool rfl) ?_
    refine Go.Sl.ow_val rfl rfl (Go.Sl.v_pick_true rfl rfl) ?_
    refine Go.Sl.ow_val rfl rfl (Go.Sl.v_move rfl) ?_
    refine Go.Sl.ow_bool 493 rfl (fun hc493 => ?_) (fun hc493 => ?_)
    refine Go.Sl.ow_val rfl rfl (Go.Sl.v_move rfl) ?_
    refine Go.Sl.ow_val rfl rfl (Go.Sl.v_not_bool rfl) ?_
    refine Go.Sl.ow_val rfl rfl (Go.Sl.v_pick_true rfl rfl) ?_
    refine Go.Sl.ow_val rfl rfl (Go.Sl.v_pick_false rfl rfl) ?_
    refine Go.Sl.ow_val rfl rfl (Go.Sl.v_neqB Try.underlying4 rfl rfl) ?_
    refine Go.Sl.ow_val rfl rfl (Go.Sl.v_pick_false rfl rfl) ?_
    refine Go.Sl.ow_nil ?_
    refine Go.Sl.xw_then ?_
    refine Go.Sl.cw_dec rfl (fun hc499 => ?_) (fun hc499 => ?_)
    refine Go.Sl.cw_seq ?_
    refine Go.Sl.cw_region ?_
    refine Go.Sl.ow_val rfl rfl (Go.Sl.v_assign rfl) ?_
    refine Go.Sl.ow_nil ?_
    refine Go.Sl.xw_then ?_
    refine Go.Sl.cw_ret ?_
    refine Go.Sl.xw_block_ret ?_
    refine Go.Sl.xw_then_ret ?_
    refine Go.Sl.xw_round_ret ?_
    refine Go.Sl.xw_block_ret ?_
    refine Go.Sl.xw_then_ret ?_
    refine Go.Sl.ret1 rfl (Go.Sl.res_tmp rfl) ?_
    rotate_left
    refine Go.Sl.cw_skip ?_
    refine Go.Sl.xw_block ?_
    refine Go.Sl.xw_then ?_
    refine Go.Sl.cw_region ?_
    refine Go.Sl.ow_val rfl rfl (Go.Sl.v_add rfl rfl (Go.Sl.nw_i64 (by omega) (by omega))) ?_
    refine Go.Sl.ow_val rfl rfl (Go.Sl.v_move rfl) ?_
    refine Go.Sl.ow_nil ?_
    rotate_left
    refine Go.Sl.ow_skip rfl rfl ?_
    refine Go.Sl.ow_skip rfl rfl ?_
    refine Go.Sl.ow_val rfl rfl (Go.Sl.v_pick_false rfl rfl) ?_
    refine Go.Sl.ow_val rfl rfl (Go.Sl.v_pick_false rfl rfl) ?_
    refine Go.Sl.ow_val rfl rfl (Go.Sl.v_neqB Try.underlying4 rfl rfl) ?_
    refine Go.Sl.ow_val rfl rfl (Go.Sl.v_pick_false rfl rfl) ?_
    refine Go.Sl.ow_nil ?_
    refine Go.Sl.xw_then ?_
    refine Go.Sl.cw_dec rfl (fun hc499 => ?_) (fun hc499 => ?_)
    refine Go.Sl.cw_seq ?_
    refine Go.Sl.cw_region ?_
    refine Go.Sl.ow_val rfl rfl (Go.Sl.v_assign rfl) ?_
    refine Go.Sl.ow_nil ?_
    refine Go.Sl.xw_then ?_
    refine Go.Sl.cw_ret ?_
    refine Go.Sl.xw_block_ret ?_
    refine Go.Sl.xw_then_ret ?_
    refine Go.Sl.xw_round_ret ?_
    refine Go.Sl.xw_block_ret ?_
    refine Go.Sl.xw_then_ret ?_
    refine Go.Sl.ret1 rfl (Go.Sl.res_tmp rfl) ?_
    rotate_left
    refine Go.Sl.cw_skip ?_
    refine Go.Sl.xw_block ?_
    refine Go.Sl.xw_then ?_
    refine Go.Sl.cw_region ?_
    refine Go.Sl.ow_val rfl rfl (Go.Sl.v_add rfl rfl (Go.Sl.nw_i64 (by omega) (by omega))) ?_
    refine Go.Sl.ow_val rfl rfl (Go.Sl.v_move rfl) ?_
    refine Go.Sl.ow_nil ?_
    rotate_left
    refine Go.Sl.ow_skip rfl rfl ?_
    refine Go.Sl.ow_skip rfl rfl ?_
    refine Go.Sl.ow_val rfl rfl (Go.Sl.v_pick_false rfl rfl) ?_
    refine Go.Sl.ow_val rfl rfl (Go.Sl.v_move rfl) ?_
    refine Go.Sl.ow_skip rfl rfl ?_
    refine Go.Sl.ow_skip rfl rfl ?_
    refine Go.Sl.ow_val rfl rfl (Go.Sl.v_pick_false rfl rfl) ?_
    refine Go.Sl.ow_val rfl rfl (Go.Sl.v_pick_false rfl rfl) ?_
    refine Go.Sl.ow_val rfl rfl (Go.Sl.v_neqB Try.underlying4 rfl rfl) ?_
    refine Go.Sl.ow_val rfl rfl (Go.Sl.v_pick_false rfl rfl) ?_
    refine Go.Sl.ow_nil ?_
    refine Go.Sl.xw_then ?_
    refine Go.Sl.cw_dec rfl (fun hc499 => ?_) (fun hc499 => ?_)
    refine Go.Sl.cw_seq ?_
    refine Go.Sl.cw_region ?_
    refine Go.Sl.ow_val rfl rfl (Go.Sl.v_assign rfl) ?_
    refine Go.Sl.ow_nil ?_
    refine Go.Sl.xw_then ?_
    refine Go.Sl.cw_ret ?_
    refine Go.Sl.xw_block_ret ?_
    refine Go.Sl.xw_then_ret ?_
    refine Go.Sl.xw_round_ret ?_
    refine Go.Sl.xw_block_ret ?_
    refine Go.Sl.xw_then_ret ?_
    refine Go.Sl.ret1 rfl (Go.Sl.res_tmp rfl) ?_
    rotate_left
    refine Go.Sl.cw_skip ?_
    refine Go.Sl.xw_block ?_
    refine Go.Sl.xw_then ?_
    refine Go.Sl.cw_region ?_
    refine Go.Sl.ow_val rfl rfl (Go.Sl.v_add rfl rfl (Go.Sl.nw_i64 (by omega) (by omega))) ?_
    refine Go.Sl.ow_val rfl rfl (Go.Sl.v_move rfl) ?_
    refine Go.Sl.ow_nil ?_
    rotate_left
    all_goals first
      | exact xw_round (⟨i + 1, m, c, M, ao, cap, cM, S, ao2, cap2, cS, fin, said, came⟩ : Ix) ⟨by dsimp only; omega, by dsimp only; omega, hR, hO, hL, hLS, hMl, hSl, hSo⟩ (by dsimp only; omega) (by first | exact Go.Sl.Cov.refl _ | (intro p; simp only [List.flatten_cons, List.flatten_nil, List.flatten_append, List.append_nil, List.nil_append, Go.Sl.cnt_append, Go.Sl.cnt_cons, Go.Sl.cnt_nil, List.set_cons_zero, List.set_cons_succ, List.length_nil, List.length_cons, Nat.zero_add, List.append]; omega)) (by repeat (first | exact True.intro | refine And.intro rfl ?_))
      | exact (hc461 rfl).elim
      | (refine (hc482 ?_).elim; rw [hc473, Bool.true_and]; done)
      | (refine (hc482 ?_).elim; rw [hc473, Bool.false_and]; done)
      | (refine (hc499 ?_).elim; rw [decide_eq_true hc487, Bool.true_or]; done)
      | (refine (hc499 ?_).elim; rw [decide_eq_false hc487, Bool.false_or, hc489, Bool.true_and, hc493, Bool.true_and]; done)
      | (refine (hc499 ?_).elim; rw [decide_eq_false hc487, Bool.false_or, hc489, Bool.true_and, hc493, Bool.false_and]; done)
      | (refine (hc499 ?_).elim; rw [decide_eq_false hc487, Bool.false_or, hc489, Bool.false_and]; done)

/-- an act as it lies in memory -/
theorem form_act {H : Type} {enc : TypeId × Value → H} {w : World} {fuel : Nat} {cs : List Value} {y : DataW H × List MemPlace} (h : DataW.trod enc Try.prog w 0 (fun _ => true) true fuel 101 cs = some y) : ∃ a : ActO, cs = (enAct w.heap.size w).f a ∧ (enAct w.heap.size w).ok a := by
  obtain ⟨hl, fuel', hf⟩ := form_struct Try.underlying101 h
  have hc : Try.prog.cellsOf 101 = 7 := by kernel_rfl
  rw [hc] at hl
  have g0 : ∃ z, DataW.trod enc Try.prog w 0 (fun _ => true) true fuel' 5 ((cs.drop 0).take (Try.prog.cellsOf 5)) = some z := hf 0 _ rfl
  obtain ⟨_, h0⟩ := g0
  rw [show Try.prog.cellsOf 5 = 1 by kernel_rfl] at h0
  have g1 : ∃ z, DataW.trod enc Try.prog w 0 (fun _ => true) true fuel' 5 ((cs.drop 1).take (Try.prog.cellsOf 5)) = some z := hf 1 _ rfl
  obtain ⟨_, h1⟩ := g1
  rw [show Try.prog.cellsOf 5 = 1 by kernel_rfl] at h1
  have g2 : ∃ z, DataW.trod enc Try.prog w 0 (fun _ => true) true fuel' 5 ((cs.drop 2).take (Try.prog.cellsOf 5)) = some z := hf 2 _ rfl
  obtain ⟨_, h2⟩ := g2
  rw [show Try.prog.cellsOf 5 = 1 by kernel_rfl] at h2
  have g3 : ∃ z, DataW.trod enc Try.prog w 0 (fun _ => true) true fuel' 57 ((cs.drop 3).take (Try.prog.cellsOf 57)) = some z := hf 3 _ rfl
  obtain ⟨_, h3⟩ := g3
  rw [show Try.prog.cellsOf 57 = 1 by kernel_rfl] at h3
  have g4 : ∃ z, DataW.trod enc Try.prog w 0 (fun _ => true) true fuel' 23 ((cs.drop 4).take (Try.prog.cellsOf 23)) = some z := hf 4 _ rfl
  obtain ⟨_, h4⟩ := g4
  rw [show Try.prog.cellsOf 23 = 1 by kernel_rfl] at h4
  have g5 : ∃ z, DataW.trod enc Try.prog w 0 (fun _ => true) true fuel' 3 ((cs.drop 5).take (Try.prog.cellsOf 3)) = some z := hf 5 _ rfl
  obtain ⟨_, h5⟩ := g5
  rw [show Try.prog.cellsOf 3 = 1 by kernel_rfl] at h5
  have g6 : ∃ z, DataW.trod enc Try.prog w 0 (fun _ => true) true fuel' 4 ((cs.drop 6).take (Try.prog.cellsOf 4)) = some z := hf 6 _ rfl
  obtain ⟨_, h6⟩ := g6
  rw [show Try.prog.cellsOf 4 = 1 by kernel_rfl] at h6
  obtain ⟨n0, e0, w0⟩ := form_int Try.underlying5 h0
  obtain ⟨n1, e1, w1⟩ := form_int Try.underlying5 h1
  obtain ⟨n2, e2, w2⟩ := form_int Try.underlying5 h2
  obtain ⟨n4, e4, w4⟩ := form_int Try.underlying23 h4
  obtain ⟨n5, e5, w5⟩ := form_int Try.underlying3 h5
  obtain ⟨n6, e6⟩ := form_bool Try.underlying4 h6
  have e3 : ∃ ao len cap, (cs.drop 3).take 1 = [.slice ao len cap] := by
    rcases DataW.trod_slice Try.underlying57 h3 with ⟨e, _⟩ | ⟨a, len, cap, _, _, _, _, e, _⟩
    · exact ⟨_, _, _, e⟩
    · exact ⟨_, _, _, e⟩
  obtain ⟨ao, len, cap, e3⟩ := e3
  rw [e3] at h3
  obtain ⟨hlc, hm, F, hF, o⟩ := oldSl (size := 1) Try.underlying57 (by kernel_rfl) (by decide) h3 enI.f enI.ok (fun fuel cs y h => form_u8 h)
  unfold maxLen at hm
  have hb5 : -9223372036854775808 ≤ n5 ∧ n5 ≤ 9223372036854775807 := by
    simp [Lit.wf, IntKind.min, IntKind.max, IntKind.signed, IntKind.bits] at w5
    omega
  refine ⟨⟨n0, n1, n2, ao, len, cap, ((List.range len).map F).map toB, n4, n5, n6⟩, ?_, ⟨bounds_u8 w0, bounds_u8 w1, bounds_u8 w2, bounds_u64 w4, hb5, by simp, hlc, by dsimp only; omega, fun G => ?_⟩⟩
  · have p : cs = (cs.drop 0).take 1 ++ ((cs.drop 1).take 1 ++ ((cs.drop 2).take 1 ++ ((cs.drop 3).take 1 ++ ((cs.drop 4).take 1 ++ ((cs.drop 5).take 1 ++ ((cs.drop 6).take 1 ++ (cs.drop 7))))))) := by
      conv => lhs; rw [show cs = cs.drop 0 from rfl]
      rw [← drop_take_drop cs 6 1, ← drop_take_drop cs 5 1, ← drop_take_drop cs 4 1, ← drop_take_drop cs 3 1, ← drop_take_drop cs 2 1, ← drop_take_drop cs 1 1, ← drop_take_drop cs 0 1]
    rw [p, e0, e1, e2, e3, e4, e5, e6, List.drop_eq_nil_of_le (by omega)]
    rfl
  · have hv2 := Vw.bytes (oldVw iTy o hF hlc G)
    have h4 : ((List.range len).map F).length = len := by simp
    rw [h4] at hv2
    exact hv2

theorem walk {H : Type} {enc : TypeId × Value → H} (W : World) (base : Nat) (args : Array Value) (ds : List (DataW H)) (p : List MemPlace)
    (hval : ∀ (j : Nat) t v, Try.f13.params[j]? = some t → args[j]? = some v → Value.okWide Try.prog W .any base t v)
    (hA : DataW.TrodAll enc Try.prog W 0 (fun _ => true) true Try.f13.params.toList args.toList ds p) :
    Calls Try.prog 13 args W fun e w' => e = .returned (.bool true) ∧ Below W.heap.size W w' := by
  rw [Try.params13] at hA hval
  obtain ⟨v0, vs0, d0, ds0, p0, q0, hargs, rfl, rfl, h0, r0⟩ := trodAll_cons hA
  obtain ⟨rfl, rfl, rfl⟩ := trodAll_nil r0
  obtain rfl : args = #[v0] := by cases args; simp_all
  obtain ⟨ao, len, cap, rfl⟩ := okWide_slice Try.underlying97 (hval 0 97 v0 rfl rfl)
  obtain ⟨fu, h0⟩ := h0
  obtain ⟨hlc, hm, f, hf, o⟩ := oldSl (size := 7) Try.underlying97 (by kernel_rfl) (by decide) h0 (enAct W.heap.size W).f (enAct W.heap.size W).ok (fun fuel cs y h => form_act h)
  unfold maxLen at hm
  have hv := oldVw acTy o hf hlc
  have hlen : ((List.range len).map f).length = len := by simp
  have key := (law (by rw [hlen]; omega) hv []).call
  rw [hlen] at key
  exact key

theorem own : ownKnob Try.prog.godebug = none := by kernel_rfl
theorem laidOut : laidOutB Try.prog = true := by kernel_rfl
theorem reads : ∀ t ∈ Try.f13.params.toList, Try.prog.readableRec t = true ∧ t < Try.prog.types.size := by
  rw [Try.params13]
  intro t ht
  simp only [List.mem_cons, List.not_mem_nil, or_false] at ht
  rcases ht with rfl
  · exact ⟨by kernel_rfl, of_decide_eq_true (by kernel_rfl)⟩

set_option maxRecDepth 100000 in
theorem lifted (os : Os) (started : os.Started) (H : Type) (enc : TypeId × Value → H) :
    ReturnsInHanded {} Try.checked os 13 .any (Rows.outbufPlaysSpec.pre6 enc Try.prog Try.f13 Rows.outbufPlaysRow.domain false) (Rows.outbufPlaysSpec.post enc Try.prog Try.f13 false true false false) := by
  refine returnsInHanded_of_change (C := Try.checked) own started (by kernel_rfl) Try.func13
    (ChangeSpec.witness6 (enc := enc) (C := Try.checked) false ⟨#[], #[.slice none 0 0], []⟩ 8 (by kernel_rfl) (by kernel_rfl) (by kernel_rfl) (by kernel_rfl)) ?_
  intro W base args ds gs before hval hW _ _
  have hW' := hW
  obtain ⟨p, q, hA0, hV, rfl, _, _⟩ := hW
  obtain ⟨rfl, rfl⟩ := trodVars_none hV
  have hA : DataW.TrodAll enc Try.prog W 0 (fun _ => true) true Try.f13.params.toList args.toList ds p := hA0
  have hlen := trodAll_len hA
  refine (walk W base args ds p hval hA).mono fun e W' ⟨he, bel⟩ => ?_
  subst he
  rw [Try.params13] at hlen
  match ds, hlen.2, hA, hW' with
  | [d0], _, hA, hW' => exact ⟨_, rfl, _, _, _, [], _, [], hW', trodAll_mk1 (shut_bool Try.underlying4 _), trodAll_stays laidOut bel reads hA, rfl, bel.frame _, fun h => by cases h⟩

theorem over : Rows.outbufPlaysRow.holds Try.pinned (OpenSpec.ofChange Rows.outbufPlaysSpec) :=
  OpenClaim.holds_of_wide 13 Try.f13 rfl rfl rfl rfl rfl rfl rfl ⟨rfl, rfl, rfl, rfl, rfl⟩ rfl rfl rfl rfl rfl (by kernel_rfl) Try.func13 (by kernel_rfl)
    (of_decide_eq_true (by kernel_rfl)) (by unfold Func.isWrapper; first | (rw [if_pos (by decide +kernel)]; kernel_rfl) | (rw [if_neg (by decide +kernel)]; exact ⟨rfl, rfl⟩))
    (fun os started H enc _ => lifted os started H enc)

theorem proved : Rows.OutbufPlaysSaid := over

end Go.Proofs.Ytbpnnkkbaakdjaa.lawOutbufPlays
