/- Package vint: what is written. Conditions: none. -/
import Derived.Test.YtckdhelnafjddaaVint
namespace Go.Proofs.Ytckdhelnafjddaa
open Go Go.Sl Go.Proofs Go.RowKit Go.ChangeShapes Go.WideShapes Go.ChangeAt
set_option maxRecDepth 20000
set_option linter.unusedVariables false
set_option linter.unusedSimpArgs false

/-- a number's byte, i bytes from its end -/
def bt (n i : Int) : Int := IntKind.wrap .u8 (Int.fdiv n (2 ^ min (Int.toNat (8 * i)) (IntKind.bits .u64)))
theorem bt_ok (n i : Int) : enI.ok (bt n i) := by
  show 0 ≤ IntKind.wrap .u8 _ ∧ IntKind.wrap .u8 _ ≤ 255
  simp [IntKind.wrap, IntKind.signed, IntKind.bits]
  omega
def vbytes (n : Int) (k j : Nat) : List UInt8 := (List.range j).map fun q : Nat => toB (bt n ((k : Int) - 1 - q))
theorem vbytes_len {n : Int} {k j : Nat} : (vbytes n k j).length = j := by simp [vbytes]
theorem vbytes_succ {n : Int} {k j : Nat} : vbytes n k j ++ [toB (bt n ((k : Int) - 1 - j))] = vbytes n k (j + 1) := by
  simp [vbytes, List.range_succ]
def encV (n : Int) (k : Nat) : List UInt8 := (vbytes n k k).set 0 ((vbytes n k k).headD 0 ||| toB (vmark k))
theorem orU8 (a b : UInt8) : bitsOf .or .u8 (a.toNat : Int) (b.toNat : Int) = (((a ||| b).toNat : Nat) : Int) := by
  have ha := a.toNat_lt
  have hb := b.toNat_lt
  unfold bitsOf
  show IntKind.wrap .u8 (((BitVec.ofInt 8 (a.toNat : Int)) ||| (BitVec.ofInt 8 (b.toNat : Int))).toNat : Int) = _
  have h2 : ((BitVec.ofInt 8 (a.toNat : Int)) ||| (BitVec.ofInt 8 (b.toNat : Int))).toNat = (a ||| b).toNat := by
    rw [BitVec.toNat_or, BitVec.ofInt_natCast, BitVec.ofInt_natCast, BitVec.toNat_ofNat, BitVec.toNat_ofNat, Nat.mod_eq_of_lt (by omega), Nat.mod_eq_of_lt (by omega), UInt8.toNat_or]
  rw [h2]
  have h3 := (a ||| b).toNat_lt
  generalize (a ||| b).toNat = z at h3 ⊢
  simp [IntKind.wrap, IntKind.signed, IntKind.bits]
  omega
theorem vmark_ok (k : Int) : enI.ok (vmark k) := by
  show 0 ≤ vmark k ∧ vmark k ≤ 255
  unfold vmark
  split
  · decide
  · split
    · decide
    · split <;> decide
theorem setE {L l v : List UInt8} {m : UInt8} (hE : L = l ++ v) (hv : 0 < v.length) : L.set l.length (L[l.length]'(by rw [hE, List.length_append]; omega) ||| m) = l ++ v.set 0 (v.headD 0 ||| m) := by
  subst hE
  cases v with
  | nil => simp at hv
  | cons x t => simp
set_option maxHeartbeats 4000000 in
theorem attach_c {B : Nat} {w0 : World} {G : List Hp} {R : Hp → List Hp} {ao : Option Addr} {len cap : Nat} {l : List UInt8} {n : Int} {k : Nat} {c : Hp} (hsel : Sel G c R) (hL : Ls enB 5 (.slice ao len cap) c l) (hb : l.length ≤ 100000000) (hn : 0 ≤ n ∧ n ≤ 18446744073709551615) (hk : k = 1 ∨ k = 2 ∨ k = 4 ∨ k = 8) :
    Go.Sl.Fn Try.prog 121 #[.slice ao len cap, .int .u64 n, .int .i64 k] B w0 G fun u G' => ∃ x : Option Addr × Nat × Hp, u = .slice x.1 (l ++ encV n k).length x.2.1 ∧ Ls enB 5 (.slice x.1 (l ++ encV n k).length x.2.1) x.2.2 (l ++ encV n k) ∧ G' = R x.2.2 := by
  refine Fn.sel0 hsel fun F hR hF => ?_
  have hl := hL.len
  subst hl
  refine fn_enter Try.func121 rfl (by kernel_rfl) Try.ntmps121 (by simp) ?_
  refine Go.Sl.cw_seq ?_
  refine Go.Sl.cw_region ?_
  refine Go.Sl.ow_val rfl rfl (Go.Sl.v_assign rfl) ?_
  refine Go.Sl.ow_nil ?_
  refine Go.Sl.xw_then ?_
  refine Go.Sl.cw_seq ?_
  refine Go.Sl.cw_region ?_
  refine Go.Sl.ow_val rfl rfl (Go.Sl.v_move rfl) ?_
  refine Go.Sl.ow_val rfl rfl (Go.Sl.v_call rfl rfl (vintMark_c (k := (k : Int)) (by omega))) ?_
  refine Go.Sl.ow_val rfl rfl (Go.Sl.v_move rfl) ?_
  refine Go.Sl.ow_val rfl rfl (Go.Sl.v_extract rfl rfl) ?_
  refine Go.Sl.ow_val rfl rfl (Go.Sl.v_extract rfl rfl) ?_
  refine Go.Sl.ow_val rfl rfl (Go.Sl.v_assign rfl) ?_
  refine Go.Sl.ow_val rfl rfl (Go.Sl.v_assign rfl) ?_
  refine Go.Sl.ow_nil ?_
  refine Go.Sl.xw_then ?_
  refine Go.Sl.cw_seq ?_
  refine Go.Sl.cw_region ?_
  refine Go.Sl.ow_val rfl rfl (Go.Sl.v_move rfl) ?_
  refine Go.Sl.ow_val rfl rfl (Go.Sl.v_len rfl Try.underlying23 rfl) ?_
  refine Go.Sl.ow_val rfl rfl (Go.Sl.v_assign rfl) ?_
  refine Go.Sl.ow_nil ?_
  refine Go.Sl.xw_then ?_
  refine Go.Sl.cw_seq ?_
  refine Go.Sl.cw_seq ?_
  refine Go.Sl.cw_region ?_
  refine Go.Sl.ow_val rfl rfl (Go.Sl.v_move rfl) ?_
  refine Go.Sl.ow_val rfl rfl (Go.Sl.v_sub rfl rfl (Go.Sl.nw_i64 (by omega) (by omega))) ?_
  refine Go.Sl.ow_val rfl rfl (Go.Sl.v_assign rfl) ?_
  refine Go.Sl.ow_nil ?_
  refine Go.Sl.xw_then ?_
  refine Go.Sl.cw_block ?_
  refine Go.Sl.cw_loop2 (ι := ((Nat × List UInt8 × Option Addr × Nat × Hp))) [(1, _), (6, _), (7, _), (9, _)] ⟨rfl, rfl, rfl, rfl, trivial⟩ ((fun x => [(0, .slice x.2.2.1 x.2.1.length x.2.2.2.1), (10, .int .i64 ((x.1 : Int) - 1))])) ((fun x => x.1 ≤ k ∧ x.2.1 = l ++ vbytes n k (k - x.1) ∧ Ls enB 5 (.slice x.2.2.1 x.2.1.length x.2.2.2.1) x.2.2.2.2 x.2.1)) ((fun x => x.1)) ((fun x => x.2.2.2.2 :: F)) (((k, l, ao, cap, c) : Nat × List UInt8 × Option Addr × Nat × Hp)) (by repeat (first | exact True.intro | refine And.intro rfl ?_)) (by first | exact Go.Sl.Cov.refl _ | (intro p; simp only [List.flatten_cons, List.flatten_nil, List.flatten_append, List.append_nil, List.nil_append, Go.Sl.cnt_append, Go.Sl.cnt_cons, Go.Sl.cnt_nil, List.set_cons_zero, List.set_cons_succ, List.length_nil, List.length_cons, Nat.zero_add, List.append]; omega)) ?_ ?_
  · exact ⟨Nat.le_refl _, by dsimp only; rw [Nat.sub_self]; simp [vbytes], hL⟩
  rintro ⟨r, L, aj, cj, cL⟩ ⟨hr, hE, hLj⟩
  dsimp only at hr hE hLj ⊢
  have hLl : L.length = l.length + (k - r) := by rw [hE, List.length_append, vbytes_len]
  refine Go.Sl.cw_seq ?_
  refine Go.Sl.cw_seq ?_
  refine Go.Sl.cw_region ?_
  refine Go.Sl.ow_val rfl rfl (Go.Sl.v_move rfl) ?_
  refine Go.Sl.ow_val rfl rfl (Go.Sl.v_geq rfl rfl) ?_
  refine Go.Sl.ow_nil ?_
  refine Go.Sl.xw_then ?_
  refine Go.Sl.cw_dec rfl (fun hc21 => ?_) (fun hc21 => ?_)
  refine Go.Sl.cw_skip ?_
  refine Go.Sl.xw_then ?_
  rotate_left
  refine Go.Sl.cw_exit ?_
  refine Go.Sl.xw_then_exit ?_
  refine Go.Sl.xw_round_exit ?_
  refine Go.Sl.xw_block_exit ?_
  refine Go.Sl.xw_then ?_
  rotate_left
  · have hok : 0 ≤ bt n ((r : Int) - 1) ∧ bt n ((r : Int) - 1) ≤ 255 := bt_ok n ((r : Int) - 1)
    refine Go.Sl.cw_seq ?_
    refine Go.Sl.cw_block ?_
    refine Go.Sl.cw_region ?_
    refine Go.Sl.ow_val rfl rfl (Go.Sl.v_move rfl) ?_
    refine Go.Sl.ow_val rfl rfl (Go.Sl.v_move rfl) ?_
    refine Go.Sl.ow_val rfl rfl (Go.Sl.v_move rfl) ?_
    refine Go.Sl.ow_val rfl rfl (Go.Sl.v_convert Try.underlying3 Try.underlying166 rfl (Go.Sl.nw_u64 (by omega) (by omega))) ?_
    refine Go.Sl.ow_val rfl rfl (Go.Sl.v_mul rfl rfl (Go.Sl.nw_u64 (by omega) (by omega))) ?_
    refine Go.Sl.ow_val rfl rfl (Go.Sl.v_shr rfl rfl (by omega) rfl) ?_
    refine Go.Sl.ow_val rfl rfl (Go.Sl.v_convert Try.underlying22 Try.underlying5 rfl rfl) ?_
    (refine Go.Sl.ow_buildL (es := [(bt n ((r : Int) - 1))]) rfl rfl Try.underlying23 Ty.em23 (iTy) rfl rfl (by first | (simp [*]; done) | (repeat (first | exact List.forall_mem_nil _ | refine List.forall_mem_cons.2 ⟨?_, ?_⟩ | assumption | (show _ ∧ _; omega)))) (by simp only [List.length_cons, List.length_nil]; decide) ?_; intro ao31 c31 hL31)
    refine Go.Sl.ow_appendL rfl rfl Try.underlying23 Try.underlying23 Ty.em23 vbTy rfl rfl hLj (by repeat (first | exact Go.Sl.Sel.here | apply Go.Sl.Sel.there)) (Vw.bytes (l := [bt n ((r : Int) - 1)]) (Ls.vw hL31 (by repeat (first | exact Go.Sl.Sub.here | assumption | refine Go.Sl.Sub.there ?_)))) (by simp only [List.length_map, List.length_cons, List.length_nil]; omega) (by simp only [List.length_map, List.length_cons, List.length_nil]; omega) ?_
    intro ao32 cap32 c32 hL32
    refine Go.Sl.ow_val rfl rfl (Go.Sl.v_assign rfl) ?_
    refine Go.Sl.ow_nil ?_
    refine Go.Sl.xw_block ?_
    refine Go.Sl.xw_then ?_
    refine Go.Sl.cw_region ?_
    refine Go.Sl.ow_val rfl rfl (Go.Sl.v_move rfl) ?_
    refine Go.Sl.ow_val rfl rfl (Go.Sl.v_sub rfl rfl (Go.Sl.nw_i64 (by omega) (by omega))) ?_
    refine Go.Sl.ow_val rfl rfl (Go.Sl.v_assign rfl) ?_
    refine Go.Sl.ow_nil ?_
    have hE2 : L ++ [bt n ((r : Int) - 1)].map toB = l ++ vbytes n k (k - (r - 1)) := by
      rw [hE, List.append_assoc]
      have h := vbytes_succ (n := n) (k := k) (j := k - r)
      rw [show (k : Int) - 1 - ((k - r : Nat) : Int) = (r : Int) - 1 by omega, show k - r + 1 = k - (r - 1) by omega] at h
      rw [← h]
      rfl
    exact xw_round (r - 1, L ++ [bt n ((r : Int) - 1)].map toB, ao32, cap32, c32) ⟨by omega, hE2, hL32⟩ (by dsimp only; omega) (by first | exact Go.Sl.Cov.refl _ | (intro p; simp only [List.flatten_cons, List.flatten_nil, List.flatten_append, List.append_nil, List.nil_append, Go.Sl.cnt_append, Go.Sl.cnt_cons, Go.Sl.cnt_nil, List.set_cons_zero, List.set_cons_succ, List.length_nil, List.length_cons, Nat.zero_add, List.append]; omega)) ⟨rfl, congrArg (fun z => some (Value.int .i64 z)) (by show (r : Int) - 1 - 1 = (((r - 1 : Nat) : Int) - 1); omega), (by repeat (first | exact True.intro | refine And.intro rfl ?_))⟩
  · have hr0 : r = 0 := by omega
    subst hr0
    have hor := orU8 (L[l.length]'(by omega)) (toB (vmark k))
    rw [toB_val (vmark_ok k)] at hor
    have hset : L.set l.length (L[l.length]'(by omega) ||| toB (vmark k)) = l ++ encV n k := by
      have hE3 : L = l ++ vbytes n k k := hE
      exact setE hE3 (by rw [vbytes_len]; omega)
    refine Go.Sl.cw_seq ?_
    refine Go.Sl.cw_region ?_
    refine Go.Sl.ow_val rfl rfl (Go.Sl.v_move rfl) ?_
    refine Go.Sl.ow_val rfl rfl (Go.Sl.v_move rfl) ?_
    refine Go.Sl.ow_val rfl rfl (Go.Sl.v_indexAddr_ls Try.underlying23 (vbTy) rfl rfl (by assumption) rfl (by omega)) ?_
    refine Go.Sl.ow_val rfl rfl (Go.Sl.v_load rfl (Go.Sl.Vw.var (vbTy) (Go.Sl.Ls.vw (by assumption) (by repeat (first | exact Go.Sl.Sub.here | assumption | refine Go.Sl.Sub.there ?_))) (by omega))) ?_
    refine Go.Sl.ow_val rfl rfl (Go.Sl.v_move rfl) ?_
    refine Go.Sl.ow_val rfl rfl (Go.Sl.v_or rfl rfl rfl) ?_
    refine Go.Sl.ow_val rfl rfl (Go.Sl.v_indexAddr_ls Try.underlying23 (vbTy) rfl rfl (by assumption) rfl (by omega)) ?_
    rw [hor]
    refine ow_storeL (i := l.length) (a := L[l.length]'(by omega) ||| toB (vmark k)) rfl rfl rfl vbTy hLj (by repeat (first | exact Go.Sl.Sel.here | apply Go.Sl.Sel.there)) (by omega) trivial ?_
    intro c39 hL39
    refine Go.Sl.ow_nil ?_
    refine Go.Sl.xw_then ?_
    refine Go.Sl.cw_seq ?_
    refine Go.Sl.cw_region ?_
    refine Go.Sl.ow_val rfl rfl (Go.Sl.v_move rfl) ?_
    refine Go.Sl.ow_val rfl rfl (Go.Sl.v_assign rfl) ?_
    refine Go.Sl.ow_nil ?_
    refine Go.Sl.xw_then ?_
    refine Go.Sl.cw_ret ?_
    refine Go.Sl.ret1 rfl (Go.Sl.res_tmp rfl) ?_
    have hll : L.length = (l ++ encV n k).length := by rw [← hset, List.length_set]
    rw [hset, hll] at hL39
    rw [hll]
    exact ⟨(aj, cj, c39), rfl, hL39, (by first | exact Go.Sl.Cov.refl _ | (intro p; simp only [List.flatten_cons, List.flatten_nil, List.flatten_append, List.append_nil, List.nil_append, Go.Sl.cnt_append, Go.Sl.cnt_cons, Go.Sl.cnt_nil, List.set_cons_zero, List.set_cons_succ, List.length_nil, List.length_cons, Nat.zero_add, List.append]; omega))⟩

/-! ### A writer -/
def WrAt (l : List UInt8) (e : Int) (b : Nat) (c : Hp) : Prop := ∃ ao cap cd, c = [(b, .cells [.slice ao l.length cap, .int .i64 e].toArray 136 (0, 0))] ++ cd ∧ Ls enB 5 (.slice ao l.length cap) cd l
theorem WrAt.of {l : List UInt8} {e : Int} {b n cap : Nat} {ao : Option Addr} {cd : Hp} (hL : Ls enB 5 (.slice ao n cap) cd l) : WrAt l e b ([(b, .cells [.slice ao n cap, .int .i64 e].toArray 136 (0, 0))] ++ cd) := by
  have hn := hL.len
  subst hn
  exact ⟨ao, cap, cd, rfl, hL⟩
theorem wrBytes_c {B : Nat} {w0 : World} {G : List Hp} {R : Hp → List Hp} {l d : List UInt8} {e : Int} {b n cap2 : Nat} {ao2 : Option Addr} {c : Hp} (hsel : Sel G c R) (hO : WrAt l e b c) (hb : l.length ≤ 100000000) (hd : d.length ≤ 100000000) (hV : Vw enB (St B w0 G) (.slice ao2 n cap2) d) :
    Go.Sl.Fn Try.prog 90 #[.pointer (some ⟨b, 0, none⟩), .slice ao2 n cap2] B w0 G fun u G' => ∃ c' : Hp, u = .tuple #[] ∧ WrAt (if e = 0 then l ++ d else l) e b c' ∧ G' = R c' := by
  refine Fn.sel0 hsel fun F hR hF => ?_
  have hV := hV.mono hF
  obtain ⟨ao, cap, cd, rfl, hL⟩ := hO
  refine fn_enter Try.func90 rfl (by kernel_rfl) Try.ntmps90 (by simp) ?_
  refine cw_split ?_
  refine Go.Sl.cw_seq ?_
  refine Go.Sl.cw_seq ?_
  refine Go.Sl.cw_region ?_
  refine Go.Sl.ow_val rfl rfl (Go.Sl.v_move rfl) ?_
  refine Go.Sl.ow_val rfl rfl (Go.Sl.v_eql_nil_some Try.underlying138 rfl) ?_
  refine Go.Sl.ow_val rfl rfl (Go.Sl.v_move rfl) ?_
  refine Go.Sl.ow_val rfl rfl (Go.Sl.v_move rfl) ?_
  refine Go.Sl.ow_val rfl rfl (Go.Sl.v_nilCheck rfl) ?_
  refine Go.Sl.ow_val rfl rfl (Go.Sl.v_fieldAddr0 Ty.fd136_1 rfl) ?_
  refine Go.Sl.ow_val rfl rfl (Go.Sl.v_load rfl (Go.Sl.Var.at1 Ty.sc37 .here (Go.Sl.GetN.lit rfl))) ?_
  refine Go.Sl.ow_val rfl rfl (Go.Sl.v_neq rfl rfl) ?_
  refine Go.Sl.ow_val rfl rfl (Go.Sl.v_pick_false rfl rfl) ?_
  refine Go.Sl.ow_nil ?_
  refine Go.Sl.xw_then ?_
  refine Go.Sl.cw_dec rfl (fun hc12 => ?_) (fun hc12 => ?_)
  refine Go.Sl.cw_ret ?_
  refine Go.Sl.xw_then_ret ?_
  refine Go.Sl.ret0 rfl ?_
  rotate_left
  refine Go.Sl.cw_skip ?_
  refine Go.Sl.xw_then ?_
  refine Go.Sl.cw_region ?_
  refine Go.Sl.ow_val rfl rfl (Go.Sl.v_move rfl) ?_
  refine Go.Sl.ow_val rfl rfl (Go.Sl.v_move rfl) ?_
  refine Go.Sl.ow_val rfl rfl (Go.Sl.v_nilCheck rfl) ?_
  refine Go.Sl.ow_val rfl rfl (Go.Sl.v_fieldAddr0 Ty.fd136_0 rfl) ?_
  refine Go.Sl.ow_val rfl rfl (Go.Sl.v_load rfl (Go.Sl.Var.at1 Ty.sc23 .here (Go.Sl.GetN.lit rfl))) ?_
  refine Go.Sl.ow_val rfl rfl (Go.Sl.v_move rfl) ?_
  (refine Go.Sl.ow_appendL rfl rfl Try.underlying23 Try.underlying23 Ty.em23 (vbTy) rfl rfl (by assumption) (by repeat (first | exact Go.Sl.Sel.here | apply Go.Sl.Sel.there)) (hV.cov (by first | exact Go.Sl.Cov.refl _ | (intro p; simp only [List.flatten_cons, List.flatten_nil, List.flatten_append, List.append_nil, List.nil_append, Go.Sl.cnt_append, Go.Sl.cnt_cons, Go.Sl.cnt_nil, List.set_cons_zero, List.set_cons_succ, List.length_nil, List.length_cons, Nat.zero_add, List.append]; omega))) (by first | omega | (simp only [List.length_append, List.length_take, List.length_drop, List.length_nil, List.length_cons]; omega)) (by first | omega | (simp only [List.length_append, List.length_take, List.length_drop, List.length_nil, List.length_cons]; omega)) ?_; intro ao19 cap19 c19 hL19)
  refine Go.Sl.ow_val rfl rfl (Go.Sl.v_nilCheck rfl) ?_
  refine Go.Sl.ow_val rfl rfl (Go.Sl.v_fieldAddr0 Ty.fd136_0 rfl) ?_
  refine Go.Sl.ow_store1 rfl rfl rfl rfl Ty.sc23 .here (Go.Sl.SetN.one (by first | decide | exact Nat.le_of_ble_eq_true rfl)) ?_
  refine Go.Sl.ow_nil ?_
  refine Go.Sl.ret0n rfl ?_
  rotate_left
  · exact ⟨_, rfl, by rw [if_neg hc12]; exact WrAt.of hL, (by first | exact Go.Sl.Cov.refl _ | (intro p; simp only [List.flatten_cons, List.flatten_nil, List.flatten_append, List.append_nil, List.nil_append, Go.Sl.cnt_append, Go.Sl.cnt_cons, Go.Sl.cnt_nil, List.set_cons_zero, List.set_cons_succ, List.length_nil, List.length_cons, Nat.zero_add, List.append]; omega))⟩
  · exact ⟨[(b, .cells [.slice ao19 (l ++ d).length cap19, .int .i64 e].toArray 136 (0, 0))] ++ c19, rfl, by rw [if_pos (Decidable.not_not.1 hc12)]; exact WrAt.of hL19, (by first | exact Go.Sl.Cov.refl _ | (intro p; simp only [List.flatten_cons, List.flatten_nil, List.flatten_append, List.append_nil, List.nil_append, Go.Sl.cnt_append, Go.Sl.cnt_cons, Go.Sl.cnt_nil, List.set_cons_zero, List.set_cons_succ, List.length_nil, List.length_cons, Nat.zero_add, List.append]; omega))⟩
theorem wrDone_c {B : Nat} {w0 : World} {G : List Hp} {l : List UInt8} {e : Int} {b : Nat} {c : Hp} (hO : WrAt l e b c) (hs : Sub c G) (hb : l.length ≤ 100000000) :
    Go.Sl.Fn Try.prog 64 #[.pointer (some ⟨b, 0, none⟩)] B w0 G fun u G' => ∃ x : Option Addr × Nat × Hp, u = .tuple #[.slice x.1 (if e = 0 then l else []).length x.2.1, .int .i64 e] ∧ Ls enB 5 (.slice x.1 (if e = 0 then l else []).length x.2.1) x.2.2 (if e = 0 then l else []) ∧ G' = [x.2.2] ++ G := by
  refine Fn.new ?_
  obtain ⟨ao, cap, cd, rfl, hL⟩ := hO
  have hs1 := hs.left
  have hs2 := hs.right
  have hN : Ls enB 5 (.slice none 0 0) [] [] := Ls.nil
  have hV : Vw enB (St B w0 G) (.slice ao l.length cap) l := hL.vw hs2
  refine fn_enter Try.func64 rfl (by kernel_rfl) Try.ntmps64 (by simp) ?_
  by_cases he : e = 0
  · subst he
    refine cw_flat ([] :: G) (.of_eq (by simp)) ?_
    have hs3 : Sub [(b, .cells [.slice ao l.length cap, .int .i64 0].toArray 136 (0, 0))] ([] :: G) := hs1.there
    refine Go.Sl.cw_seq ?_
    refine Go.Sl.cw_region ?_
    refine Go.Sl.ow_val rfl rfl (Go.Sl.v_assign rfl) ?_
    refine Go.Sl.ow_val rfl rfl (Go.Sl.v_assign rfl) ?_
    refine Go.Sl.ow_nil ?_
    refine Go.Sl.xw_then ?_
    refine Go.Sl.cw_seq ?_
    refine Go.Sl.cw_seq ?_
    refine Go.Sl.cw_region ?_
    refine Go.Sl.ow_val rfl rfl (Go.Sl.v_move rfl) ?_
    refine Go.Sl.ow_val rfl rfl (Go.Sl.v_eql_nil_some Try.underlying138 rfl) ?_
    refine Go.Sl.ow_nil ?_
    refine Go.Sl.xw_then ?_
    refine Go.Sl.cw_false rfl ?_
    refine Go.Sl.cw_skip ?_
    refine Go.Sl.xw_then ?_
    refine Go.Sl.cw_seq ?_
    refine Go.Sl.cw_seq ?_
    refine Go.Sl.cw_region ?_
    refine Go.Sl.ow_val rfl rfl (Go.Sl.v_move rfl) ?_
    refine Go.Sl.ow_val rfl rfl (Go.Sl.v_nilCheck rfl) ?_
    refine Go.Sl.ow_val rfl rfl (Go.Sl.v_fieldAddr0 Ty.fd136_1 rfl) ?_
    refine Go.Sl.ow_val rfl rfl (Go.Sl.v_load rfl (Go.Sl.Var.sub1 Ty.sc37 (by repeat (first | assumption | refine Go.Sl.Sub.there ?_)) (.head _) (Go.Sl.GetN.lit rfl))) ?_
    refine Go.Sl.ow_val rfl rfl (Go.Sl.v_neq rfl rfl) ?_
    refine Go.Sl.ow_nil ?_
    refine Go.Sl.xw_then ?_
    refine Go.Sl.cw_false rfl ?_
    refine Go.Sl.cw_skip ?_
    refine Go.Sl.xw_then ?_
    refine Go.Sl.cw_seq ?_
    refine Go.Sl.cw_region ?_
    refine Go.Sl.ow_val rfl rfl (Go.Sl.v_move rfl) ?_
    refine Go.Sl.ow_val rfl rfl (Go.Sl.v_nilCheck rfl) ?_
    refine Go.Sl.ow_val rfl rfl (Go.Sl.v_fieldAddr0 Ty.fd136_0 rfl) ?_
    refine Go.Sl.ow_val rfl rfl (Go.Sl.v_load rfl (Go.Sl.Var.sub1 Ty.sc23 (by repeat (first | assumption | refine Go.Sl.Sub.there ?_)) (.head _) (Go.Sl.GetN.lit rfl))) ?_
    (refine Go.Sl.ow_appendL rfl rfl Try.underlying23 Try.underlying23 Ty.em23 (vbTy) rfl rfl (by assumption) (by repeat (first | exact Go.Sl.Sel.here | apply Go.Sl.Sel.there)) (hV.cov (by first | exact Go.Sl.Cov.refl _ | (intro p; simp only [List.flatten_cons, List.flatten_nil, List.flatten_append, List.append_nil, List.nil_append, Go.Sl.cnt_append, Go.Sl.cnt_cons, Go.Sl.cnt_nil, List.set_cons_zero, List.set_cons_succ, List.length_nil, List.length_cons, Nat.zero_add, List.append]; omega))) (by first | omega | (simp only [List.length_append, List.length_take, List.length_drop, List.length_nil, List.length_cons]; omega)) (by first | omega | (simp only [List.length_append, List.length_take, List.length_drop, List.length_nil, List.length_cons]; omega)) ?_; intro ao19 cap19 c19 hL19)
    refine Go.Sl.ow_val rfl rfl (Go.Sl.v_assign rfl) ?_
    refine Go.Sl.ow_val rfl rfl (Go.Sl.v_assign rfl) ?_
    refine Go.Sl.ow_nil ?_
    refine Go.Sl.xw_then ?_
    refine Go.Sl.cw_ret ?_
    refine Go.Sl.ret2 rfl (Go.Sl.res_tmp rfl) (Go.Sl.res_tmp rfl) ?_
    simp only [List.nil_append] at hL19 ⊢
    exact ⟨(ao19, cap19, c19), rfl, hL19, (by first | exact Go.Sl.Cov.refl _ | (intro p; simp only [List.flatten_cons, List.flatten_nil, List.flatten_append, List.append_nil, List.nil_append, Go.Sl.cnt_append, Go.Sl.cnt_cons, Go.Sl.cnt_nil, List.set_cons_zero, List.set_cons_succ, List.length_nil, List.length_cons, Nat.zero_add, List.append]; omega))⟩
  · rw [if_neg he]
    refine Go.Sl.cw_seq ?_
    refine Go.Sl.cw_region ?_
    refine Go.Sl.ow_val rfl rfl (Go.Sl.v_assign rfl) ?_
    refine Go.Sl.ow_val rfl rfl (Go.Sl.v_assign rfl) ?_
    refine Go.Sl.ow_nil ?_
    refine Go.Sl.xw_then ?_
    refine Go.Sl.cw_seq ?_
    refine Go.Sl.cw_seq ?_
    refine Go.Sl.cw_region ?_
    refine Go.Sl.ow_val rfl rfl (Go.Sl.v_move rfl) ?_
    refine Go.Sl.ow_val rfl rfl (Go.Sl.v_eql_nil_some Try.underlying138 rfl) ?_
    refine Go.Sl.ow_nil ?_
    refine Go.Sl.xw_then ?_
    refine Go.Sl.cw_false rfl ?_
    refine Go.Sl.cw_skip ?_
    refine Go.Sl.xw_then ?_
    refine Go.Sl.cw_seq ?_
    refine Go.Sl.cw_seq ?_
    refine Go.Sl.cw_region ?_
    refine Go.Sl.ow_val rfl rfl (Go.Sl.v_move rfl) ?_
    refine Go.Sl.ow_val rfl rfl (Go.Sl.v_nilCheck rfl) ?_
    refine Go.Sl.ow_val rfl rfl (Go.Sl.v_fieldAddr0 Ty.fd136_1 rfl) ?_
    refine Go.Sl.ow_val rfl rfl (Go.Sl.v_load rfl (Go.Sl.Var.sub1 Ty.sc37 (by repeat (first | assumption | refine Go.Sl.Sub.there ?_)) (.head _) (Go.Sl.GetN.lit rfl))) ?_
    refine Go.Sl.ow_val rfl rfl (Go.Sl.v_neq rfl rfl) ?_
    refine Go.Sl.ow_nil ?_
    refine Go.Sl.xw_then ?_
    refine Go.Sl.cw_dec rfl (fun hc10 => ?_) (fun hc10 => ?_)
    rotate_left; (exfalso; omega); rotate_right
    refine Go.Sl.cw_seq ?_
    refine Go.Sl.cw_quiet Ty.mixed (by decide +kernel) ?_
    refine Go.Sl.kw_val rfl rfl (Go.Sl.v_move rfl) ?_
    refine Go.Sl.kw_val rfl rfl (Go.Sl.v_nilCheck rfl) ?_
    refine Go.Sl.kw_val rfl rfl (Go.Sl.v_fieldAddr0 Ty.fd136_1 rfl) ?_
    refine Go.Sl.kw_val rfl rfl (Go.Sl.v_load rfl (Go.Sl.Var.sub1 Ty.sc37 (by repeat (first | assumption | refine Go.Sl.Sub.there ?_)) (.head _) (Go.Sl.GetN.lit rfl))) ?_
    refine Go.Sl.kw_val rfl rfl (Go.Sl.v_assign rfl) ?_
    refine Go.Sl.kw_val rfl rfl (Go.Sl.v_assign rfl) ?_
    refine Go.Sl.kw_nil ?_
    refine Go.Sl.xw_then ?_
    refine Go.Sl.cw_ret ?_
    refine Go.Sl.xw_then_ret ?_
    refine Go.Sl.ret2 rfl (Go.Sl.res_tmp rfl) (Go.Sl.res_tmp rfl) ?_
    exact ⟨(none, 0, []), rfl, Ls.nil, (by first | exact Go.Sl.Cov.refl _ | (intro p; simp only [List.flatten_cons, List.flatten_nil, List.flatten_append, List.append_nil, List.nil_append, Go.Sl.cnt_append, Go.Sl.cnt_cons, Go.Sl.cnt_nil, List.set_cons_zero, List.set_cons_succ, List.length_nil, List.length_cons, Nat.zero_add, List.append]; omega))⟩
def enN : Enc Int := ⟨fun n => [.int .u64 n], 1, fun n => .int .u64 n, fun n => 0 ≤ n ∧ n < 4611686018427387904⟩
theorem nTy : EncTy Try.prog 22 enN := EncTy.scalar Ty.sc22 rfl (fun _ => rfl) (fun _ => rfl)
def encAll (ns : List Int) : List UInt8 := ns.flatMap fun n => encV n (vlen n)
theorem vlen_ok {n : Int} (h : n < 4611686018427387904) : vlen n = 1 ∨ vlen n = 2 ∨ vlen n = 4 ∨ vlen n = 8 := by
  unfold vlen
  split
  · exact .inl rfl
  · split
    · exact .inr (.inl rfl)
    · split
      · exact .inr (.inr (.inl rfl))
      · exact .inr (.inr (.inr rfl))
theorem encV_len {n : Int} {k : Nat} : (encV n k).length = k := by simp [encV, vbytes_len]
theorem encAll_succ {ns : List Int} {j : Nat} (h : j < ns.length) : encAll (ns.take (j + 1)) = encAll (ns.take j) ++ encV ns[j] (vlen ns[j]) := by
  unfold encAll
  rw [List.take_succ_eq_append_getElem h, List.flatMap_append]
  simp
theorem encAll_le : ∀ (ns : List Int), (∀ n ∈ ns, n < 4611686018427387904) → (encAll ns).length ≤ 8 * ns.length
  | [], _ => by simp [encAll]
  | n :: t, h => by
    have ih := encAll_le t fun m hm => h m (List.mem_cons_of_mem _ hm)
    have := vlen_ok (h n List.mem_cons_self)
    unfold encAll at ih ⊢
    rw [List.flatMap_cons, List.length_append, encV_len, List.length_cons]
    omega
set_option maxHeartbeats 4000000 in
theorem wrInt_c {B : Nat} {w0 : World} {G : List Hp} {R : Hp → List Hp} {l : List UInt8} {ns : List Int} {b n cap2 : Nat} {ao2 : Option Addr} {c : Hp} (hsel : Sel G c R) (hO : WrAt l 0 b c) (hb : l.length ≤ 50000000) (hd : ns.length ≤ 1000000) (hV : ∀ c', Vw enN (St B w0 (R c')) (.slice ao2 n cap2) ns) :
    Go.Sl.Fn Try.prog 87 #[.pointer (some ⟨b, 0, none⟩), .slice ao2 n cap2] B w0 G fun u G' => ∃ c' : Hp, u = .tuple #[] ∧ WrAt (l ++ encAll ns) 0 b c' ∧ G' = R c' := by
  refine Fn.sel0 hsel fun F hR hF => ?_
  have hnl := (hV c).len
  subst hnl
  have hVF : ∀ x, Vw enN (St B w0 (x :: F)) (.slice ao2 ns.length cap2) ns := fun x => (hV x).mono fun w h => h.perm (hR x).symm
  have hok := (hV c).ok
  obtain ⟨ao, cap, cd, rfl, hL⟩ := hO
  refine fn_enter Try.func87 rfl (by kernel_rfl) Try.ntmps87 (by simp) ?_
  refine cw_split ?_
  refine Go.Sl.cw_seq ?_
  refine Go.Sl.cw_seq ?_
  refine Go.Sl.cw_region ?_
  refine Go.Sl.ow_val rfl rfl (Go.Sl.v_move rfl) ?_
  refine Go.Sl.ow_val rfl rfl (Go.Sl.v_eql_nil_some Try.underlying138 rfl) ?_
  refine Go.Sl.ow_val rfl rfl (Go.Sl.v_move rfl) ?_
  refine Go.Sl.ow_val rfl rfl (Go.Sl.v_move rfl) ?_
  refine Go.Sl.ow_val rfl rfl (Go.Sl.v_nilCheck rfl) ?_
  refine Go.Sl.ow_val rfl rfl (Go.Sl.v_fieldAddr0 Ty.fd136_1 rfl) ?_
  refine Go.Sl.ow_val rfl rfl (Go.Sl.v_load rfl (Go.Sl.Var.at1 Ty.sc37 .here (Go.Sl.GetN.lit rfl))) ?_
  refine Go.Sl.ow_val rfl rfl (Go.Sl.v_neq rfl rfl) ?_
  refine Go.Sl.ow_val rfl rfl (Go.Sl.v_pick_false rfl rfl) ?_
  refine Go.Sl.ow_nil ?_
  refine Go.Sl.xw_then ?_
  refine Go.Sl.cw_false rfl ?_
  refine Go.Sl.cw_skip ?_
  refine Go.Sl.xw_then ?_
  refine Go.Sl.cw_seq ?_
  refine Go.Sl.cw_region ?_
  refine Go.Sl.ow_val rfl rfl (Go.Sl.v_move rfl) ?_
  refine Go.Sl.ow_val rfl rfl (Go.Sl.v_len rfl Try.underlying60 rfl) ?_
  refine Go.Sl.ow_val rfl rfl (Go.Sl.v_move rfl) ?_
  refine Go.Sl.ow_nil ?_
  refine Go.Sl.xw_then ?_
  refine Go.Sl.cw_block ?_
  refine Go.Sl.cw_loop2 (ι := ((Nat × List UInt8 × Option Addr × Nat × Hp))) [(0, _), (16, _), (17, _)] ⟨rfl, rfl, rfl, trivial⟩ ((fun x => [(18, .int .i64 x.1)])) ((fun x => x.1 ≤ ns.length ∧ x.2.1 = l ++ encAll (ns.take x.1) ∧ Ls enB 5 (.slice x.2.2.1 x.2.1.length x.2.2.2.1) x.2.2.2.2 x.2.1)) ((fun x => ns.length - x.1)) ((fun x => [(b, .cells [.slice x.2.2.1 x.2.1.length x.2.2.2.1, .int .i64 0].toArray 136 (0, 0))] :: x.2.2.2.2 :: F)) (((0, l, ao, cap, cd) : Nat × List UInt8 × Option Addr × Nat × Hp)) (by repeat (first | exact True.intro | refine And.intro rfl ?_)) (by first | exact Go.Sl.Cov.refl _ | (intro p; simp only [List.flatten_cons, List.flatten_nil, List.flatten_append, List.append_nil, List.nil_append, Go.Sl.cnt_append, Go.Sl.cnt_cons, Go.Sl.cnt_nil, List.set_cons_zero, List.set_cons_succ, List.length_nil, List.length_cons, Nat.zero_add, List.append]; omega)) ?_ ?_
  · exact ⟨Nat.zero_le _, by dsimp only; simp [encAll], hL⟩
  rintro ⟨j, L, aj, cj, cL⟩ ⟨hj, hE, hLj⟩
  dsimp only at hj hE hLj ⊢
  refine Go.Sl.cw_seq ?_
  refine Go.Sl.cw_region ?_
  refine Go.Sl.ow_val rfl rfl (Go.Sl.v_lss rfl rfl) ?_
  refine Go.Sl.ow_nil ?_
  refine Go.Sl.xw_then ?_
  refine Go.Sl.cw_seq ?_
  refine Go.Sl.cw_dec rfl (fun hc19 => ?_) (fun hc19 => ?_)
  refine Go.Sl.cw_skip ?_
  refine Go.Sl.xw_then ?_
  rotate_left
  refine Go.Sl.cw_exit ?_
  refine Go.Sl.xw_then_exit ?_
  refine Go.Sl.xw_round_exit ?_
  refine Go.Sl.xw_block_exit ?_
  refine Go.Sl.ret0n rfl ?_
  rotate_left
  · have hj2 : j < ns.length := by omega
    have hoj : 0 ≤ ns[j] ∧ ns[j] < 4611686018427387904 := hok _ (List.getElem_mem hj2)
    have hv0 := vlen_ok hoj.2
    have hLl : L.length ≤ 58000000 := by
      have h := encAll_le (ns.take j) fun m hm => (hok m (List.mem_of_mem_take hm)).2
      rw [List.length_take] at h
      rw [hE, List.length_append]
      omega
    have hv := (hVF ([(b, .cells [.slice aj L.length cj, .int .i64 0].toArray 136 (0, 0))] ++ cL)).cov (G' := [(b, .cells [.slice aj L.length cj, .int .i64 0].toArray 136 (0, 0))] :: cL :: F) (by first | exact Go.Sl.Cov.refl _ | (intro p; simp only [List.flatten_cons, List.flatten_nil, List.flatten_append, List.append_nil, List.nil_append, Go.Sl.cnt_append, Go.Sl.cnt_cons, Go.Sl.cnt_nil, List.set_cons_zero, List.set_cons_succ, List.length_nil, List.length_cons, Nat.zero_add, List.append]; omega))
    refine Go.Sl.cw_seq ?_
    refine Go.Sl.cw_block ?_
    refine Go.Sl.cw_seq ?_
    refine Go.Sl.cw_region ?_
    refine Go.Sl.ow_val rfl rfl (Go.Sl.v_indexAddr_vw Try.underlying60 (nTy) rfl rfl (by assumption) rfl (by omega)) ?_
    refine Go.Sl.ow_val rfl rfl (Go.Sl.v_load rfl (Go.Sl.Vw.var (nTy) (hv) (by omega))) ?_
    refine Go.Sl.ow_val rfl rfl (Go.Sl.v_assign rfl) ?_
    refine Go.Sl.ow_nil ?_
    refine Go.Sl.xw_then ?_
    refine Go.Sl.cw_seq ?_
    refine Go.Sl.cw_region ?_
    refine Go.Sl.ow_val rfl rfl (Go.Sl.v_move rfl) ?_
    refine Go.Sl.ow_val rfl rfl (Go.Sl.v_call rfl rfl (vintLen_c)) ?_
    refine Go.Sl.ow_val rfl rfl (Go.Sl.v_assign rfl) ?_
    refine Go.Sl.ow_nil ?_
    refine Go.Sl.xw_then ?_
    refine Go.Sl.cw_seq ?_
    refine Go.Sl.cw_seq ?_
    refine Go.Sl.cw_region ?_
    refine Go.Sl.ow_val rfl rfl (Go.Sl.v_move rfl) ?_
    refine Go.Sl.ow_val rfl rfl (Go.Sl.v_eql rfl rfl) ?_
    refine Go.Sl.ow_nil ?_
    refine Go.Sl.xw_then ?_
    refine Go.Sl.cw_dec rfl (fun hc25 => ?_) (fun hc25 => ?_)
    (exfalso; omega)
    refine Go.Sl.cw_skip ?_
    refine Go.Sl.xw_then ?_
    refine Go.Sl.cw_region ?_
    refine Go.Sl.ow_val rfl rfl (Go.Sl.v_move rfl) ?_
    refine Go.Sl.ow_val rfl rfl (Go.Sl.v_move rfl) ?_
    refine Go.Sl.ow_val rfl rfl (Go.Sl.v_nilCheck rfl) ?_
    refine Go.Sl.ow_val rfl rfl (Go.Sl.v_fieldAddr0 Ty.fd136_0 rfl) ?_
    refine Go.Sl.ow_val rfl rfl (Go.Sl.v_load rfl (Go.Sl.Var.at1 Ty.sc23 .here (Go.Sl.GetN.lit rfl))) ?_
    refine Go.Sl.ow_val rfl rfl (Go.Sl.v_move rfl) ?_
    refine Go.Sl.ow_val rfl rfl (Go.Sl.v_move rfl) ?_
    (refine Go.Sl.ow_call rfl rfl rfl rfl (attach_c (by repeat (first | exact Go.Sl.Sel.here | apply Go.Sl.Sel.there)) hLj (by omega) (by omega) hv0) ?_; rintro _ _ ⟨x36, rfl, hq36, rfl⟩)
    refine Go.Sl.ow_val rfl rfl (Go.Sl.v_nilCheck rfl) ?_
    refine Go.Sl.ow_val rfl rfl (Go.Sl.v_fieldAddr0 Ty.fd136_0 rfl) ?_
    refine Go.Sl.ow_store1 rfl rfl rfl rfl Ty.sc23 .here (Go.Sl.SetN.one (by first | decide | exact Nat.le_of_ble_eq_true rfl)) ?_
    refine Go.Sl.ow_nil ?_
    refine Go.Sl.xw_block ?_
    refine Go.Sl.xw_then ?_
    refine Go.Sl.cw_region ?_
    refine Go.Sl.ow_val rfl rfl (Go.Sl.v_add rfl rfl (Go.Sl.nw_i64 (by omega) (by omega))) ?_
    refine Go.Sl.ow_val rfl rfl (Go.Sl.v_move rfl) ?_
    refine Go.Sl.ow_nil ?_
    exact xw_round (j + 1, L ++ encV ns[j] (vlen ns[j]), x36.1, x36.2.1, x36.2.2) ⟨by omega, by rw [hE, List.append_assoc, encAll_succ hj2], hq36⟩ (by dsimp only; omega) (by first | exact Go.Sl.Cov.refl _ | (intro p; simp only [List.flatten_cons, List.flatten_nil, List.flatten_append, List.append_nil, List.nil_append, Go.Sl.cnt_append, Go.Sl.cnt_cons, Go.Sl.cnt_nil, List.set_cons_zero, List.set_cons_succ, List.length_nil, List.length_cons, Nat.zero_add, List.append]; omega)) (by repeat (first | exact True.intro | refine And.intro rfl ?_))
  · have hjn : ns.take j = ns := List.take_of_length_le (by omega)
    rw [hjn] at hE
    exact ⟨[(b, .cells [.slice aj L.length cj, .int .i64 0].toArray 136 (0, 0))] ++ cL, rfl, by rw [← hE]; exact WrAt.of hLj, (by first | exact Go.Sl.Cov.refl _ | (intro p; simp only [List.flatten_cons, List.flatten_nil, List.flatten_append, List.append_nil, List.nil_append, Go.Sl.cnt_append, Go.Sl.cnt_cons, Go.Sl.cnt_nil, List.set_cons_zero, List.set_cons_succ, List.length_nil, List.length_cons, Nat.zero_add, List.append]; omega))⟩
end Go.Proofs.Ytckdhelnafjddaa
