/- What ids.Other.Add does, as a contract. Conditions: numbers fit their types, lists are short. -/
import Derived.Test.YtfilpenkihdjiaaOther
namespace Go.Proofs.Ytfilpenkihdjiaa
open Go Go.Sl Go.Proofs
set_option linter.unusedVariables false
set_option linter.unusedSimpArgs false

def insE (e : Entry) (k : List Entry) : List Entry := k.takeWhile (fun x => decide (x.seq < e.seq)) ++ ([e] ++ k.dropWhile (fun x => decide (x.seq < e.seq)))
def keep0 (prior : Int) (l : List Entry) : List Entry := l.filter fun x => !decide (x.seq < prior)
def ret0 (prior : Int) (l : List Entry) (r : List Int) : List Int := (l.filter fun x => decide (x.seq < prior)).foldl (fun r x => addR r x.seq) r
def keptF (e : Entry) (g : Int) (k : List Entry) : List Entry := if 0 ≤ idxF (fun x : Entry => decide (x.seq = e.seq)) k then k else if e.seq < g then k else insE e k
def retF (e : Entry) (g : Int) (k : List Entry) (r : List Int) : List Int := if 0 ≤ idxF (fun x : Entry => decide (x.seq = e.seq)) k then r else if e.seq < g then addR r e.seq else r
def nowF (now : Int) (k : List Entry) : Int := if idxF (fun x : Entry => decide (x.seq = now)) k < 0 ∧ 0 < (k.length : Int) then k[0]!.seq else now
def OtherM.add (m : OtherM) (e : Entry) (prior : Int) : OtherM × Int :=
  if e.seq < prior ∨ ¬ (1 ≤ (e.id.size : Int) ∧ (e.id.size : Int) ≤ 20) then (m, 10)
  else if m.l.any (clashP e) = true then (m, 12)
  else if m.most < ((keptF e (max m.prior prior) (keep0 prior m.l)).length : Int) ∨ 8 < ((retF e (max m.prior prior) (keep0 prior m.l) (ret0 prior m.l m.retired)).length : Int) then (m, 7)
  else (⟨m.most, keptF e (max m.prior prior) (keep0 prior m.l), nowF m.now (keptF e (max m.prior prior) (keep0 prior m.l)), max m.prior prior, retF e (max m.prior prior) (keep0 prior m.l) (ret0 prior m.l m.retired)⟩, 0)

theorem addR_len (r : List Int) (n : Int) : (addR r n).length ≤ r.length + 1 := by
  unfold addR
  split <;> simp
theorem keep0_succ {prior : Int} {l : List Entry} {i : Nat} (hi : i < l.length) : keep0 prior (l.take (i + 1)) = if l[i].seq < prior then keep0 prior (l.take i) else keep0 prior (l.take i) ++ [l[i]] := by
  unfold keep0
  rw [List.take_succ_eq_append_getElem hi, List.filter_append]
  by_cases h : l[i].seq < prior <;> simp [h]
theorem ret0_succ {prior : Int} {l : List Entry} {r : List Int} {i : Nat} (hi : i < l.length) : ret0 prior (l.take (i + 1)) r = if l[i].seq < prior then addR (ret0 prior (l.take i) r) l[i].seq else ret0 prior (l.take i) r := by
  unfold ret0
  rw [List.take_succ_eq_append_getElem hi, List.filter_append]
  by_cases h : l[i].seq < prior <;> simp [h]

/-- the place where an entry goes -/
theorem insE_at {e : Entry} {k : List Entry} {j : Nat} (hj : j ≤ k.length) (hlt : ∀ i (h : i < k.length), i < j → k[i].seq < e.seq) (hge : ∀ h : j < k.length, ¬ k[j].seq < e.seq) : insE e k = k.take j ++ ([e] ++ k.drop j) := by
  have h1 : k.takeWhile (fun x => decide (x.seq < e.seq)) = k.take j ∧ k.dropWhile (fun x => decide (x.seq < e.seq)) = k.drop j := by
    induction k generalizing j with
    | nil => simp
    | cons a k ih =>
      cases j with
      | zero =>
        have hd : decide (a.seq < e.seq) = false := decide_eq_false (hge (by simp))
        simp [List.takeWhile_cons, List.dropWhile_cons, hd]
      | succ j =>
        have ha : decide (a.seq < e.seq) = true := decide_eq_true (hlt 0 (by simp) (by omega))
        obtain ⟨g1, g2⟩ := ih (j := j) (by simpa using hj) (fun i h hi => hlt (i + 1) (by simpa using h) (by omega)) (fun h => hge (by simpa using h))
        simp only [List.takeWhile_cons, List.dropWhile_cons, ha, if_true, g1, g2, List.take_succ_cons, List.drop_succ_cons, and_self]
  rw [insE, h1.1, h1.2]

structure AddIx where
  i : Nat
  kept : List Entry
  ret : List Int
  ao : Option Addr
  cap : Nat
  ck : Hp
  ao2 : Option Addr
  cap2 : Nat
  cr : Hp

set_option maxHeartbeats 4000000 in
theorem add_c {B : Nat} {w0 : World} {G : List Hp} {R : Hp → List Hp} {m : OtherM} {b : Nat} {c : Hp} {e : Entry} {prior : Int} (hsel : Sel G c R) (hO : OtherAt m b c) (hw : m.WF) (he : enE.ok e) (hp : 0 ≤ prior ∧ prior ≤ 18446744073709551615) :
    Go.Sl.Fn Try.prog 12 #[.pointer (some ⟨b, 0, none⟩), enE.val e, .int .u64 prior] B w0 G fun u G' => ∃ c' : Hp, u = .int .i64 (m.add e prior).2 ∧ OtherAt (m.add e prior).1 b c' ∧ G' = R c' := by
  refine Fn.sel0 hsel fun F hR hF => ?_
  obtain ⟨ao, cap, cl, ao2, cap2, cr, rfl, hL, hLr⟩ := hO
  have h1 := hw.ret
  have h2 := hw.most
  have h3 := hw.len
  have h4 := hw.prior
  have h5 := len18 _ he
  have h6 := one18 _ he
  have h7 := he.1
  have hqe : enU.ok e.seq := ⟨he.1, he.2.1⟩
  refine fn_enter Try.func12 rfl (by kernel_rfl) Try.ntmps12 (by simp) ?_
  refine cw_split3 ?_
  refine Go.Sl.cw_seq ?_
  refine Go.Sl.cw_region ?_
  (refine Go.Sl.ow_box rfl rfl rfl rfl ?_; intro b4)
  refine Go.Sl.ow_val rfl rfl (Go.Sl.v_assign rfl) ?_
  refine Go.Sl.ow_nil ?_
  refine Go.Sl.xw_then ?_
  refine Go.Sl.cw_seq ?_
  refine Go.Sl.cw_seq ?_
  refine Go.Sl.cw_region ?_
  refine Go.Sl.ow_val rfl rfl (Go.Sl.v_move rfl) ?_
  refine Go.Sl.ow_val rfl rfl (Go.Sl.v_eql_nil_some Try.underlying24 rfl) ?_
  refine Go.Sl.ow_nil ?_
  refine Go.Sl.xw_then ?_
  refine Go.Sl.cw_false rfl ?_
  refine Go.Sl.cw_skip ?_
  refine Go.Sl.xw_then ?_
  refine Go.Sl.cw_seq ?_
  refine Go.Sl.cw_seq ?_
  refine Go.Sl.cw_region ?_
  refine Go.Sl.ow_val rfl rfl (Go.Sl.v_move rfl) ?_
  refine Go.Sl.ow_val rfl rfl (Go.Sl.v_fieldAddr0 Ty.fd30_0 rfl) ?_
  refine Go.Sl.ow_val rfl rfl (Go.Sl.v_load rfl (Go.Sl.Var.at1 Ty.sc27 .here (Go.Sl.GetN.lit rfl))) ?_
  refine Go.Sl.ow_val rfl rfl (Go.Sl.v_gtr rfl rfl) ?_
  refine Go.Sl.ow_val rfl rfl (Go.Sl.v_move rfl) ?_
  refine Go.Sl.ow_dec 20 rfl (fun hc20 => ?_) (fun hc20 => ?_)
  refine Go.Sl.ow_skip rfl rfl ?_
  refine Go.Sl.ow_skip rfl rfl ?_
  refine Go.Sl.ow_skip rfl rfl ?_
  refine Go.Sl.ow_skip rfl rfl ?_
  refine Go.Sl.ow_skip rfl rfl ?_
  refine Go.Sl.ow_val rfl rfl (Go.Sl.v_pick_true rfl rfl) ?_
  refine Go.Sl.ow_nil ?_
  refine Go.Sl.xw_then ?_
  refine Go.Sl.cw_true rfl ?_
  refine Go.Sl.cw_seq ?_
  refine Go.Sl.cw_region ?_
  refine Go.Sl.ow_val rfl rfl (Go.Sl.v_assign rfl) ?_
  refine Go.Sl.ow_nil ?_
  refine Go.Sl.xw_then ?_
  refine Go.Sl.cw_ret ?_
  refine Go.Sl.xw_then_ret ?_
  refine Go.Sl.ret1 rfl (Go.Sl.res_tmp rfl) ?_
  rotate_left
  refine Go.Sl.ow_val rfl rfl (Go.Sl.v_fieldAddr0 Ty.fd30_1 rfl) ?_
  refine Go.Sl.ow_val rfl rfl (Go.Sl.v_load rfl (Go.Sl.Var.at1 Ty.sc9 .here (Go.Sl.GetN.lit rfl))) ?_
  refine Go.Sl.ow_val rfl rfl (Go.Sl.v_len_str rfl Try.underlying9 rfl) ?_
  refine Go.Sl.ow_val rfl rfl (Go.Sl.v_call rfl rfl (sized_c)) ?_
  refine Go.Sl.ow_val rfl rfl (Go.Sl.v_not rfl) ?_
  refine Go.Sl.ow_val rfl rfl (Go.Sl.v_pick_false rfl rfl) ?_
  refine Go.Sl.ow_nil ?_
  refine Go.Sl.xw_then ?_
  refine Go.Sl.cw_dec rfl (fun hc26 => ?_) (fun hc26 => ?_)
  refine Go.Sl.cw_seq ?_
  refine Go.Sl.cw_region ?_
  refine Go.Sl.ow_val rfl rfl (Go.Sl.v_assign rfl) ?_
  refine Go.Sl.ow_nil ?_
  refine Go.Sl.xw_then ?_
  refine Go.Sl.cw_ret ?_
  refine Go.Sl.xw_then_ret ?_
  refine Go.Sl.ret1 rfl (Go.Sl.res_tmp rfl) ?_
  rotate_left
  refine Go.Sl.cw_skip ?_
  refine Go.Sl.xw_then ?_
  refine Go.Sl.cw_seq ?_
  refine Go.Sl.cw_seq ?_
  refine Go.Sl.cw_region ?_
  refine Go.Sl.ow_val rfl rfl (Go.Sl.v_move rfl) ?_
  refine Go.Sl.ow_val rfl rfl (Go.Sl.v_load rfl (Go.Sl.Var.atN Ty.ag30 .here Go.Sl.GetN.all (by first | rfl | assumption))) ?_
  refine Go.Sl.ow_val rfl rfl (Go.Sl.v_call rfl rfl (clashes_c (m := m) ⟨ao, cap, cl, ao2, cap2, cr, rfl, hL, hLr⟩ (Sub.app (by repeat (first | exact Go.Sl.Sub.here | assumption | refine Go.Sl.Sub.there ?_)) (Sub.app (by repeat (first | exact Go.Sl.Sub.here | assumption | refine Go.Sl.Sub.there ?_)) (by repeat (first | exact Go.Sl.Sub.here | assumption | refine Go.Sl.Sub.there ?_)))) hw he)) ?_
  refine Go.Sl.ow_nil ?_
  refine Go.Sl.xw_then ?_
  refine Go.Sl.cw_bool rfl (fun hc29 => ?_) (fun hc29 => ?_)
  refine Go.Sl.cw_seq ?_
  refine Go.Sl.cw_region ?_
  refine Go.Sl.ow_val rfl rfl (Go.Sl.v_assign rfl) ?_
  refine Go.Sl.ow_nil ?_
  refine Go.Sl.xw_then ?_
  refine Go.Sl.cw_ret ?_
  refine Go.Sl.xw_then_ret ?_
  refine Go.Sl.ret1 rfl (Go.Sl.res_tmp rfl) ?_
  rotate_left
  refine Go.Sl.cw_skip ?_
  refine Go.Sl.xw_then ?_
  refine Go.Sl.cw_seq ?_
  refine Go.Sl.cw_region ?_
  refine Go.Sl.ow_val rfl rfl (Go.Sl.v_assign rfl) ?_
  refine Go.Sl.ow_nil ?_
  refine Go.Sl.xw_then ?_
  refine Go.Sl.cw_seq ?_
  refine Go.Sl.cw_region ?_
  refine Go.Sl.ow_val rfl rfl (Go.Sl.v_move rfl) ?_
  refine Go.Sl.ow_val rfl rfl (Go.Sl.v_nilCheck rfl) ?_
  refine Go.Sl.ow_val rfl rfl (Go.Sl.v_fieldAddr0 Ty.fd60_4 rfl) ?_
  refine Go.Sl.ow_val rfl rfl (Go.Sl.v_load rfl (Go.Sl.Var.at1 Ty.sc32 (.there .here) (Go.Sl.GetN.lit rfl))) ?_
  (refine Go.Sl.ow_call rfl rfl rfl rfl (cloneU_c (hLr.vw (by repeat (first | exact Go.Sl.Sub.here | assumption | refine Go.Sl.Sub.there ?_))) (by omega)) ?_; rintro _ _ ⟨x34, rfl, hq34, rfl⟩)
  (refine Go.Sl.ow_alloc rfl rfl Ty.ze32 ?_; intro b8)
  refine Go.Sl.ow_store1 rfl rfl rfl rfl Ty.sc32 .here (Go.Sl.SetN.one (by first | decide | exact Nat.le_of_ble_eq_true rfl)) ?_
  refine Go.Sl.ow_nil ?_
  refine Go.Sl.xw_then ?_
  refine Go.Sl.cw_seq ?_
  refine Go.Sl.cw_region ?_
  refine Go.Sl.ow_val rfl rfl (Go.Sl.v_makeFunc rfl rfl) ?_
  refine Go.Sl.ow_val rfl rfl (Go.Sl.v_assign rfl) ?_
  refine Go.Sl.ow_nil ?_
  refine Go.Sl.xw_then ?_
  refine Go.Sl.cw_seq ?_
  refine Go.Sl.cw_seq ?_
  refine Go.Sl.cw_region ?_
  refine Go.Sl.ow_val rfl rfl (Go.Sl.v_move rfl) ?_
  refine Go.Sl.ow_val rfl rfl (Go.Sl.v_nilCheck rfl) ?_
  refine Go.Sl.ow_val rfl rfl (Go.Sl.v_fieldAddr0 Ty.fd60_1 rfl) ?_
  refine Go.Sl.ow_val rfl rfl (Go.Sl.v_load rfl (Go.Sl.Var.at1 Ty.sc31 (.there (.there (.there .here))) (Go.Sl.GetN.lit rfl))) ?_
  refine Go.Sl.ow_val rfl rfl (Go.Sl.v_len rfl Try.underlying31 rfl) ?_
  refine Go.Sl.ow_val rfl rfl (Go.Sl.v_move rfl) ?_
  refine Go.Sl.ow_nil ?_
  refine Go.Sl.xw_then ?_
  refine Go.Sl.cw_block ?_
  rotate_left
  · rw [show m.add e prior = (m, 10) from by rw [OtherM.add, if_pos (.inl hc20)]]
    exact ⟨_, rfl, ⟨ao, cap, cl, ao2, cap2, cr, rfl, hL, hLr⟩, (by first | exact Go.Sl.Cov.refl _ | (intro p; simp only [List.flatten_cons, List.flatten_nil, List.flatten_append, List.append_nil, List.nil_append, Go.Sl.cnt_append, Go.Sl.cnt_cons, Go.Sl.cnt_nil, List.set_cons_zero, List.set_cons_succ, List.length_nil, List.length_cons, Nat.zero_add, List.append]; omega))⟩
  · rw [show m.add e prior = (m, 10) from by rw [OtherM.add, if_pos (.inr hc26)]]
    exact ⟨_, rfl, ⟨ao, cap, cl, ao2, cap2, cr, rfl, hL, hLr⟩, (by first | exact Go.Sl.Cov.refl _ | (intro p; simp only [List.flatten_cons, List.flatten_nil, List.flatten_append, List.append_nil, List.nil_append, Go.Sl.cnt_append, Go.Sl.cnt_cons, Go.Sl.cnt_nil, List.set_cons_zero, List.set_cons_succ, List.length_nil, List.length_cons, Nat.zero_add, List.append]; omega))⟩
  · rw [show m.add e prior = (m, 12) from by rw [OtherM.add, if_neg (fun h => h.elim hc20 hc26), if_pos hc29]]
    exact ⟨_, rfl, ⟨ao, cap, cl, ao2, cap2, cr, rfl, hL, hLr⟩, (by first | exact Go.Sl.Cov.refl _ | (intro p; simp only [List.flatten_cons, List.flatten_nil, List.flatten_append, List.append_nil, List.nil_append, Go.Sl.cnt_append, Go.Sl.cnt_cons, Go.Sl.cnt_nil, List.set_cons_zero, List.set_cons_succ, List.length_nil, List.length_cons, Nat.zero_add, List.append]; omega))⟩
  · refine Go.Sl.cw_loop2 (ι := (AddIx)) [(0, _), (2, _), (4, _), (6, _), (8, _), (9, _), (39, _), (40, _)] ⟨rfl, rfl, rfl, rfl, rfl, rfl, rfl, rfl, trivial⟩ ((fun x => [(7, .slice x.ao x.kept.length x.cap), (41, .int .i64 x.i)])) ((fun x => x.i ≤ m.l.length ∧ x.kept = keep0 prior (m.l.take x.i) ∧ x.ret = ret0 prior (m.l.take x.i) m.retired ∧ x.ret.length ≤ 1000 + x.i ∧ x.kept.length ≤ x.i ∧ Ls enE 30 (.slice x.ao x.kept.length x.cap) x.ck x.kept ∧ Ls enU 27 (.slice x.ao2 x.ret.length x.cap2) x.cr x.ret)) ((fun x => m.l.length - x.i)) ((fun x => ([(b8, .cells [Value.slice x.ao2 x.ret.length x.cap2].toArray 32 (0, 0))] ++ x.cr) :: x.ck :: [(b4, .cells e.cells.toArray 30 (0, 0))] :: [(b, .cells [Value.int .i64 m.most, .slice ao m.l.length cap, .int .u64 m.now, .int .u64 m.prior, .slice ao2 m.retired.length cap2].toArray 60 (0, 0))] :: cl :: cr :: F)) ((⟨0, [], m.retired, none, 0, [], x34.1, x34.2.1, x34.2.2⟩ : AddIx)) (by repeat (first | exact True.intro | refine And.intro rfl ?_)) (by first | exact Go.Sl.Cov.refl _ | (intro p; simp only [List.flatten_cons, List.flatten_nil, List.flatten_append, List.append_nil, List.nil_append, Go.Sl.cnt_append, Go.Sl.cnt_cons, Go.Sl.cnt_nil, List.set_cons_zero, List.set_cons_succ, List.length_nil, List.length_cons, Nat.zero_add, List.append]; omega)) ?_ ?_
    · exact ⟨Nat.zero_le _, by simp [keep0], by simp [ret0], by dsimp only; omega, by simp, Ls.nil, hq34⟩
    rintro ⟨i, kept, ret, aoK, capK, ck, aoR, capR, crR⟩ ⟨hi, hkept, hret, hrl, hkl, hLk, hLrr⟩
    dsimp only at hi hkept hret hrl hkl hLk hLrr ⊢
    have hrls := addR_len ret
    refine Go.Sl.cw_seq ?_
    refine Go.Sl.cw_region ?_
    refine Go.Sl.ow_val rfl rfl (Go.Sl.v_lss rfl rfl) ?_
    refine Go.Sl.ow_nil ?_
    refine Go.Sl.xw_then ?_
    refine Go.Sl.cw_seq ?_
    refine Go.Sl.cw_dec rfl (fun hc42 => ?_) (fun hc42 => ?_)
    refine Go.Sl.cw_skip ?_
    refine Go.Sl.xw_then ?_
    refine Go.Sl.cw_seq ?_
    refine Go.Sl.cw_block ?_
    refine Go.Sl.cw_seq ?_
    refine Go.Sl.cw_region ?_
    refine Go.Sl.ow_val rfl rfl (Go.Sl.v_indexAddr_ls Try.underlying31 (eTy) rfl rfl (by assumption) rfl (by omega)) ?_
    refine Go.Sl.ow_val rfl rfl (Go.Sl.v_load rfl (Go.Sl.Vw.var (eTy) (hL.vw (by repeat (first | exact Go.Sl.Sub.here | assumption | refine Go.Sl.Sub.there ?_))) (by omega))) ?_
    (refine Go.Sl.ow_alloc rfl rfl Ty.ze30 ?_; intro b11)
    rotate_left
    refine Go.Sl.cw_exit ?_
    refine Go.Sl.xw_then_exit ?_
    refine Go.Sl.xw_round_exit ?_
    refine Go.Sl.xw_block_exit ?_
    refine Go.Sl.xw_then ?_
    refine Go.Sl.cw_seq ?_
    refine Go.Sl.cw_region ?_
    refine Go.Sl.ow_val rfl rfl (Go.Sl.v_move rfl) ?_
    refine Go.Sl.ow_val rfl rfl (Go.Sl.v_nilCheck rfl) ?_
    refine Go.Sl.ow_val rfl rfl (Go.Sl.v_fieldAddr0 Ty.fd60_3 rfl) ?_
    refine Go.Sl.ow_val rfl rfl (Go.Sl.v_load rfl (Go.Sl.Var.at1 Ty.sc27 (.there (.there (.there .here))) (Go.Sl.GetN.lit rfl))) ?_
    refine Go.Sl.ow_val rfl rfl (Go.Sl.v_move rfl) ?_
    refine Go.Sl.ow_val rfl rfl (Go.Sl.v_max rfl rfl) ?_
    refine Go.Sl.ow_val rfl rfl (Go.Sl.v_assign rfl) ?_
    refine Go.Sl.ow_nil ?_
    refine Go.Sl.xw_then ?_
    rotate_left
    · have hi2 : i < m.l.length := by omega
      have hok := hL.ok _ (List.getElem_mem hi2)
      have hq : enU.ok (m.l[i]).seq := ⟨hok.1, hok.2.1⟩
      have hk0 := keep0_succ (prior := prior) hi2
      have hr0 := ret0_succ (prior := prior) (r := m.retired) hi2
      rw [← hkept] at hk0
      rw [← hret] at hr0
      refine Go.Sl.ow_storeE rfl (eTy) rfl rfl .here (by first | rfl | assumption) (by assumption) ?_
      refine Go.Sl.ow_nil ?_
      refine Go.Sl.xw_then ?_
      refine Go.Sl.cw_seq ?_
      refine Go.Sl.cw_region ?_
      refine Go.Sl.ow_val rfl rfl (Go.Sl.v_fieldAddr0 Ty.fd30_0 rfl) ?_
      refine Go.Sl.ow_val rfl rfl (Go.Sl.v_load rfl (Go.Sl.Var.at1 Ty.sc27 .here (Go.Sl.GetN.lit rfl))) ?_
      refine Go.Sl.ow_val rfl rfl (Go.Sl.v_move rfl) ?_
      refine Go.Sl.ow_val rfl rfl (Go.Sl.v_lss rfl rfl) ?_
      refine Go.Sl.ow_nil ?_
      refine Go.Sl.xw_then ?_
      refine Go.Sl.cw_dec rfl (fun hc48 => ?_) (fun hc48 => ?_)
      refine Go.Sl.cw_region ?_
      refine Go.Sl.ow_val rfl rfl (Go.Sl.v_move rfl) ?_
      refine Go.Sl.ow_val rfl rfl (Go.Sl.v_fieldAddr0 Ty.fd30_0 rfl) ?_
      refine Go.Sl.ow_val rfl rfl (Go.Sl.v_load rfl (Go.Sl.Var.at1 Ty.sc27 .here (Go.Sl.GetN.lit rfl))) ?_
      (refine Go.Sl.ow_call rfl rfl rfl rfl (add1_c (by repeat (first | exact Go.Sl.Sel.here | apply Go.Sl.Sel.there)) hLrr (by omega) hq) ?_; rintro _ _ ⟨x52, rfl, hq52, rfl⟩)
      refine Go.Sl.ow_nil ?_
      refine Go.Sl.xw_block ?_
      refine Go.Sl.xw_then ?_
      refine Go.Sl.cw_region ?_
      refine Go.Sl.ow_val rfl rfl (Go.Sl.v_add rfl rfl (Go.Sl.nw_i64 (by omega) (by omega))) ?_
      refine Go.Sl.ow_val rfl rfl (Go.Sl.v_move rfl) ?_
      refine Go.Sl.ow_nil ?_
      rotate_left
      refine Go.Sl.cw_region ?_
      refine Go.Sl.ow_val rfl rfl (Go.Sl.v_move rfl) ?_
      refine Go.Sl.ow_val rfl rfl (Go.Sl.v_load rfl (Go.Sl.Var.atE (eTy) .here (by assumption))) ?_
      (refine Go.Sl.ow_buildL (es := [(m.l[i])]) rfl rfl Try.underlying31 Ty.em31 (eTy) rfl rfl (by simp [*]) (by simp only [List.length_cons, List.length_nil]; decide) ?_; intro ao55 c55 hL55)
      (refine Go.Sl.ow_appendL rfl rfl Try.underlying31 Try.underlying31 Ty.em31 (eTy) rfl rfl (by assumption) (by repeat (first | exact Go.Sl.Sel.here | apply Go.Sl.Sel.there)) (Go.Sl.Ls.vw (by assumption) (by repeat (first | exact Go.Sl.Sub.here | assumption | refine Go.Sl.Sub.there ?_))) (by first | omega | (simp only [List.length_append, List.length_take, List.length_drop, List.length_nil, List.length_cons]; omega)) (by first | omega | (simp only [List.length_append, List.length_take, List.length_drop, List.length_nil, List.length_cons]; omega)) ?_; intro ao56 cap56 c56 hL56)
      refine Go.Sl.ow_val rfl rfl (Go.Sl.v_assign rfl) ?_
      refine Go.Sl.ow_nil ?_
      refine Go.Sl.xw_block ?_
      refine Go.Sl.xw_then ?_
      refine Go.Sl.cw_region ?_
      refine Go.Sl.ow_val rfl rfl (Go.Sl.v_add rfl rfl (Go.Sl.nw_i64 (by omega) (by omega))) ?_
      refine Go.Sl.ow_val rfl rfl (Go.Sl.v_move rfl) ?_
      refine Go.Sl.ow_nil ?_
      rotate_left
      · rw [if_pos hc48] at hk0 hr0
        exact xw_round (⟨i + 1, kept, addR ret (m.l[i]).seq, aoK, capK, ck, x52.1, x52.2.1, x52.2.2⟩ : AddIx) ⟨by dsimp only; omega, hk0.symm, hr0.symm, by have := hrls (m.l[i]).seq; dsimp only; omega, by dsimp only; omega, hLk, hq52⟩ (by dsimp only; omega) (by first | exact Go.Sl.Cov.refl _ | (intro p; simp only [List.flatten_cons, List.flatten_nil, List.flatten_append, List.append_nil, List.nil_append, Go.Sl.cnt_append, Go.Sl.cnt_cons, Go.Sl.cnt_nil, List.set_cons_zero, List.set_cons_succ, List.length_nil, List.length_cons, Nat.zero_add, List.append]; omega)) (by repeat (first | exact True.intro | refine And.intro rfl ?_))
      · rw [if_neg hc48] at hk0 hr0
        exact xw_round (⟨i + 1, kept ++ [m.l[i]], ret, ao56, cap56, c56, aoR, capR, crR⟩ : AddIx) ⟨by dsimp only; omega, hk0.symm, hr0.symm, by dsimp only; omega, by simp; omega, hL56, hLrr⟩ (by dsimp only; omega) (by first | exact Go.Sl.Cov.refl _ | (intro p; simp only [List.flatten_cons, List.flatten_nil, List.flatten_append, List.append_nil, List.nil_append, Go.Sl.cnt_append, Go.Sl.cnt_cons, Go.Sl.cnt_nil, List.set_cons_zero, List.set_cons_succ, List.length_nil, List.length_cons, Nat.zero_add, List.append]; omega)) (by repeat (first | exact True.intro | refine And.intro rfl ?_))
    · have hie : i = m.l.length := by omega
      subst hie
      rw [List.take_length] at hkept hret
      have hbd := idxF_bd (p := fun x : Entry => decide (x.seq = e.seq)) (l := kept)
      refine Go.Sl.cw_cut2 (ι := (AddIx)) [(0, _), (6, _), (8, _), (12, _)] ⟨rfl, rfl, rfl, rfl, trivial⟩ ((fun x => [(7, .slice x.ao x.kept.length x.cap)])) ((fun x => x.kept = keptF e (max m.prior prior) kept ∧ x.ret = retF e (max m.prior prior) kept ret ∧ x.kept.length ≤ 5 ∧ x.ret.length ≤ 1010 ∧ Ls enE 30 (.slice x.ao x.kept.length x.cap) x.ck x.kept ∧ Ls enU 27 (.slice x.ao2 x.ret.length x.cap2) x.cr x.ret)) ((fun x => ([(b8, .cells [Value.slice x.ao2 x.ret.length x.cap2].toArray 32 (0, 0))] ++ x.cr) :: x.ck :: [(b, .cells [Value.int .i64 m.most, .slice ao m.l.length cap, .int .u64 m.now, .int .u64 m.prior, .slice ao2 m.retired.length cap2].toArray 60 (0, 0))] :: cl :: cr :: F)) ?_ ?_
      · refine Go.Sl.cw_block ?_
        refine Go.Sl.cw_seq ?_
        refine Go.Sl.cw_region ?_
        refine Go.Sl.ow_val rfl rfl (Go.Sl.v_move rfl) ?_
        refine Go.Sl.ow_val rfl rfl (Go.Sl.v_fieldAddr0 Ty.fd30_0 rfl) ?_
        refine Go.Sl.ow_val rfl rfl (Go.Sl.v_load rfl (Go.Sl.Var.at1 Ty.sc27 (.there (.there .here)) (Go.Sl.GetN.lit rfl))) ?_
        refine Go.Sl.ow_val rfl rfl (Go.Sl.v_call rfl rfl (place_c (hLk.vw (by repeat (first | exact Go.Sl.Sub.here | assumption | refine Go.Sl.Sub.there ?_))) (by omega))) ?_
        refine Go.Sl.ow_val rfl rfl (Go.Sl.v_geq rfl rfl) ?_
        refine Go.Sl.ow_val rfl rfl (Go.Sl.v_assign rfl) ?_
        refine Go.Sl.ow_nil ?_
        refine Go.Sl.xw_then ?_
        refine Go.Sl.cw_dec rfl (fun hc85 => ?_) (fun hc85 => ?_)
        refine Go.Sl.cw_skip ?_
        refine Go.Sl.xw_block ?_
        rotate_left
        refine Go.Sl.cw_seq ?_
        refine Go.Sl.cw_region ?_
        refine Go.Sl.ow_val rfl rfl (Go.Sl.v_fieldAddr0 Ty.fd30_0 rfl) ?_
        refine Go.Sl.ow_val rfl rfl (Go.Sl.v_load rfl (Go.Sl.Var.at1 Ty.sc27 (.there (.there .here)) (Go.Sl.GetN.lit rfl))) ?_
        refine Go.Sl.ow_val rfl rfl (Go.Sl.v_move rfl) ?_
        refine Go.Sl.ow_val rfl rfl (Go.Sl.v_lss rfl rfl) ?_
        refine Go.Sl.ow_val rfl rfl (Go.Sl.v_assign rfl) ?_
        refine Go.Sl.ow_nil ?_
        refine Go.Sl.xw_then ?_
        refine Go.Sl.cw_dec rfl (fun hc91 => ?_) (fun hc91 => ?_)
        refine Go.Sl.cw_region ?_
        refine Go.Sl.ow_val rfl rfl (Go.Sl.v_move rfl) ?_
        refine Go.Sl.ow_val rfl rfl (Go.Sl.v_fieldAddr0 Ty.fd30_0 rfl) ?_
        refine Go.Sl.ow_val rfl rfl (Go.Sl.v_load rfl (Go.Sl.Var.at1 Ty.sc27 (.there (.there .here)) (Go.Sl.GetN.lit rfl))) ?_
        (refine Go.Sl.ow_call rfl rfl rfl rfl (add1_c (by repeat (first | exact Go.Sl.Sel.here | apply Go.Sl.Sel.there)) hLrr (by omega) hqe) ?_; rintro _ _ ⟨x99, rfl, hq99, rfl⟩)
        refine Go.Sl.ow_nil ?_
        refine Go.Sl.xw_block ?_
        rotate_left
        refine Go.Sl.cw_seq ?_
        refine Go.Sl.cw_region ?_
        refine Go.Sl.ow_val rfl rfl (Go.Sl.v_assign rfl) ?_
        refine Go.Sl.ow_nil ?_
        refine Go.Sl.xw_then ?_
        rotate_left
        · exact xw_joint (⟨0, kept, ret, aoK, capK, ck, aoR, capR, crR⟩ : AddIx) ⟨by rw [keptF, if_pos hc85], by rw [retF, if_pos hc85], by dsimp only; omega, by dsimp only; omega, hLk, hLrr⟩ (by first | exact Go.Sl.Cov.refl _ | (intro p; simp only [List.flatten_cons, List.flatten_nil, List.flatten_append, List.append_nil, List.nil_append, Go.Sl.cnt_append, Go.Sl.cnt_cons, Go.Sl.cnt_nil, List.set_cons_zero, List.set_cons_succ, List.length_nil, List.length_cons, Nat.zero_add, List.append]; omega)) (by repeat (first | exact True.intro | refine And.intro rfl ?_))
        · exact xw_joint (⟨0, kept, addR ret e.seq, aoK, capK, ck, x99.1, x99.2.1, x99.2.2⟩ : AddIx) ⟨by rw [keptF, if_neg hc85, if_pos hc91], by rw [retF, if_neg hc85, if_pos hc91], by dsimp only; omega, by have := hrls e.seq; dsimp only; omega, hLk, hq99⟩ (by first | exact Go.Sl.Cov.refl _ | (intro p; simp only [List.flatten_cons, List.flatten_nil, List.flatten_append, List.append_nil, List.nil_append, Go.Sl.cnt_append, Go.Sl.cnt_cons, Go.Sl.cnt_nil, List.set_cons_zero, List.set_cons_succ, List.length_nil, List.length_cons, Nat.zero_add, List.append]; omega)) (by repeat (first | exact True.intro | refine And.intro rfl ?_))
        · have hkF : keptF e (max m.prior prior) kept = insE e kept := by rw [keptF, if_neg hc85, if_neg hc91]
          have hrF : retF e (max m.prior prior) kept ret = ret := by rw [retF, if_neg hc85, if_neg hc91]
          refine Go.Sl.cw_cut2 (ι := ((Nat × Unit))) [(0, _), (4, _), (6, _), (7, _), (8, _), (12, _)] ⟨rfl, rfl, rfl, rfl, rfl, rfl, trivial⟩ ((fun x => [(13, .int .i64 x.1)])) ((fun x => x.1 ≤ kept.length ∧ insE e kept = kept.take x.1 ++ ([e] ++ kept.drop x.1))) ((fun x => ([(b8, .cells [Value.slice aoR ret.length capR].toArray 32 (0, 0))] ++ crR) :: ck :: [(b4, .cells e.cells.toArray 30 (0, 0))] :: [(b, .cells [Value.int .i64 m.most, .slice ao m.l.length cap, .int .u64 m.now, .int .u64 m.prior, .slice ao2 m.retired.length cap2].toArray 60 (0, 0))] :: cl :: cr :: F)) ?_ ?_
          · refine Go.Sl.cw_block ?_
            refine Go.Sl.cw_loop2 (ι := (Nat)) [(0, _), (4, _), (6, _), (7, _), (8, _), (12, _)] ⟨rfl, rfl, rfl, rfl, rfl, rfl, trivial⟩ ((fun i => [(13, .int .i64 i)])) ((fun i => i ≤ kept.length ∧ ∀ j (h : j < kept.length), j < i → kept[j].seq < e.seq)) ((fun i => kept.length - i)) ((fun x => ([(b8, .cells [Value.slice aoR ret.length capR].toArray 32 (0, 0))] ++ crR) :: ck :: [(b4, .cells e.cells.toArray 30 (0, 0))] :: [(b, .cells [Value.int .i64 m.most, .slice ao m.l.length cap, .int .u64 m.now, .int .u64 m.prior, .slice ao2 m.retired.length cap2].toArray 60 (0, 0))] :: cl :: cr :: F)) (0) (by repeat (first | exact True.intro | refine And.intro rfl ?_)) (by first | exact Go.Sl.Cov.refl _ | (intro p; simp only [List.flatten_cons, List.flatten_nil, List.flatten_append, List.append_nil, List.nil_append, Go.Sl.cnt_append, Go.Sl.cnt_cons, Go.Sl.cnt_nil, List.set_cons_zero, List.set_cons_succ, List.length_nil, List.length_cons, Nat.zero_add, List.append]; omega)) ?_ ?_
            · exact ⟨Nat.zero_le _, fun j _ h => absurd h (by omega)⟩
            rintro i ⟨hi, hlt⟩
            refine Go.Sl.cw_seq ?_
            refine Go.Sl.cw_seq ?_
            refine Go.Sl.cw_quiet Ty.mixed (by decide +kernel) ?_
            refine Go.Sl.kw_val rfl rfl (Go.Sl.v_move rfl) ?_
            refine Go.Sl.kw_val rfl rfl (Go.Sl.v_move rfl) ?_
            refine Go.Sl.kw_val rfl rfl (Go.Sl.v_len rfl Try.underlying31 rfl) ?_
            refine Go.Sl.kw_val rfl rfl (Go.Sl.v_lss rfl rfl) ?_
            refine Go.Sl.kw_val rfl rfl (Go.Sl.v_move rfl) ?_
            refine Go.Sl.kw_dec 68 rfl (fun hc68 => ?_) (fun hc68 => ?_)
            refine Go.Sl.kw_val rfl rfl (Go.Sl.v_move rfl) ?_
            refine Go.Sl.kw_val rfl rfl (Go.Sl.v_move rfl) ?_
            refine Go.Sl.kw_val rfl rfl (Go.Sl.v_indexAddr_ls Try.underlying31 (eTy) rfl rfl (by assumption) rfl (by omega)) ?_
            refine Go.Sl.kw_val rfl rfl (Go.Sl.v_fieldAddr Ty.fd30_0 rfl) ?_
            refine Go.Sl.kw_val rfl rfl (Go.Sl.v_load rfl (Go.Sl.Vw.fld1 (eTy) Ty.sc27 (Go.Sl.Ls.vw (by assumption) (by repeat (first | exact Go.Sl.Sub.here | assumption | refine Go.Sl.Sub.there ?_))) (by omega) rfl)) ?_
            refine Go.Sl.kw_val rfl rfl (Go.Sl.v_fieldAddr0 Ty.fd30_0 rfl) ?_
            refine Go.Sl.kw_val rfl rfl (Go.Sl.v_load rfl (Go.Sl.Var.at1 Ty.sc27 (.there (.there .here)) (Go.Sl.GetN.lit rfl))) ?_
            refine Go.Sl.kw_val rfl rfl (Go.Sl.v_lss rfl rfl) ?_
            refine Go.Sl.kw_val rfl rfl (Go.Sl.v_pick_true rfl rfl) ?_
            refine Go.Sl.kw_nil ?_
            refine Go.Sl.xw_then ?_
            refine Go.Sl.cw_dec rfl (fun hc77 => ?_) (fun hc77 => ?_)
            refine Go.Sl.cw_skip ?_
            refine Go.Sl.xw_then ?_
            refine Go.Sl.cw_block ?_
            refine Go.Sl.cw_region ?_
            refine Go.Sl.ow_val rfl rfl (Go.Sl.v_move rfl) ?_
            refine Go.Sl.ow_val rfl rfl (Go.Sl.v_add rfl rfl (Go.Sl.nw_i64 (by omega) (by omega))) ?_
            refine Go.Sl.ow_val rfl rfl (Go.Sl.v_assign rfl) ?_
            refine Go.Sl.ow_nil ?_
            refine Go.Sl.xw_block ?_
            rotate_left
            refine Go.Sl.cw_exit ?_
            refine Go.Sl.xw_then_exit ?_
            refine Go.Sl.xw_round_exit ?_
            refine Go.Sl.xw_block_exit ?_
            rotate_left
            refine Go.Sl.kw_skip rfl rfl ?_
            refine Go.Sl.kw_skip rfl rfl ?_
            refine Go.Sl.kw_skip rfl rfl ?_
            refine Go.Sl.kw_skip rfl rfl ?_
            refine Go.Sl.kw_skip rfl rfl ?_
            refine Go.Sl.kw_skip rfl rfl ?_
            refine Go.Sl.kw_skip rfl rfl ?_
            refine Go.Sl.kw_skip rfl rfl ?_
            refine Go.Sl.kw_val rfl rfl (Go.Sl.v_pick_false rfl rfl) ?_
            refine Go.Sl.kw_nil ?_
            refine Go.Sl.xw_then ?_
            refine Go.Sl.cw_false rfl ?_
            refine Go.Sl.cw_exit ?_
            refine Go.Sl.xw_then_exit ?_
            refine Go.Sl.xw_round_exit ?_
            refine Go.Sl.xw_block_exit ?_
            rotate_left
            · exact xw_round (i + 1) ⟨by omega, fun j h hj => by
                by_cases hji : j = i
                · subst hji; exact hc77
                · exact hlt j h (by omega)⟩ (by omega) (by first | exact Go.Sl.Cov.refl _ | (intro p; simp only [List.flatten_cons, List.flatten_nil, List.flatten_append, List.append_nil, List.nil_append, Go.Sl.cnt_append, Go.Sl.cnt_cons, Go.Sl.cnt_nil, List.set_cons_zero, List.set_cons_succ, List.length_nil, List.length_cons, Nat.zero_add, List.append]; omega)) (by repeat (first | exact True.intro | refine And.intro rfl ?_))
            · exact xw_joint ((i, ()) : Nat × Unit) ⟨hi, insE_at hi hlt (fun _ => hc77)⟩ (by first | exact Go.Sl.Cov.refl _ | (intro p; simp only [List.flatten_cons, List.flatten_nil, List.flatten_append, List.append_nil, List.nil_append, Go.Sl.cnt_append, Go.Sl.cnt_cons, Go.Sl.cnt_nil, List.set_cons_zero, List.set_cons_succ, List.length_nil, List.length_cons, Nat.zero_add, List.append]; omega)) (by repeat (first | exact True.intro | refine And.intro rfl ?_))
            · exact xw_joint ((i, ()) : Nat × Unit) ⟨hi, insE_at hi hlt (fun h => absurd h (by omega))⟩ (by first | exact Go.Sl.Cov.refl _ | (intro p; simp only [List.flatten_cons, List.flatten_nil, List.flatten_append, List.append_nil, List.nil_append, Go.Sl.cnt_append, Go.Sl.cnt_cons, Go.Sl.cnt_nil, List.set_cons_zero, List.set_cons_succ, List.length_nil, List.length_cons, Nat.zero_add, List.append]; omega)) (by repeat (first | exact True.intro | refine And.intro rfl ?_))
          · rintro ⟨i, _⟩ ⟨hi, hins⟩
            dsimp only at hi hins ⊢
            refine Go.Sl.cw_region ?_
            refine Go.Sl.ow_val rfl rfl (Go.Sl.v_move rfl) ?_
            refine Go.Sl.ow_val rfl rfl (Go.Sl.v_move rfl) ?_
            refine Go.Sl.ow_val rfl rfl (Go.Sl.v_load rfl (Go.Sl.Var.atN Ty.ag30 (.there (.there .here)) Go.Sl.GetN.all (by first | rfl | assumption))) ?_
            (refine Go.Sl.ow_buildL (es := [(e)]) rfl rfl Try.underlying31 Ty.em31 (eTy) rfl rfl (by simp [*]) (by simp only [List.length_cons, List.length_nil]; decide) ?_; intro ao83 c83 hL83)
            (refine Go.Sl.ow_call rfl rfl rfl rfl (insertE_c (i := i) (l2 := [e]) rfl (by repeat (first | exact Go.Sl.Sel.here | apply Go.Sl.Sel.there)) hLk (by assumption) (by first | exact Go.Sl.Cov.refl _ | (intro p; simp only [List.flatten_cons, List.flatten_nil, List.flatten_append, List.append_nil, List.nil_append, Go.Sl.cnt_append, Go.Sl.cnt_cons, Go.Sl.cnt_nil, List.set_cons_zero, List.set_cons_succ, List.length_nil, List.length_cons, Nat.zero_add, List.append]; omega)) (by simp) (by omega) (by simp; omega)) ?_; rintro _ _ ⟨x84, rfl, hq84, rfl⟩)
            refine Go.Sl.ow_val rfl rfl (Go.Sl.v_assign rfl) ?_
            refine Go.Sl.ow_nil ?_
            refine Go.Sl.xw_block ?_
            rw [← hins] at hq84 ⊢
            exact xw_joint (⟨0, insE e kept, ret, x84.1, x84.2.1, x84.2.2, aoR, capR, crR⟩ : AddIx) ⟨hkF.symm, hrF.symm, by dsimp only; rw [hins]; simp; omega, by dsimp only; omega, hq84, hLrr⟩ (by first | exact Go.Sl.Cov.refl _ | (intro p; simp only [List.flatten_cons, List.flatten_nil, List.flatten_append, List.append_nil, List.nil_append, Go.Sl.cnt_append, Go.Sl.cnt_cons, Go.Sl.cnt_nil, List.set_cons_zero, List.set_cons_succ, List.length_nil, List.length_cons, Nat.zero_add, List.append]; omega)) (by repeat (first | exact True.intro | refine And.intro rfl ?_))
      · rintro ⟨_, kept2, ret2, aoK2, capK2, ck2, aoR2, capR2, crR2⟩ ⟨hk2, hr2, hkl2, hrl2, hLk2, hLr2⟩
        dsimp only at hk2 hr2 hkl2 hrl2 hLk2 hLr2 ⊢
        have hbd2 := idxF_bd (p := fun x : Entry => decide (x.seq = m.now)) (l := kept2)
        have hk3 : keptF e (max m.prior prior) (keep0 prior m.l) = kept2 := by rw [hk2, hkept]
        have hr3 : retF e (max m.prior prior) (keep0 prior m.l) (ret0 prior m.l m.retired) = ret2 := by rw [hr2, hkept, hret]
        have hadd : m.add e prior = if m.most < (kept2.length : Int) ∨ 8 < (ret2.length : Int) then (m, 7) else (⟨m.most, kept2, nowF m.now kept2, max m.prior prior, ret2⟩, 0) := by
          rw [OtherM.add, if_neg (fun h => h.elim hc20 hc26), if_neg (by rw [hc29]; decide), hk3, hr3]
        refine Go.Sl.cw_seq ?_
        refine Go.Sl.cw_seq ?_
        refine Go.Sl.cw_region ?_
        refine Go.Sl.ow_val rfl rfl (Go.Sl.v_move rfl) ?_
        refine Go.Sl.ow_val rfl rfl (Go.Sl.v_len rfl Try.underlying31 rfl) ?_
        refine Go.Sl.ow_val rfl rfl (Go.Sl.v_move rfl) ?_
        refine Go.Sl.ow_val rfl rfl (Go.Sl.v_nilCheck rfl) ?_
        refine Go.Sl.ow_val rfl rfl (Go.Sl.v_fieldAddr0 Ty.fd60_0 rfl) ?_
        refine Go.Sl.ow_val rfl rfl (Go.Sl.v_load rfl (Go.Sl.Var.at1 Ty.sc3 (.there (.there .here)) (Go.Sl.GetN.lit rfl))) ?_
        refine Go.Sl.ow_val rfl rfl (Go.Sl.v_gtr rfl rfl) ?_
        refine Go.Sl.ow_val rfl rfl (Go.Sl.v_move rfl) ?_
        refine Go.Sl.ow_dec 107 rfl (fun hc107 => ?_) (fun hc107 => ?_)
        refine Go.Sl.ow_skip rfl rfl ?_
        refine Go.Sl.ow_skip rfl rfl ?_
        refine Go.Sl.ow_skip rfl rfl ?_
        refine Go.Sl.ow_val rfl rfl (Go.Sl.v_pick_true rfl rfl) ?_
        refine Go.Sl.ow_nil ?_
        refine Go.Sl.xw_then ?_
        refine Go.Sl.cw_true rfl ?_
        refine Go.Sl.cw_seq ?_
        refine Go.Sl.cw_region ?_
        refine Go.Sl.ow_val rfl rfl (Go.Sl.v_assign rfl) ?_
        refine Go.Sl.ow_nil ?_
        refine Go.Sl.xw_then ?_
        refine Go.Sl.cw_ret ?_
        refine Go.Sl.xw_then_ret ?_
        refine Go.Sl.ret1 rfl (Go.Sl.res_tmp rfl) ?_
        rotate_left
        refine Go.Sl.ow_val rfl rfl (Go.Sl.v_load rfl (Go.Sl.Var.get1 Ty.sc32 .here (.head _) (Go.Sl.GetN.lit rfl))) ?_
        refine Go.Sl.ow_val rfl rfl (Go.Sl.v_len rfl Try.underlying32 rfl) ?_
        refine Go.Sl.ow_val rfl rfl (Go.Sl.v_gtr rfl rfl) ?_
        refine Go.Sl.ow_val rfl rfl (Go.Sl.v_pick_false rfl rfl) ?_
        refine Go.Sl.ow_nil ?_
        refine Go.Sl.xw_then ?_
        refine Go.Sl.cw_dec rfl (fun hc111 => ?_) (fun hc111 => ?_)
        refine Go.Sl.cw_seq ?_
        refine Go.Sl.cw_region ?_
        refine Go.Sl.ow_val rfl rfl (Go.Sl.v_assign rfl) ?_
        refine Go.Sl.ow_nil ?_
        refine Go.Sl.xw_then ?_
        refine Go.Sl.cw_ret ?_
        refine Go.Sl.xw_then_ret ?_
        refine Go.Sl.ret1 rfl (Go.Sl.res_tmp rfl) ?_
        rotate_left
        refine Go.Sl.cw_skip ?_
        refine Go.Sl.xw_then ?_
        refine Go.Sl.cw_seq ?_
        refine Go.Sl.cw_any Ty.mixed ?_
        refine Go.Sl.aw_pure 0 rfl (by decide +kernel) rfl rfl (Go.Sl.v_move rfl) rfl ?_
        refine Go.Sl.aw_pure 1 rfl (by decide +kernel) rfl rfl (Go.Sl.v_move rfl) rfl ?_
        refine Go.Sl.aw_pure 2 rfl (by decide +kernel) rfl rfl (Go.Sl.v_move rfl) rfl ?_
        refine Go.Sl.aw_pure 3 rfl (by decide +kernel) rfl rfl (Go.Sl.v_move rfl) rfl ?_
        refine Go.Sl.aw_pure 5 rfl (by decide +kernel) rfl rfl (Go.Sl.v_move rfl) rfl ?_
        refine Go.Sl.aw_pure 6 rfl (by decide +kernel) rfl rfl (Go.Sl.v_nilCheck rfl) rfl ?_
        refine Go.Sl.aw_pure 7 rfl (by decide +kernel) rfl rfl (Go.Sl.v_fieldAddr0 Ty.fd60_1 rfl) rfl ?_
        refine Go.Sl.aw_step2 4 8 (by decide +kernel) rfl rfl ?_ ?_
        refine Go.Sl.ow_val rfl rfl (Go.Sl.v_load rfl (Go.Sl.Var.get1 Ty.sc32 .here (.head _) (Go.Sl.GetN.lit rfl))) ?_
        refine Go.Sl.ow_nil ?_
        refine Go.Sl.xw_nx ?_
        refine Go.Sl.aw_step1 8 (by decide +kernel) rfl ?_
        refine Go.Sl.ow_store1 rfl rfl rfl rfl Ty.sc31 (.there (.there .here)) (Go.Sl.SetN.one (by first | decide | exact Nat.le_of_ble_eq_true rfl)) ?_
        refine Go.Sl.ow_nil ?_
        refine Go.Sl.xw_nx ?_
        refine Go.Sl.aw_pure 9 rfl (by decide +kernel) rfl rfl (Go.Sl.v_nilCheck rfl) rfl ?_
        refine Go.Sl.aw_pure 10 rfl (by decide +kernel) rfl rfl (Go.Sl.v_fieldAddr0 Ty.fd60_4 rfl) rfl ?_
        refine Go.Sl.aw_step1 11 (by decide +kernel) rfl ?_
        refine Go.Sl.ow_store1 rfl rfl rfl rfl Ty.sc32 (.there (.there .here)) (Go.Sl.SetN.one (by first | decide | exact Nat.le_of_ble_eq_true rfl)) ?_
        refine Go.Sl.ow_nil ?_
        refine Go.Sl.xw_nx ?_
        refine Go.Sl.aw_pure 12 rfl (by decide +kernel) rfl rfl (Go.Sl.v_nilCheck rfl) rfl ?_
        refine Go.Sl.aw_pure 13 rfl (by decide +kernel) rfl rfl (Go.Sl.v_fieldAddr0 Ty.fd60_3 rfl) rfl ?_
        refine Go.Sl.aw_step1 14 (by decide +kernel) rfl ?_
        refine Go.Sl.ow_store1 rfl rfl rfl rfl Ty.sc27 (.there (.there .here)) (Go.Sl.SetN.one (by first | decide | exact Nat.le_of_ble_eq_true rfl)) ?_
        refine Go.Sl.ow_nil ?_
        refine Go.Sl.xw_nx ?_
        refine Go.Sl.aw_end (by decide +kernel) ?_
        refine Go.Sl.xw_np ?_
        refine Go.Sl.xw_then ?_
        refine Go.Sl.cw_seq ?_
        refine Go.Sl.cw_seq ?_
        refine Go.Sl.cw_quiet Ty.mixed (by decide +kernel) ?_
        refine Go.Sl.kw_val rfl rfl (Go.Sl.v_move rfl) ?_
        refine Go.Sl.kw_val rfl rfl (Go.Sl.v_nilCheck rfl) ?_
        refine Go.Sl.kw_val rfl rfl (Go.Sl.v_fieldAddr0 Ty.fd60_1 rfl) ?_
        refine Go.Sl.kw_val rfl rfl (Go.Sl.v_load rfl (Go.Sl.Var.at1 Ty.sc31 (.there (.there .here)) (Go.Sl.GetN.lit rfl))) ?_
        refine Go.Sl.kw_val rfl rfl (Go.Sl.v_move rfl) ?_
        refine Go.Sl.kw_val rfl rfl (Go.Sl.v_nilCheck rfl) ?_
        refine Go.Sl.kw_val rfl rfl (Go.Sl.v_fieldAddr0 Ty.fd60_2 rfl) ?_
        refine Go.Sl.kw_val rfl rfl (Go.Sl.v_load rfl (Go.Sl.Var.at1 Ty.sc27 (.there (.there .here)) (Go.Sl.GetN.lit rfl))) ?_
        refine Go.Sl.kw_val rfl rfl (Go.Sl.v_call rfl rfl (place_c (hLk2.vw (by repeat (first | exact Go.Sl.Sub.here | assumption | refine Go.Sl.Sub.there ?_))) (by omega))) ?_
        refine Go.Sl.kw_val rfl rfl (Go.Sl.v_lss rfl rfl) ?_
        refine Go.Sl.kw_val rfl rfl (Go.Sl.v_move rfl) ?_
        refine Go.Sl.kw_dec 134 rfl (fun hc134 => ?_) (fun hc134 => ?_)
        refine Go.Sl.kw_val rfl rfl (Go.Sl.v_move rfl) ?_
        refine Go.Sl.kw_val rfl rfl (Go.Sl.v_nilCheck rfl) ?_
        refine Go.Sl.kw_val rfl rfl (Go.Sl.v_fieldAddr0 Ty.fd60_1 rfl) ?_
        refine Go.Sl.kw_val rfl rfl (Go.Sl.v_load rfl (Go.Sl.Var.at1 Ty.sc31 (.there (.there .here)) (Go.Sl.GetN.lit rfl))) ?_
        refine Go.Sl.kw_val rfl rfl (Go.Sl.v_len rfl Try.underlying31 rfl) ?_
        refine Go.Sl.kw_val rfl rfl (Go.Sl.v_gtr rfl rfl) ?_
        refine Go.Sl.kw_val rfl rfl (Go.Sl.v_pick_true rfl rfl) ?_
        refine Go.Sl.kw_nil ?_
        refine Go.Sl.xw_then ?_
        refine Go.Sl.cw_dec rfl (fun hc141 => ?_) (fun hc141 => ?_)
        refine Go.Sl.cw_region ?_
        refine Go.Sl.ow_val rfl rfl (Go.Sl.v_move rfl) ?_
        refine Go.Sl.ow_val rfl rfl (Go.Sl.v_move rfl) ?_
        refine Go.Sl.ow_val rfl rfl (Go.Sl.v_nilCheck rfl) ?_
        refine Go.Sl.ow_val rfl rfl (Go.Sl.v_fieldAddr0 Ty.fd60_1 rfl) ?_
        refine Go.Sl.ow_val rfl rfl (Go.Sl.v_load rfl (Go.Sl.Var.at1 Ty.sc31 (.there (.there .here)) (Go.Sl.GetN.lit rfl))) ?_
        refine Go.Sl.ow_val rfl rfl (Go.Sl.v_indexAddr_ls (i := 0) Try.underlying31 (eTy) rfl rfl (by assumption) rfl (by omega)) ?_
        refine Go.Sl.ow_val rfl rfl (Go.Sl.v_fieldAddr Ty.fd30_0 rfl) ?_
        refine Go.Sl.ow_val rfl rfl (Go.Sl.v_load rfl (Go.Sl.Vw.fld1 (eTy) Ty.sc27 (Go.Sl.Ls.vw (by assumption) (by repeat (first | exact Go.Sl.Sub.here | assumption | refine Go.Sl.Sub.there ?_))) (by omega) rfl)) ?_
        refine Go.Sl.ow_val rfl rfl (Go.Sl.v_nilCheck rfl) ?_
        refine Go.Sl.ow_val rfl rfl (Go.Sl.v_fieldAddr0 Ty.fd60_2 rfl) ?_
        refine Go.Sl.ow_store1 rfl rfl rfl rfl Ty.sc27 (.there (.there .here)) (Go.Sl.SetN.one (by first | decide | exact Nat.le_of_ble_eq_true rfl)) ?_
        refine Go.Sl.ow_nil ?_
        refine Go.Sl.xw_then ?_
        refine Go.Sl.cw_seq ?_
        refine Go.Sl.cw_region ?_
        refine Go.Sl.ow_val rfl rfl (Go.Sl.v_assign rfl) ?_
        refine Go.Sl.ow_nil ?_
        refine Go.Sl.xw_then ?_
        refine Go.Sl.cw_ret ?_
        refine Go.Sl.ret1 rfl (Go.Sl.res_tmp rfl) ?_
        rotate_left
        refine Go.Sl.cw_skip ?_
        refine Go.Sl.xw_then ?_
        refine Go.Sl.cw_seq ?_
        refine Go.Sl.cw_region ?_
        refine Go.Sl.ow_val rfl rfl (Go.Sl.v_assign rfl) ?_
        refine Go.Sl.ow_nil ?_
        refine Go.Sl.xw_then ?_
        refine Go.Sl.cw_ret ?_
        refine Go.Sl.ret1 rfl (Go.Sl.res_tmp rfl) ?_
        rotate_left
        refine Go.Sl.kw_skip rfl rfl ?_
        refine Go.Sl.kw_skip rfl rfl ?_
        refine Go.Sl.kw_skip rfl rfl ?_
        refine Go.Sl.kw_skip rfl rfl ?_
        refine Go.Sl.kw_skip rfl rfl ?_
        refine Go.Sl.kw_skip rfl rfl ?_
        refine Go.Sl.kw_val rfl rfl (Go.Sl.v_pick_false rfl rfl) ?_
        refine Go.Sl.kw_nil ?_
        refine Go.Sl.xw_then ?_
        refine Go.Sl.cw_false rfl ?_
        refine Go.Sl.cw_skip ?_
        refine Go.Sl.xw_then ?_
        refine Go.Sl.cw_seq ?_
        refine Go.Sl.cw_region ?_
        refine Go.Sl.ow_val rfl rfl (Go.Sl.v_assign rfl) ?_
        refine Go.Sl.ow_nil ?_
        refine Go.Sl.xw_then ?_
        refine Go.Sl.cw_ret ?_
        refine Go.Sl.ret1 rfl (Go.Sl.res_tmp rfl) ?_
        rotate_left
        refine Go.Sl.ow_store1 rfl rfl rfl rfl Ty.sc31 (.there (.there .here)) (Go.Sl.SetN.one (by first | decide | exact Nat.le_of_ble_eq_true rfl)) ?_
        refine Go.Sl.ow_nil ?_
        refine Go.Sl.xw_nx ?_
        refine Go.Sl.aw_step1 4 (by decide +kernel) rfl ?_
        refine Go.Sl.ow_val rfl rfl (Go.Sl.v_load rfl (Go.Sl.Var.get1 Ty.sc32 .here (.head _) (Go.Sl.GetN.lit rfl))) ?_
        refine Go.Sl.ow_nil ?_
        refine Go.Sl.xw_nx ?_
        refine Go.Sl.aw_pure 9 rfl (by decide +kernel) rfl rfl (Go.Sl.v_nilCheck rfl) rfl ?_
        refine Go.Sl.aw_pure 10 rfl (by decide +kernel) rfl rfl (Go.Sl.v_fieldAddr0 Ty.fd60_4 rfl) rfl ?_
        refine Go.Sl.aw_step1 11 (by decide +kernel) rfl ?_
        refine Go.Sl.ow_store1 rfl rfl rfl rfl Ty.sc32 (.there (.there .here)) (Go.Sl.SetN.one (by first | decide | exact Nat.le_of_ble_eq_true rfl)) ?_
        refine Go.Sl.ow_nil ?_
        refine Go.Sl.xw_nx ?_
        refine Go.Sl.aw_pure 12 rfl (by decide +kernel) rfl rfl (Go.Sl.v_nilCheck rfl) rfl ?_
        refine Go.Sl.aw_pure 13 rfl (by decide +kernel) rfl rfl (Go.Sl.v_fieldAddr0 Ty.fd60_3 rfl) rfl ?_
        refine Go.Sl.aw_step1 14 (by decide +kernel) rfl ?_
        refine Go.Sl.ow_store1 rfl rfl rfl rfl Ty.sc27 (.there (.there .here)) (Go.Sl.SetN.one (by first | decide | exact Nat.le_of_ble_eq_true rfl)) ?_
        refine Go.Sl.ow_nil ?_
        refine Go.Sl.xw_nx ?_
        refine Go.Sl.aw_end (by decide +kernel) ?_
        refine Go.Sl.xw_np ?_
        refine Go.Sl.xw_then ?_
        refine Go.Sl.cw_seq ?_
        refine Go.Sl.cw_seq ?_
        refine Go.Sl.cw_quiet Ty.mixed (by decide +kernel) ?_
        refine Go.Sl.kw_val rfl rfl (Go.Sl.v_move rfl) ?_
        refine Go.Sl.kw_val rfl rfl (Go.Sl.v_nilCheck rfl) ?_
        refine Go.Sl.kw_val rfl rfl (Go.Sl.v_fieldAddr0 Ty.fd60_1 rfl) ?_
        refine Go.Sl.kw_val rfl rfl (Go.Sl.v_load rfl (Go.Sl.Var.at1 Ty.sc31 (.there (.there .here)) (Go.Sl.GetN.lit rfl))) ?_
        refine Go.Sl.kw_val rfl rfl (Go.Sl.v_move rfl) ?_
        refine Go.Sl.kw_val rfl rfl (Go.Sl.v_nilCheck rfl) ?_
        refine Go.Sl.kw_val rfl rfl (Go.Sl.v_fieldAddr0 Ty.fd60_2 rfl) ?_
        refine Go.Sl.kw_val rfl rfl (Go.Sl.v_load rfl (Go.Sl.Var.at1 Ty.sc27 (.there (.there .here)) (Go.Sl.GetN.lit rfl))) ?_
        refine Go.Sl.kw_val rfl rfl (Go.Sl.v_call rfl rfl (place_c (hLk2.vw (by repeat (first | exact Go.Sl.Sub.here | assumption | refine Go.Sl.Sub.there ?_))) (by omega))) ?_
        refine Go.Sl.kw_val rfl rfl (Go.Sl.v_lss rfl rfl) ?_
        refine Go.Sl.kw_val rfl rfl (Go.Sl.v_move rfl) ?_
        refine Go.Sl.kw_dec 134 rfl (fun hc134 => ?_) (fun hc134 => ?_)
        refine Go.Sl.kw_val rfl rfl (Go.Sl.v_move rfl) ?_
        refine Go.Sl.kw_val rfl rfl (Go.Sl.v_nilCheck rfl) ?_
        refine Go.Sl.kw_val rfl rfl (Go.Sl.v_fieldAddr0 Ty.fd60_1 rfl) ?_
        refine Go.Sl.kw_val rfl rfl (Go.Sl.v_load rfl (Go.Sl.Var.at1 Ty.sc31 (.there (.there .here)) (Go.Sl.GetN.lit rfl))) ?_
        refine Go.Sl.kw_val rfl rfl (Go.Sl.v_len rfl Try.underlying31 rfl) ?_
        refine Go.Sl.kw_val rfl rfl (Go.Sl.v_gtr rfl rfl) ?_
        refine Go.Sl.kw_val rfl rfl (Go.Sl.v_pick_true rfl rfl) ?_
        refine Go.Sl.kw_nil ?_
        refine Go.Sl.xw_then ?_
        refine Go.Sl.cw_dec rfl (fun hc141 => ?_) (fun hc141 => ?_)
        refine Go.Sl.cw_region ?_
        refine Go.Sl.ow_val rfl rfl (Go.Sl.v_move rfl) ?_
        refine Go.Sl.ow_val rfl rfl (Go.Sl.v_move rfl) ?_
        refine Go.Sl.ow_val rfl rfl (Go.Sl.v_nilCheck rfl) ?_
        refine Go.Sl.ow_val rfl rfl (Go.Sl.v_fieldAddr0 Ty.fd60_1 rfl) ?_
        refine Go.Sl.ow_val rfl rfl (Go.Sl.v_load rfl (Go.Sl.Var.at1 Ty.sc31 (.there (.there .here)) (Go.Sl.GetN.lit rfl))) ?_
        refine Go.Sl.ow_val rfl rfl (Go.Sl.v_indexAddr_ls (i := 0) Try.underlying31 (eTy) rfl rfl (by assumption) rfl (by omega)) ?_
        refine Go.Sl.ow_val rfl rfl (Go.Sl.v_fieldAddr Ty.fd30_0 rfl) ?_
        refine Go.Sl.ow_val rfl rfl (Go.Sl.v_load rfl (Go.Sl.Vw.fld1 (eTy) Ty.sc27 (Go.Sl.Ls.vw (by assumption) (by repeat (first | exact Go.Sl.Sub.here | assumption | refine Go.Sl.Sub.there ?_))) (by omega) rfl)) ?_
        refine Go.Sl.ow_val rfl rfl (Go.Sl.v_nilCheck rfl) ?_
        refine Go.Sl.ow_val rfl rfl (Go.Sl.v_fieldAddr0 Ty.fd60_2 rfl) ?_
        refine Go.Sl.ow_store1 rfl rfl rfl rfl Ty.sc27 (.there (.there .here)) (Go.Sl.SetN.one (by first | decide | exact Nat.le_of_ble_eq_true rfl)) ?_
        refine Go.Sl.ow_nil ?_
        refine Go.Sl.xw_then ?_
        refine Go.Sl.cw_seq ?_
        refine Go.Sl.cw_region ?_
        refine Go.Sl.ow_val rfl rfl (Go.Sl.v_assign rfl) ?_
        refine Go.Sl.ow_nil ?_
        refine Go.Sl.xw_then ?_
        refine Go.Sl.cw_ret ?_
        refine Go.Sl.ret1 rfl (Go.Sl.res_tmp rfl) ?_
        rotate_left
        refine Go.Sl.cw_skip ?_
        refine Go.Sl.xw_then ?_
        refine Go.Sl.cw_seq ?_
        refine Go.Sl.cw_region ?_
        refine Go.Sl.ow_val rfl rfl (Go.Sl.v_assign rfl) ?_
        refine Go.Sl.ow_nil ?_
        refine Go.Sl.xw_then ?_
        refine Go.Sl.cw_ret ?_
        refine Go.Sl.ret1 rfl (Go.Sl.res_tmp rfl) ?_
        rotate_left
        refine Go.Sl.kw_skip rfl rfl ?_
        refine Go.Sl.kw_skip rfl rfl ?_
        refine Go.Sl.kw_skip rfl rfl ?_
        refine Go.Sl.kw_skip rfl rfl ?_
        refine Go.Sl.kw_skip rfl rfl ?_
        refine Go.Sl.kw_skip rfl rfl ?_
        refine Go.Sl.kw_val rfl rfl (Go.Sl.v_pick_false rfl rfl) ?_
        refine Go.Sl.kw_nil ?_
        refine Go.Sl.xw_then ?_
        refine Go.Sl.cw_false rfl ?_
        refine Go.Sl.cw_skip ?_
        refine Go.Sl.xw_then ?_
        refine Go.Sl.cw_seq ?_
        refine Go.Sl.cw_region ?_
        refine Go.Sl.ow_val rfl rfl (Go.Sl.v_assign rfl) ?_
        refine Go.Sl.ow_nil ?_
        refine Go.Sl.xw_then ?_
        refine Go.Sl.cw_ret ?_
        refine Go.Sl.ret1 rfl (Go.Sl.res_tmp rfl) ?_
        rotate_left
        · rw [show m.add e prior = (m, 7) from by rw [hadd, if_pos (.inl hc107)]]
          exact ⟨_, rfl, ⟨ao, cap, cl, ao2, cap2, cr, rfl, hL, hLr⟩, (by first | exact Go.Sl.Cov.refl _ | (intro p; simp only [List.flatten_cons, List.flatten_nil, List.flatten_append, List.append_nil, List.nil_append, Go.Sl.cnt_append, Go.Sl.cnt_cons, Go.Sl.cnt_nil, List.set_cons_zero, List.set_cons_succ, List.length_nil, List.length_cons, Nat.zero_add, List.append]; omega))⟩
        · rw [show m.add e prior = (m, 7) from by rw [hadd, if_pos (.inr hc111)]]
          exact ⟨_, rfl, ⟨ao, cap, cl, ao2, cap2, cr, rfl, hL, hLr⟩, (by first | exact Go.Sl.Cov.refl _ | (intro p; simp only [List.flatten_cons, List.flatten_nil, List.flatten_append, List.append_nil, List.nil_append, Go.Sl.cnt_append, Go.Sl.cnt_cons, Go.Sl.cnt_nil, List.set_cons_zero, List.set_cons_succ, List.length_nil, List.length_cons, Nat.zero_add, List.append]; omega))⟩
        all_goals first
          | (rw [show m.add e prior = (⟨m.most, kept2, kept2[0].seq, max m.prior prior, ret2⟩, 0) from by rw [hadd, if_neg (fun h => h.elim hc107 hc111), nowF, if_pos ⟨hc134, hc141⟩, getElem!_pos kept2 0 (by omega)]]
             exact ⟨_, rfl, ⟨aoK2, capK2, ck2, aoR2, capR2, crR2, rfl, hLk2, hLr2⟩, (by first | exact Go.Sl.Cov.refl _ | (intro p; simp only [List.flatten_cons, List.flatten_nil, List.flatten_append, List.append_nil, List.nil_append, Go.Sl.cnt_append, Go.Sl.cnt_cons, Go.Sl.cnt_nil, List.set_cons_zero, List.set_cons_succ, List.length_nil, List.length_cons, Nat.zero_add, List.append]; omega))⟩)
          | (rw [show m.add e prior = (⟨m.most, kept2, m.now, max m.prior prior, ret2⟩, 0) from by rw [hadd, if_neg (fun h => h.elim hc107 hc111), nowF, if_neg (fun h => hc141 h.2)]]
             exact ⟨_, rfl, ⟨aoK2, capK2, ck2, aoR2, capR2, crR2, rfl, hLk2, hLr2⟩, (by first | exact Go.Sl.Cov.refl _ | (intro p; simp only [List.flatten_cons, List.flatten_nil, List.flatten_append, List.append_nil, List.nil_append, Go.Sl.cnt_append, Go.Sl.cnt_cons, Go.Sl.cnt_nil, List.set_cons_zero, List.set_cons_succ, List.length_nil, List.length_cons, Nat.zero_add, List.append]; omega))⟩)
          | (rw [show m.add e prior = (⟨m.most, kept2, m.now, max m.prior prior, ret2⟩, 0) from by rw [hadd, if_neg (fun h => h.elim hc107 hc111), nowF, if_neg (fun h => hc134 h.1)]]
             exact ⟨_, rfl, ⟨aoK2, capK2, ck2, aoR2, capR2, crR2, rfl, hLk2, hLr2⟩, (by first | exact Go.Sl.Cov.refl _ | (intro p; simp only [List.flatten_cons, List.flatten_nil, List.flatten_append, List.append_nil, List.nil_append, Go.Sl.cnt_append, Go.Sl.cnt_cons, Go.Sl.cnt_nil, List.set_cons_zero, List.set_cons_succ, List.length_nil, List.length_cons, Nat.zero_add, List.append]; omega))⟩)
end Go.Proofs.Ytfilpenkihdjiaa
