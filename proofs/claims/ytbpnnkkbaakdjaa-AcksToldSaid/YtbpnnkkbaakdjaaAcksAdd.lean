/- What acks.Came.Add does, as a contract. Conditions: numbers fit their types, lists are short. -/
import Derived.Test.YtbpnnkkbaakdjaaAcks
namespace Go.Proofs.Ytbpnnkkbaakdjaa
open Go Go.Sl Go.Proofs
set_option maxRecDepth 20000
set_option linter.unusedVariables false
set_option linter.unusedSimpArgs false

def CameM.put (m : CameM) (n : Int) : CameM := { m with l := ((⟨32, m.l⟩ : SetM).addLast ⟨n, n + 1⟩).1.l, below := if 0 < ((⟨32, m.l⟩ : SetM).addLast ⟨n, n + 1⟩).2 then (firstR ((⟨32, m.l⟩ : SetM).addLast ⟨n, n + 1⟩).1.l 0).1.a else m.below }
def CameM.late (m : CameM) (n : Int) : Bool := m.some_ && decide (n < m.greatest)
def CameM.mark (m : CameM) (n now : Int) : CameM := if m.late n = true then m else { m with some_ := true, greatest := n, at_ := now }
def CameM.add (m : CameM) (n now : Int) (el : Bool) : CameM × Int :=
  if 4611686018427387903 < n then (m, 2) else if (decide (n < m.below) || hasR m.l n) = true then (m, 18)
  else (if el = true then ((m.put n).mark n now).want now ((m.put n).late n) else (m.put n).mark n now, 0)

set_option maxHeartbeats 4000000 in
theorem acksAdd_c {B : Nat} {w0 : World} {G : List Hp} {R : Hp → List Hp} {m : CameM} {b : Nat} {c : Hp} {n now : Int} {el : Bool} (hsel : Sel G c R) (hO : CameAt m b c) (hw : m.WF) (hn : 0 ≤ n ∧ n ≤ 18446744073709551615) (hnow : 0 ≤ now ∧ now ≤ 18446744073709551615) :
    Go.Sl.Fn Try.prog 50 #[.pointer (some ⟨b, 0, none⟩), .int .u64 n, .int .u64 now, .bool el] B w0 G fun u G' => ∃ c' : Hp, u = .int .i64 (m.add n now el).2 ∧ CameAt (m.add n now el).1 b c' ∧ G' = R c' := by
  refine Fn.sel0 hsel fun F hR hF => ?_
  have hO' := hO
  obtain ⟨bs, cs, rfl, hS⟩ := hO
  refine fn_enter Try.func50 rfl (by kernel_rfl) Try.ntmps50 (by simp) ?_
  refine cw_split ?_
  refine Go.Sl.cw_seq ?_
  refine Go.Sl.cw_region ?_
  refine Go.Sl.ow_val rfl rfl (Go.Sl.v_assign rfl) ?_
  refine Go.Sl.ow_nil ?_
  refine Go.Sl.xw_then ?_
  refine Go.Sl.cw_seq ?_
  refine Go.Sl.cw_seq ?_
  refine Go.Sl.cw_region ?_
  refine Go.Sl.ow_val rfl rfl (Go.Sl.v_move rfl) ?_
  refine Go.Sl.ow_val rfl rfl (Go.Sl.v_eql_nil_some Try.underlying79 rfl) ?_
  refine Go.Sl.ow_nil ?_
  refine Go.Sl.xw_then ?_
  refine Go.Sl.cw_false rfl ?_
  refine Go.Sl.cw_skip ?_
  refine Go.Sl.xw_then ?_
  refine Go.Sl.cw_seq ?_
  refine Go.Sl.cw_seq ?_
  refine Go.Sl.cw_region ?_
  refine Go.Sl.ow_val rfl rfl (Go.Sl.v_move rfl) ?_
  refine Go.Sl.ow_val rfl rfl (Go.Sl.v_gtr rfl rfl) ?_
  refine Go.Sl.ow_nil ?_
  refine Go.Sl.xw_then ?_
  refine Go.Sl.cw_dec rfl (fun hc15 => ?_) (fun hc15 => ?_)
  refine Go.Sl.cw_seq ?_
  refine Go.Sl.cw_region ?_
  refine Go.Sl.ow_val rfl rfl (Go.Sl.v_assign rfl) ?_
  refine Go.Sl.ow_nil ?_
  refine Go.Sl.xw_then ?_
  refine Go.Sl.cw_ret ?_
  refine Go.Sl.xw_then_ret ?_
  refine Go.Sl.ret1 rfl (Go.Sl.res_tmp rfl) ?_
  rotate_left
  refine Go.Sl.cw_skip ?_
  refine Go.Sl.xw_then ?_
  refine Go.Sl.cw_seq ?_
  refine Go.Sl.cw_seq ?_
  refine Go.Sl.cw_region ?_
  refine Go.Sl.ow_val rfl rfl (Go.Sl.v_move rfl) ?_
  refine Go.Sl.ow_val rfl rfl (Go.Sl.v_move rfl) ?_
  refine Go.Sl.ow_val rfl rfl (Go.Sl.v_call rfl rfl (acksHad_c hO' (Sub.app (by repeat (first | exact Go.Sl.Sub.here | assumption | refine Go.Sl.Sub.there ?_)) (by repeat (first | exact Go.Sl.Sub.here | assumption | refine Go.Sl.Sub.there ?_))) hw)) ?_
  refine Go.Sl.ow_nil ?_
  refine Go.Sl.xw_then ?_
  refine Go.Sl.cw_bool rfl (fun hc18 => ?_) (fun hc18 => ?_)
  refine Go.Sl.cw_seq ?_
  refine Go.Sl.cw_region ?_
  refine Go.Sl.ow_val rfl rfl (Go.Sl.v_assign rfl) ?_
  refine Go.Sl.ow_nil ?_
  refine Go.Sl.xw_then ?_
  refine Go.Sl.cw_ret ?_
  refine Go.Sl.xw_then_ret ?_
  refine Go.Sl.ret1 rfl (Go.Sl.res_tmp rfl) ?_
  rotate_left
  refine Go.Sl.cw_skip ?_
  refine Go.Sl.xw_then ?_
  refine Go.Sl.cw_seq ?_
  refine Go.Sl.cw_seq ?_
  refine Go.Sl.cw_region ?_
  refine Go.Sl.ow_val rfl rfl (Go.Sl.v_move rfl) ?_
  refine Go.Sl.ow_val rfl rfl (Go.Sl.v_nilCheck rfl) ?_
  refine Go.Sl.ow_val rfl rfl (Go.Sl.v_fieldAddr0 Ty.fd141_1 rfl) ?_
  refine Go.Sl.ow_val rfl rfl (Go.Sl.v_load rfl (Go.Sl.Var.at1 Ty.sc25 .here (Go.Sl.GetN.lit rfl))) ?_
  refine Go.Sl.ow_val rfl rfl (Go.Sl.v_eql_nil_some Try.underlying25 rfl) ?_
  refine Go.Sl.ow_nil ?_
  refine Go.Sl.xw_then ?_
  refine Go.Sl.cw_false rfl ?_
  refine Go.Sl.cw_skip ?_
  refine Go.Sl.xw_then ?_
  rotate_left
  · rw [show m.add n now el = (m, 2) from by rw [CameM.add, if_pos hc15]]
    exact ⟨_, rfl, ⟨bs, cs, rfl, hS⟩, (by first | exact Go.Sl.Cov.refl _ | (intro p; simp only [List.flatten_cons, List.flatten_nil, List.flatten_append, List.append_nil, List.nil_append, Go.Sl.cnt_append, Go.Sl.cnt_cons, Go.Sl.cnt_nil, List.set_cons_zero, List.set_cons_succ, List.length_nil, List.length_cons, Nat.zero_add, List.append]; omega))⟩
  · rw [show m.add n now el = (m, 18) from by rw [CameM.add, if_neg hc15, if_pos hc18]]
    exact ⟨_, rfl, ⟨bs, cs, rfl, hS⟩, (by first | exact Go.Sl.Cov.refl _ | (intro p; simp only [List.flatten_cons, List.flatten_nil, List.flatten_append, List.append_nil, List.nil_append, Go.Sl.cnt_append, Go.Sl.cnt_cons, Go.Sl.cnt_nil, List.set_cons_zero, List.set_cons_succ, List.length_nil, List.length_cons, Nat.zero_add, List.append]; omega))⟩
  have hrn : RgIn ⟨n, n + 1⟩ := ⟨hn, by dsimp only; omega⟩
  obtain ⟨g1, g2⟩ := SetM.addLast_good (m := ⟨32, m.l⟩) hw.good hrn
  have hln := hw.len
  have hw2 : (⟨32, ((⟨32, m.l⟩ : SetM).addLast ⟨n, n + 1⟩).1.l⟩ : SetM).WF := ⟨g1, by dsimp only at g2 ⊢; omega, by dsimp only; omega⟩
  have hli : ((⟨32, m.l⟩ : SetM).addLast ⟨n, n + 1⟩).1 = ⟨32, ((⟨32, m.l⟩ : SetM).addLast ⟨n, n + 1⟩).1.l⟩ := by unfold SetM.addLast; split <;> rfl
  have hadl : ∀ {G : List Hp} {R : Hp → List Hp}, Sel G cs R → Go.Sl.Fn Try.prog 27 #[.pointer (some ⟨bs, 0, none⟩), enR.val ⟨n, n + 1⟩] B w0 G fun u G' => ∃ c' : Hp, u = .int .i64 ((⟨32, m.l⟩ : SetM).addLast ⟨n, n + 1⟩).2 ∧ SetAt ⟨32, ((⟨32, m.l⟩ : SetM).addLast ⟨n, n + 1⟩).1.l⟩ bs c' ∧ G' = R c' := fun hs => by
    have h := setAddLast_c (B := B) (w0 := w0) hs hS hw.set hrn
    rw [hli] at h
    exact h
  have hfo : enR.ok (firstR ((⟨32, m.l⟩ : SetM).addLast ⟨n, n + 1⟩).1.l 0).1 := by
    unfold firstR
    split
    · rename_i h
      have h1 := g1.1 _ (List.getElem_mem h)
      exact ⟨by have := h1.1; have := h1.2.1; have := h1.2.2; dsimp only; omega, by have := h1.1; have := h1.2.1; have := h1.2.2; dsimp only; omega⟩
    · exact ok_z
  have hf2 := len2 _ hfo
  have hf3 := one2 _ hfo
  refine Go.Sl.cw_cut2 (ι := (Hp)) [(0, _), (1, _), (2, _), (3, _), (8, _)] ⟨rfl, rfl, rfl, rfl, rfl, trivial⟩ ((fun _ => [])) ((fun x => SetAt ⟨32, (m.put n).l⟩ bs x)) ((fun x => [(b, .cells [.int .u64 m.delay, .pointer (some ⟨bs, 0, none⟩), .int .u64 (m.put n).below, .bool m.some_, .int .u64 m.greatest, .int .u64 m.at_, .bool m.wanted, .int .u64 m.due].toArray 141 (0, 0))] :: x :: F)) ?_ ?_
  · refine Go.Sl.cw_seq ?_
    refine Go.Sl.cw_region ?_
    refine Go.Sl.ow_val rfl rfl (Go.Sl.v_move rfl) ?_
    refine Go.Sl.ow_val rfl rfl (Go.Sl.v_nilCheck rfl) ?_
    refine Go.Sl.ow_val rfl rfl (Go.Sl.v_fieldAddr0 Ty.fd141_1 rfl) ?_
    refine Go.Sl.ow_val rfl rfl (Go.Sl.v_load rfl (Go.Sl.Var.at1 Ty.sc25 .here (Go.Sl.GetN.lit rfl))) ?_
    refine Go.Sl.ow_val rfl rfl (Go.Sl.v_move rfl) ?_
    refine Go.Sl.ow_val rfl rfl (Go.Sl.v_move rfl) ?_
    refine Go.Sl.ow_val rfl rfl (Go.Sl.v_add rfl rfl (Go.Sl.nw_u64 (by omega) (by omega))) ?_
    refine Go.Sl.ow_val rfl rfl (Go.Sl.v_build rfl (b_rng)) ?_
    (refine Go.Sl.ow_call rfl rfl rfl rfl (hadl (by repeat (first | exact Go.Sl.Sel.here | apply Go.Sl.Sel.there))) ?_; rintro _ _ ⟨x36, rfl, hq36, rfl⟩)
    refine Go.Sl.ow_val rfl rfl (Go.Sl.v_gtr rfl rfl) ?_
    refine Go.Sl.ow_nil ?_
    refine Go.Sl.xw_then ?_
    refine Go.Sl.cw_dec rfl (fun hc37 => ?_) (fun hc37 => ?_)
    refine Go.Sl.cw_seq ?_
    refine Go.Sl.cw_region ?_
    refine Go.Sl.ow_val rfl rfl (Go.Sl.v_move rfl) ?_
    refine Go.Sl.ow_val rfl rfl (Go.Sl.v_nilCheck rfl) ?_
    refine Go.Sl.ow_val rfl rfl (Go.Sl.v_fieldAddr0 Ty.fd141_1 rfl) ?_
    refine Go.Sl.ow_val rfl rfl (Go.Sl.v_load rfl (Go.Sl.Var.at1 Ty.sc25 .here (Go.Sl.GetN.lit rfl))) ?_
    refine Go.Sl.ow_val rfl rfl (Go.Sl.v_call rfl rfl (setFirst_l hq36 (by repeat (first | exact Go.Sl.Sub.here | assumption | refine Go.Sl.Sub.there ?_)) hw2)) ?_
    refine Go.Sl.ow_val rfl rfl (Go.Sl.v_move rfl) ?_
    refine Go.Sl.ow_val rfl rfl (Go.Sl.v_extract rfl rfl) ?_
    refine Go.Sl.ow_val rfl rfl (Go.Sl.v_extract rfl rfl) ?_
    (refine Go.Sl.ow_alloc rfl rfl Ty.ze28 ?_; intro b9)
    refine Go.Sl.ow_storeN rfl rfl rfl Ty.ag28 (by first | rfl | assumption) (by first | assumption | simp) .here (Go.Sl.SetN.all (by first | rfl | assumption | simp_all)) ?_
    refine Go.Sl.ow_val rfl rfl (Go.Sl.v_assign rfl) ?_
    refine Go.Sl.ow_nil ?_
    refine Go.Sl.xw_then ?_
    refine Go.Sl.cw_region ?_
    refine Go.Sl.ow_val rfl rfl (Go.Sl.v_move rfl) ?_
    refine Go.Sl.ow_val rfl rfl (Go.Sl.v_fieldAddr0 Ty.fd28_0 rfl) ?_
    refine Go.Sl.ow_val rfl rfl (Go.Sl.v_load rfl (Go.Sl.Var.at1 Ty.sc23 .here (Go.Sl.GetN.lit rfl))) ?_
    refine Go.Sl.ow_val rfl rfl (Go.Sl.v_nilCheck rfl) ?_
    refine Go.Sl.ow_val rfl rfl (Go.Sl.v_fieldAddr0 Ty.fd141_2 rfl) ?_
    refine Go.Sl.ow_store1 rfl rfl rfl rfl Ty.sc23 (.there .here) (Go.Sl.SetN.one (by first | decide | exact Nat.le_of_ble_eq_true rfl)) ?_
    refine Go.Sl.ow_nil ?_
    rotate_left
    refine Go.Sl.cw_skip ?_
    rotate_left
    · have hb : (m.put n).below = (firstR ((⟨32, m.l⟩ : SetM).addLast ⟨n, n + 1⟩).1.l 0).1.a := if_pos hc37
      rw [hb]
      exact xw_joint x36 hq36 (by first | exact Go.Sl.Cov.refl _ | (intro p; simp only [List.flatten_cons, List.flatten_nil, List.flatten_append, List.append_nil, List.nil_append, Go.Sl.cnt_append, Go.Sl.cnt_cons, Go.Sl.cnt_nil, List.set_cons_zero, List.set_cons_succ, List.length_nil, List.length_cons, Nat.zero_add, List.append]; omega)) (by repeat (first | exact True.intro | refine And.intro rfl ?_))
    · have hb : (m.put n).below = m.below := if_neg hc37
      rw [hb]
      exact xw_joint x36 hq36 (by first | exact Go.Sl.Cov.refl _ | (intro p; simp only [List.flatten_cons, List.flatten_nil, List.flatten_append, List.append_nil, List.nil_append, Go.Sl.cnt_append, Go.Sl.cnt_cons, Go.Sl.cnt_nil, List.set_cons_zero, List.set_cons_succ, List.length_nil, List.length_cons, Nat.zero_add, List.append]; omega)) (by repeat (first | exact True.intro | refine And.intro rfl ?_))
  · rintro cs2 hS2
    refine Go.Sl.cw_cut2 (ι := (Unit)) [(0, _), (1, _), (2, _), (3, _), (8, _)] ⟨rfl, rfl, rfl, rfl, rfl, trivial⟩ ((fun _ => [(11, .bool ((m.put n).late n))])) ((fun _ => True)) ((fun x => [(b, .cells [.int .u64 m.delay, .pointer (some ⟨bs, 0, none⟩), .int .u64 (m.put n).below, .bool m.some_, .int .u64 m.greatest, .int .u64 m.at_, .bool m.wanted, .int .u64 m.due].toArray 141 (0, 0))] :: cs2 :: F)) ?_ ?_
    · refine Go.Sl.cw_region ?_
      refine Go.Sl.ow_val rfl rfl (Go.Sl.v_move rfl) ?_
      refine Go.Sl.ow_val rfl rfl (Go.Sl.v_nilCheck rfl) ?_
      refine Go.Sl.ow_val rfl rfl (Go.Sl.v_fieldAddr0 Ty.fd141_3 rfl) ?_
      refine Go.Sl.ow_val rfl rfl (Go.Sl.v_load rfl (Go.Sl.Var.at1 Ty.sc4 .here (Go.Sl.GetN.lit rfl))) ?_
      refine Go.Sl.ow_val rfl rfl (Go.Sl.v_move rfl) ?_
      refine Go.Sl.ow_bool 55 rfl (fun hc55 => ?_) (fun hc55 => ?_)
      refine Go.Sl.ow_val rfl rfl (Go.Sl.v_move rfl) ?_
      refine Go.Sl.ow_val rfl rfl (Go.Sl.v_move rfl) ?_
      refine Go.Sl.ow_val rfl rfl (Go.Sl.v_nilCheck rfl) ?_
      refine Go.Sl.ow_val rfl rfl (Go.Sl.v_fieldAddr0 Ty.fd141_4 rfl) ?_
      refine Go.Sl.ow_val rfl rfl (Go.Sl.v_load rfl (Go.Sl.Var.at1 Ty.sc23 .here (Go.Sl.GetN.lit rfl))) ?_
      refine Go.Sl.ow_val rfl rfl (Go.Sl.v_lss rfl rfl) ?_
      refine Go.Sl.ow_val rfl rfl (Go.Sl.v_pick_true rfl rfl) ?_
      refine Go.Sl.ow_val rfl rfl (Go.Sl.v_assign rfl) ?_
      refine Go.Sl.ow_nil ?_
      rotate_left
      refine Go.Sl.ow_skip rfl rfl ?_
      refine Go.Sl.ow_skip rfl rfl ?_
      refine Go.Sl.ow_skip rfl rfl ?_
      refine Go.Sl.ow_skip rfl rfl ?_
      refine Go.Sl.ow_skip rfl rfl ?_
      refine Go.Sl.ow_skip rfl rfl ?_
      refine Go.Sl.ow_val rfl rfl (Go.Sl.v_pick_false rfl rfl) ?_
      refine Go.Sl.ow_val rfl rfl (Go.Sl.v_assign rfl) ?_
      refine Go.Sl.ow_nil ?_
      rotate_left
      · have hlt : (m.put n).late n = decide (n < m.greatest) := by rw [CameM.late, show (m.put n).some_ = m.some_ from rfl, hc55]; rfl
        exact xw_joint () trivial (by first | exact Go.Sl.Cov.refl _ | (intro p; simp only [List.flatten_cons, List.flatten_nil, List.flatten_append, List.append_nil, List.nil_append, Go.Sl.cnt_append, Go.Sl.cnt_cons, Go.Sl.cnt_nil, List.set_cons_zero, List.set_cons_succ, List.length_nil, List.length_cons, Nat.zero_add, List.append]; omega)) ⟨by rw [hlt]; rfl, (by repeat (first | exact True.intro | refine And.intro rfl ?_))⟩
      · have hlt : (m.put n).late n = false := by rw [CameM.late, show (m.put n).some_ = m.some_ from rfl, hc55]; rfl
        exact xw_joint () trivial (by first | exact Go.Sl.Cov.refl _ | (intro p; simp only [List.flatten_cons, List.flatten_nil, List.flatten_append, List.append_nil, List.nil_append, Go.Sl.cnt_append, Go.Sl.cnt_cons, Go.Sl.cnt_nil, List.set_cons_zero, List.set_cons_succ, List.length_nil, List.length_cons, Nat.zero_add, List.append]; omega)) ⟨by rw [hlt]; rfl, (by repeat (first | exact True.intro | refine And.intro rfl ?_))⟩
    rintro _ _
    refine Go.Sl.cw_cut2 (ι := (Hp)) [(0, _), (2, _), (3, _), (8, _), (11, _)] ⟨rfl, rfl, rfl, rfl, rfl, trivial⟩ ((fun _ => [])) ((fun x => CameAt ((m.put n).mark n now) b x)) ((fun x => x :: F)) ?_ ?_
    · refine Go.Sl.cw_seq ?_
      refine Go.Sl.cw_region ?_
      refine Go.Sl.ow_val rfl rfl (Go.Sl.v_move rfl) ?_
      refine Go.Sl.ow_val rfl rfl (Go.Sl.v_not_bool rfl) ?_
      refine Go.Sl.ow_nil ?_
      refine Go.Sl.xw_then ?_
      refine Go.Sl.cw_bool rfl (fun hc64 => ?_) (fun hc64 => ?_)
      refine Go.Sl.cw_region ?_
      refine Go.Sl.ow_val rfl rfl (Go.Sl.v_move rfl) ?_
      refine Go.Sl.ow_val rfl rfl (Go.Sl.v_move rfl) ?_
      refine Go.Sl.ow_val rfl rfl (Go.Sl.v_move rfl) ?_
      refine Go.Sl.ow_val rfl rfl (Go.Sl.v_move rfl) ?_
      refine Go.Sl.ow_val rfl rfl (Go.Sl.v_move rfl) ?_
      refine Go.Sl.ow_val rfl rfl (Go.Sl.v_nilCheck rfl) ?_
      refine Go.Sl.ow_val rfl rfl (Go.Sl.v_fieldAddr0 Ty.fd141_3 rfl) ?_
      refine Go.Sl.ow_store1 rfl rfl rfl rfl Ty.sc4 .here (Go.Sl.SetN.one (by first | decide | exact Nat.le_of_ble_eq_true rfl)) ?_
      refine Go.Sl.ow_val rfl rfl (Go.Sl.v_nilCheck rfl) ?_
      refine Go.Sl.ow_val rfl rfl (Go.Sl.v_fieldAddr0 Ty.fd141_4 rfl) ?_
      refine Go.Sl.ow_store1 rfl rfl rfl rfl Ty.sc23 .here (Go.Sl.SetN.one (by first | decide | exact Nat.le_of_ble_eq_true rfl)) ?_
      refine Go.Sl.ow_val rfl rfl (Go.Sl.v_nilCheck rfl) ?_
      refine Go.Sl.ow_val rfl rfl (Go.Sl.v_fieldAddr0 Ty.fd141_5 rfl) ?_
      refine Go.Sl.ow_store1 rfl rfl rfl rfl Ty.sc23 .here (Go.Sl.SetN.one (by first | decide | exact Nat.le_of_ble_eq_true rfl)) ?_
      refine Go.Sl.ow_nil ?_
      rotate_left
      refine Go.Sl.cw_skip ?_
      rotate_left
      · have hmk : (m.put n).mark n now = { m.put n with some_ := true, greatest := n, at_ := now } := if_neg (by simpa using hc64)
        exact xw_joint ([(b, .cells [.int .u64 m.delay, .pointer (some ⟨bs, 0, none⟩), .int .u64 (m.put n).below, .bool true, .int .u64 n, .int .u64 now, .bool m.wanted, .int .u64 m.due].toArray 141 (0, 0))] ++ cs2) ⟨bs, cs2, by rw [hmk]; rfl, by rw [hmk]; exact hS2⟩ (by first | exact Go.Sl.Cov.refl _ | (intro p; simp only [List.flatten_cons, List.flatten_nil, List.flatten_append, List.append_nil, List.nil_append, Go.Sl.cnt_append, Go.Sl.cnt_cons, Go.Sl.cnt_nil, List.set_cons_zero, List.set_cons_succ, List.length_nil, List.length_cons, Nat.zero_add, List.append]; omega)) (by repeat (first | exact True.intro | refine And.intro rfl ?_))
      · have hmk : (m.put n).mark n now = m.put n := if_pos (by simpa using hc64)
        exact xw_joint ([(b, .cells [.int .u64 m.delay, .pointer (some ⟨bs, 0, none⟩), .int .u64 (m.put n).below, .bool m.some_, .int .u64 m.greatest, .int .u64 m.at_, .bool m.wanted, .int .u64 m.due].toArray 141 (0, 0))] ++ cs2) ⟨bs, cs2, by rw [hmk]; rfl, by rw [hmk]; exact hS2⟩ (by first | exact Go.Sl.Cov.refl _ | (intro p; simp only [List.flatten_cons, List.flatten_nil, List.flatten_append, List.append_nil, List.nil_append, Go.Sl.cnt_append, Go.Sl.cnt_cons, Go.Sl.cnt_nil, List.set_cons_zero, List.set_cons_succ, List.length_nil, List.length_cons, Nat.zero_add, List.append]; omega)) (by repeat (first | exact True.intro | refine And.intro rfl ?_))
    rintro cx hcx
    have hadd : m.add n now el = (if el = true then ((m.put n).mark n now).want now ((m.put n).late n) else (m.put n).mark n now, 0) := by rw [CameM.add, if_neg hc15, if_neg (by rw [hc18]; decide)]
    rw [hadd]
    cases el
    · refine Go.Sl.cw_seq ?_
      refine Go.Sl.cw_seq ?_
      refine Go.Sl.cw_region ?_
      refine Go.Sl.ow_val rfl rfl (Go.Sl.v_move rfl) ?_
      refine Go.Sl.ow_nil ?_
      refine Go.Sl.xw_then ?_
      refine Go.Sl.cw_false rfl ?_
      refine Go.Sl.cw_skip ?_
      refine Go.Sl.xw_then ?_
      refine Go.Sl.cw_seq ?_
      refine Go.Sl.cw_region ?_
      refine Go.Sl.ow_val rfl rfl (Go.Sl.v_assign rfl) ?_
      refine Go.Sl.ow_nil ?_
      refine Go.Sl.xw_then ?_
      refine Go.Sl.cw_ret ?_
      refine Go.Sl.ret1 rfl (Go.Sl.res_tmp rfl) ?_
      exact ⟨cx, rfl, hcx, (by first | exact Go.Sl.Cov.refl _ | (intro p; simp only [List.flatten_cons, List.flatten_nil, List.flatten_append, List.append_nil, List.nil_append, Go.Sl.cnt_append, Go.Sl.cnt_cons, Go.Sl.cnt_nil, List.set_cons_zero, List.set_cons_succ, List.length_nil, List.length_cons, Nat.zero_add, List.append]; omega))⟩
    · refine Go.Sl.cw_seq ?_
      refine Go.Sl.cw_seq ?_
      refine Go.Sl.cw_region ?_
      refine Go.Sl.ow_val rfl rfl (Go.Sl.v_move rfl) ?_
      refine Go.Sl.ow_nil ?_
      refine Go.Sl.xw_then ?_
      refine Go.Sl.cw_true rfl ?_
      refine Go.Sl.cw_region ?_
      refine Go.Sl.ow_val rfl rfl (Go.Sl.v_move rfl) ?_
      refine Go.Sl.ow_val rfl rfl (Go.Sl.v_move rfl) ?_
      refine Go.Sl.ow_val rfl rfl (Go.Sl.v_move rfl) ?_
      (refine Go.Sl.ow_call rfl rfl rfl rfl (acksWant_c (by repeat (first | exact Go.Sl.Sel.here | apply Go.Sl.Sel.there)) hcx hnow) ?_; rintro _ _ ⟨x80, rfl, hq80, rfl⟩)
      refine Go.Sl.ow_nil ?_
      refine Go.Sl.xw_then ?_
      refine Go.Sl.cw_seq ?_
      refine Go.Sl.cw_region ?_
      refine Go.Sl.ow_val rfl rfl (Go.Sl.v_assign rfl) ?_
      refine Go.Sl.ow_nil ?_
      refine Go.Sl.xw_then ?_
      refine Go.Sl.cw_ret ?_
      refine Go.Sl.ret1 rfl (Go.Sl.res_tmp rfl) ?_
      exact ⟨x80, rfl, hq80, (by first | exact Go.Sl.Cov.refl _ | (intro p; simp only [List.flatten_cons, List.flatten_nil, List.flatten_append, List.append_nil, List.nil_append, Go.Sl.cnt_append, Go.Sl.cnt_cons, Go.Sl.cnt_nil, List.set_cons_zero, List.set_cons_succ, List.length_nil, List.length_cons, Nat.zero_add, List.append]; omega))⟩
end Go.Proofs.Ytbpnnkkbaakdjaa
