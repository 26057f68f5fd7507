/- What the methods of ids.Own do, each as a contract. Conditions: numbers fit their types, lists are short. -/
import Derived.Test.YtfilpenkihdjiaaIds
namespace Go.Proofs.Ytfilpenkihdjiaa
open Go Go.Sl Go.Proofs
set_option linter.unusedVariables false
set_option linter.unusedSimpArgs false

instance : Inhabited Entry := ⟨⟨0, ⟨#[]⟩, []⟩⟩
def zero16 : List Int := [0, 0, 0, 0, 0, 0, 0, 0, 0, 0, 0, 0, 0, 0, 0, 0]
def noEntry : Entry := ⟨0, ⟨#[]⟩, zero16⟩
def firstE (s : ByteArray) : Entry := ⟨0, s, zero16⟩
theorem b_entry0 : Build Try.prog 30 #[] (.agg noEntry.cells.toArray) := fun w => by kernel_rfl
theorem b_first {s : ByteArray} : Build Try.prog 30 #[(1, .string s)] (.agg (firstE s).cells.toArray) := fun w => by kernel_rfl
theorem len18 (e : Entry) (h : enE.ok e) : e.cells.length = 18 := eTy.len e h
theorem one18 (e : Entry) (h : enE.ok e) : ∀ u ∈ e.cells, u.oneCell' = true := eTy.one e h
theorem ok_no : enE.ok noEntry := by simp [enE, noEntry, zero16]
theorem ok_first (s : ByteArray) : enE.ok (firstE s) := by simp [enE, firstE, zero16]
def str (l : List UInt8) : ByteArray := ⟨l.toArray⟩

structure OwnM where
  most : Int
  next : Int
  l : List Entry

structure OwnM.WF (m : OwnM) : Prop where
  most : 1 ≤ m.most ∧ m.most ≤ 4
  next : 0 ≤ m.next ∧ m.next ≤ 1000000
  len : (m.l.length : Int) ≤ m.most

def OwnAt (m : OwnM) (b : Nat) (c : Hp) : Prop := ∃ ao cap cl, c = [(b, .cells [.int .i64 m.most, .int .u64 m.next, .slice ao m.l.length cap].toArray 71 (0, 0))] ++ cl ∧ Ls enE 30 (.slice ao m.l.length cap) cl m.l

theorem b_own {m n : Int} {v : Option Addr} {k k' : Nat} : Build Try.prog 71 #[(0, .int .i64 m), (1, .int .u64 n), (2, .slice v k k')] (.agg [Value.int .i64 m, .int .u64 n, .slice v k k'].toArray) := fun w => by kernel_rfl
theorem place1_c {B : Nat} {w0 : World} {G : List Hp} {e : Entry} {b : Nat} {seq : Int} (hb : Sub [(b, .cells [Value.int .u64 seq].toArray 27 (0, 0))] G) :
    Go.Sl.Fn Try.prog 44 #[enE.val e, .pointer (some ⟨b, 0, none⟩)] B w0 G fun u G' => u = .bool (decide (e.seq = seq)) ∧ G' = G := by
  refine Fn.pure ?_
  refine fn_enter Try.func44 rfl (by kernel_rfl) Try.ntmps44 (by simp) ?_
  refine Go.Sl.cw_seq ?_
  refine Go.Sl.cw_region ?_
  (refine Go.Sl.ow_box rfl rfl rfl rfl ?_; intro b2)
  refine Go.Sl.ow_val rfl rfl (Go.Sl.v_assign rfl) ?_
  refine Go.Sl.ow_nil ?_
  refine Go.Sl.xw_then ?_
  refine Go.Sl.cw_seq ?_
  refine Go.Sl.cw_region ?_
  refine Go.Sl.ow_val rfl rfl (Go.Sl.v_fieldAddr0 Ty.fd30_0 rfl) ?_
  refine Go.Sl.ow_val rfl rfl (Go.Sl.v_load rfl (Go.Sl.Var.at1 Ty.sc27 .here (Go.Sl.GetN.lit rfl))) ?_
  refine Go.Sl.ow_val rfl rfl (Go.Sl.v_load rfl (Go.Sl.Var.sub1 Ty.sc27 (by repeat (first | assumption | refine Go.Sl.Sub.there ?_)) (.head _) (Go.Sl.GetN.lit rfl))) ?_
  refine Go.Sl.ow_val rfl rfl (Go.Sl.v_eql rfl rfl) ?_
  refine Go.Sl.ow_val rfl rfl (Go.Sl.v_assign rfl) ?_
  refine Go.Sl.ow_nil ?_
  refine Go.Sl.xw_then ?_
  refine Go.Sl.cw_ret ?_
  refine Go.Sl.ret1 rfl (Go.Sl.res_tmp rfl) ?_
  exact ⟨rfl, (by first | exact Go.Sl.Cov.refl _ | (intro p; simp only [List.flatten_cons, List.flatten_nil, List.flatten_append, List.append_nil, List.nil_append, Go.Sl.cnt_append, Go.Sl.cnt_cons, Go.Sl.cnt_nil, List.set_cons_zero, List.set_cons_succ, List.length_nil, List.length_cons, Nat.zero_add, List.append]; omega))⟩

theorem place_c {B : Nat} {w0 : World} {G : List Hp} {v : Value} {l : List Entry} {seq : Int} (hV : Vw enE (St B w0 G) v l) (hl : l.length ≤ 100000000) :
    Go.Sl.Fn Try.prog 33 #[v, .int .u64 seq] B w0 G fun u G' => u = .int .i64 (idxF (fun e => decide (e.seq = seq)) l) ∧ G' = G := by
  refine Fn.pure ?_
  refine fn_enter Try.func33 rfl (by kernel_rfl) Try.ntmps33 (by simp) ?_
  refine Go.Sl.cw_seq ?_
  refine Go.Sl.cw_region ?_
  (refine Go.Sl.ow_box rfl rfl rfl rfl ?_; intro b3)
  refine Go.Sl.ow_val rfl rfl (Go.Sl.v_assign rfl) ?_
  refine Go.Sl.ow_nil ?_
  refine Go.Sl.xw_then ?_
  refine Go.Sl.cw_seq ?_
  refine Go.Sl.cw_region ?_
  refine Go.Sl.ow_val rfl rfl (Go.Sl.v_move rfl) ?_
  refine Go.Sl.ow_val rfl rfl (Go.Sl.v_makeFunc rfl rfl) ?_
  refine Go.Sl.ow_val rfl rfl (Go.Sl.v_call rfl rfl (indexFuncE_c (p := fun e => decide (e.seq = seq)) hV.there hl (fun a _ => place1_c Sub.here))) ?_
  refine Go.Sl.ow_val rfl rfl (Go.Sl.v_assign rfl) ?_
  refine Go.Sl.ow_nil ?_
  refine Go.Sl.xw_then ?_
  refine Go.Sl.cw_ret ?_
  refine Go.Sl.ret1 rfl (Go.Sl.res_tmp rfl) ?_
  exact ⟨rfl, (by first | exact Go.Sl.Cov.refl _ | (intro p; simp only [List.flatten_cons, List.flatten_nil, List.flatten_append, List.append_nil, List.nil_append, Go.Sl.cnt_append, Go.Sl.cnt_cons, Go.Sl.cnt_nil, List.set_cons_zero, List.set_cons_succ, List.length_nil, List.length_cons, Nat.zero_add, List.append]; omega))⟩

theorem sized_c {B : Nat} {w0 : World} {G : List Hp} {n : Int} :
    Go.Sl.Fn Try.prog 28 #[.int .i64 n] B w0 G fun u G' => u = .bool (decide (1 ≤ n ∧ n ≤ 20)) ∧ G' = G := by
  refine Fn.pure ?_
  refine fn_enter Try.func28 rfl (by kernel_rfl) Try.ntmps28 (by simp) ?_
  refine Go.Sl.cw_seq ?_
  refine Go.Sl.cw_region ?_
  refine Go.Sl.ow_val rfl rfl (Go.Sl.v_assign rfl) ?_
  refine Go.Sl.ow_nil ?_
  refine Go.Sl.xw_then ?_
  refine Go.Sl.cw_seq ?_
  refine Go.Sl.cw_region ?_
  refine Go.Sl.ow_val rfl rfl (Go.Sl.v_move rfl) ?_
  refine Go.Sl.ow_val rfl rfl (Go.Sl.v_geq rfl rfl) ?_
  refine Go.Sl.ow_val rfl rfl (Go.Sl.v_move rfl) ?_
  refine Go.Sl.ow_dec 5 rfl (fun hc5 => ?_) (fun hc5 => ?_)
  refine Go.Sl.ow_val rfl rfl (Go.Sl.v_move rfl) ?_
  refine Go.Sl.ow_val rfl rfl (Go.Sl.v_leq rfl rfl) ?_
  refine Go.Sl.ow_val rfl rfl (Go.Sl.v_pick_true rfl rfl) ?_
  refine Go.Sl.ow_val rfl rfl (Go.Sl.v_assign rfl) ?_
  refine Go.Sl.ow_nil ?_
  refine Go.Sl.xw_then ?_
  refine Go.Sl.cw_ret ?_
  refine Go.Sl.ret1 rfl (Go.Sl.res_tmp rfl) ?_
  rotate_left
  refine Go.Sl.ow_skip rfl rfl ?_
  refine Go.Sl.ow_skip rfl rfl ?_
  refine Go.Sl.ow_val rfl rfl (Go.Sl.v_pick_false rfl rfl) ?_
  refine Go.Sl.ow_val rfl rfl (Go.Sl.v_assign rfl) ?_
  refine Go.Sl.ow_nil ?_
  refine Go.Sl.xw_then ?_
  refine Go.Sl.cw_ret ?_
  refine Go.Sl.ret1 rfl (Go.Sl.res_tmp rfl) ?_
  rotate_left
  all_goals exact ⟨by simp [*], (by first | exact Go.Sl.Cov.refl _ | (intro p; simp only [List.flatten_cons, List.flatten_nil, List.flatten_append, List.append_nil, List.nil_append, Go.Sl.cnt_append, Go.Sl.cnt_cons, Go.Sl.cnt_nil, List.set_cons_zero, List.set_cons_succ, List.length_nil, List.length_cons, Nat.zero_add, List.append]; omega))⟩

theorem newOwn_c {B : Nat} {w0 : World} {G : List Hp} {v : Value} {l : List UInt8} {most : Int} (hV : Vw enB (St B w0 G) v l) :
    Go.Sl.Fn Try.prog 20 #[v, .int .i64 most] B w0 G fun u G' => ∃ x : Nat × Hp, u = .pointer (some ⟨x.1, 0, none⟩) ∧ OwnAt ⟨min (max most 1) 4, 1, [firstE (str l)]⟩ x.1 x.2 ∧ G' = [x.2] ++ G := by
  refine Fn.new ?_
  refine fn_enter Try.func20 rfl (by kernel_rfl) Try.ntmps20 (by simp) ?_
  have hok := ok_first (str l)
  refine Go.Sl.cw_seq ?_
  refine Go.Sl.cw_region ?_
  refine Go.Sl.ow_val rfl rfl (Go.Sl.v_assign rfl) ?_
  refine Go.Sl.ow_nil ?_
  refine Go.Sl.xw_then ?_
  refine Go.Sl.cw_seq ?_
  refine Go.Sl.cw_region ?_
  refine Go.Sl.ow_val rfl rfl (Go.Sl.v_move rfl) ?_
  refine Go.Sl.ow_val rfl rfl (Go.Sl.v_max rfl rfl) ?_
  refine Go.Sl.ow_val rfl rfl (Go.Sl.v_min rfl rfl) ?_
  refine Go.Sl.ow_val rfl rfl (Go.Sl.v_move rfl) ?_
  refine Go.Sl.ow_val rfl rfl (Go.Sl.v_str Try.underlying9 Try.underlying26 Try.underlying5 rfl (hV)) ?_
  refine Go.Sl.ow_val rfl rfl (Go.Sl.v_build rfl (b_first)) ?_
  (refine Go.Sl.ow_buildL (es := [(firstE (str l))]) rfl rfl Try.underlying31 Ty.em31 (eTy) rfl rfl (by simp [*]) (by simp only [List.length_cons, List.length_nil]; decide) ?_; intro ao11 c11 hL11)
  refine ow_val rfl rfl (v_build rfl (b_own)) ?_
  (refine Go.Sl.ow_box rfl rfl rfl rfl ?_; intro b13)
  refine Go.Sl.ow_val rfl rfl (Go.Sl.v_assign rfl) ?_
  refine Go.Sl.ow_nil ?_
  refine Go.Sl.xw_then ?_
  refine Go.Sl.cw_ret ?_
  refine Go.Sl.ret1 rfl (Go.Sl.res_tmp rfl) ?_
  exact ⟨(b13, [(b13, _)] ++ c11), rfl, ⟨ao11, 1, c11, rfl, hL11⟩, (by first | exact Go.Sl.Cov.refl _ | (intro p; simp only [List.flatten_cons, List.flatten_nil, List.flatten_append, List.append_nil, List.nil_append, Go.Sl.cnt_append, Go.Sl.cnt_cons, Go.Sl.cnt_nil, List.set_cons_zero, List.set_cons_succ, List.length_nil, List.length_cons, Nat.zero_add, List.append]; omega))⟩

theorem wants_c {B : Nat} {w0 : World} {G : List Hp} {m : OwnM} {b : Nat} {c : Hp} (hO : OwnAt m b c) (hs : Sub c G) (hw : m.WF) :
    Go.Sl.Fn Try.prog 24 #[.pointer (some ⟨b, 0, none⟩)] B w0 G fun u G' => u = .bool (decide ((m.l.length : Int) < m.most)) ∧ G' = G := by
  refine Fn.pure ?_
  obtain ⟨ao, cap, cl, rfl, hL⟩ := hO
  have hs1 := hs.left
  have hs2 := hs.right
  refine fn_enter Try.func24 rfl (by kernel_rfl) Try.ntmps24 (by simp) ?_
  refine Go.Sl.cw_seq ?_
  refine Go.Sl.cw_region ?_
  refine Go.Sl.ow_val rfl rfl (Go.Sl.v_assign rfl) ?_
  refine Go.Sl.ow_nil ?_
  refine Go.Sl.xw_then ?_
  refine Go.Sl.cw_seq ?_
  refine Go.Sl.cw_quiet Ty.mixed (by decide +kernel) ?_
  refine Go.Sl.kw_val rfl rfl (Go.Sl.v_move rfl) ?_
  refine Go.Sl.kw_val rfl rfl (Go.Sl.v_neq_nil_some Try.underlying46 rfl) ?_
  refine Go.Sl.kw_val rfl rfl (Go.Sl.v_move rfl) ?_
  refine Go.Sl.kw_val rfl rfl (Go.Sl.v_move rfl) ?_
  refine Go.Sl.kw_val rfl rfl (Go.Sl.v_nilCheck rfl) ?_
  refine Go.Sl.kw_val rfl rfl (Go.Sl.v_fieldAddr0 Ty.fd71_2 rfl) ?_
  refine Go.Sl.kw_val rfl rfl (Go.Sl.v_load rfl (Go.Sl.Var.sub1 Ty.sc31 (by repeat (first | assumption | refine Go.Sl.Sub.there ?_)) (.head _) (Go.Sl.GetN.lit rfl))) ?_
  refine Go.Sl.kw_val rfl rfl (Go.Sl.v_len rfl Try.underlying31 rfl) ?_
  refine Go.Sl.kw_val rfl rfl (Go.Sl.v_move rfl) ?_
  refine Go.Sl.kw_val rfl rfl (Go.Sl.v_nilCheck rfl) ?_
  refine Go.Sl.kw_val rfl rfl (Go.Sl.v_fieldAddr0 Ty.fd71_0 rfl) ?_
  refine Go.Sl.kw_val rfl rfl (Go.Sl.v_load rfl (Go.Sl.Var.sub1 Ty.sc3 (by repeat (first | assumption | refine Go.Sl.Sub.there ?_)) (.head _) (Go.Sl.GetN.lit rfl))) ?_
  refine Go.Sl.kw_val rfl rfl (Go.Sl.v_lss rfl rfl) ?_
  refine Go.Sl.kw_val rfl rfl (Go.Sl.v_pick_true rfl rfl) ?_
  refine Go.Sl.kw_val rfl rfl (Go.Sl.v_assign rfl) ?_
  refine Go.Sl.kw_nil ?_
  refine Go.Sl.xw_then ?_
  refine Go.Sl.cw_ret ?_
  refine Go.Sl.ret1 rfl (Go.Sl.res_tmp rfl) ?_
  exact ⟨rfl, (by first | exact Go.Sl.Cov.refl _ | (intro p; simp only [List.flatten_cons, List.flatten_nil, List.flatten_append, List.append_nil, List.nil_append, Go.Sl.cnt_append, Go.Sl.cnt_cons, Go.Sl.cnt_nil, List.set_cons_zero, List.set_cons_succ, List.length_nil, List.length_cons, Nat.zero_add, List.append]; omega))⟩

theorem has1_c {B : Nat} {w0 : World} {G : List Hp} {e : Entry} {b : Nat} {v : Value} {l : List UInt8} (hb : Sub [(b, .cells [v].toArray 26 (0, 0))] G) (hV : Vw enB (St B w0 G) v l) :
    Go.Sl.Fn Try.prog 40 #[enE.val e, .pointer (some ⟨b, 0, none⟩)] B w0 G fun u G' => u = .bool (decide (e.id = str l)) ∧ G' = G := by
  refine Fn.pure ?_
  refine fn_enter Try.func40 rfl (by kernel_rfl) Try.ntmps40 (by simp) ?_
  refine Go.Sl.cw_seq ?_
  refine Go.Sl.cw_region ?_
  (refine Go.Sl.ow_box rfl rfl rfl rfl ?_; intro b2)
  refine Go.Sl.ow_val rfl rfl (Go.Sl.v_assign rfl) ?_
  refine Go.Sl.ow_nil ?_
  refine Go.Sl.xw_then ?_
  refine Go.Sl.cw_seq ?_
  refine Go.Sl.cw_region ?_
  refine Go.Sl.ow_val rfl rfl (Go.Sl.v_fieldAddr0 Ty.fd30_1 rfl) ?_
  refine Go.Sl.ow_val rfl rfl (Go.Sl.v_load rfl (Go.Sl.Var.at1 Ty.sc9 .here (Go.Sl.GetN.lit rfl))) ?_
  refine Go.Sl.ow_val rfl rfl (Go.Sl.v_load rfl (Go.Sl.Var.sub1 Ty.sc26 (by repeat (first | assumption | refine Go.Sl.Sub.there ?_)) (.head _) (Go.Sl.GetN.lit rfl))) ?_
  refine Go.Sl.ow_val rfl rfl (Go.Sl.v_str Try.underlying9 Try.underlying26 Try.underlying5 rfl (hV.there)) ?_
  refine Go.Sl.ow_val rfl rfl (Go.Sl.v_eqlS rfl rfl) ?_
  refine Go.Sl.ow_val rfl rfl (Go.Sl.v_assign rfl) ?_
  refine Go.Sl.ow_nil ?_
  refine Go.Sl.xw_then ?_
  refine Go.Sl.cw_ret ?_
  refine Go.Sl.ret1 rfl (Go.Sl.res_tmp rfl) ?_
  exact ⟨rfl, (by first | exact Go.Sl.Cov.refl _ | (intro p; simp only [List.flatten_cons, List.flatten_nil, List.flatten_append, List.append_nil, List.nil_append, Go.Sl.cnt_append, Go.Sl.cnt_cons, Go.Sl.cnt_nil, List.set_cons_zero, List.set_cons_succ, List.length_nil, List.length_cons, Nat.zero_add, List.append]; omega))⟩

theorem has_c {B : Nat} {w0 : World} {G : List Hp} {m : OwnM} {b : Nat} {c : Hp} {v : Value} {l : List UInt8} (hO : OwnAt m b c) (hs : Sub c G) (hw : m.WF) (hV : Vw enB (St B w0 G) v l) :
    Go.Sl.Fn Try.prog 26 #[.pointer (some ⟨b, 0, none⟩), v] B w0 G fun u G' => u = .bool (m.l.any fun e => decide (e.id = str l)) ∧ G' = G := by
  refine Fn.pure ?_
  obtain ⟨ao, cap, cl, rfl, hL⟩ := hO
  have hs1 := hs.left
  have hs2 := hs.right
  have h1 := hw.most
  have h2 := hw.len
  obtain ⟨ao2, cap2, rfl, _⟩ := hV.view
  refine fn_enter Try.func26 rfl (by kernel_rfl) Try.ntmps26 (by simp) ?_
  refine Go.Sl.cw_seq ?_
  refine Go.Sl.cw_region ?_
  (refine Go.Sl.ow_box rfl rfl rfl rfl ?_; intro b3)
  refine Go.Sl.ow_val rfl rfl (Go.Sl.v_assign rfl) ?_
  refine Go.Sl.ow_nil ?_
  refine Go.Sl.xw_then ?_
  refine Go.Sl.cw_seq ?_
  refine Go.Sl.cw_region ?_
  refine Go.Sl.ow_val rfl rfl (Go.Sl.v_move rfl) ?_
  refine Go.Sl.ow_val rfl rfl (Go.Sl.v_neq_nil_some Try.underlying46 rfl) ?_
  refine Go.Sl.ow_val rfl rfl (Go.Sl.v_move rfl) ?_
  refine Go.Sl.ow_val rfl rfl (Go.Sl.v_move rfl) ?_
  refine Go.Sl.ow_val rfl rfl (Go.Sl.v_nilCheck rfl) ?_
  refine Go.Sl.ow_val rfl rfl (Go.Sl.v_fieldAddr0 Ty.fd71_2 rfl) ?_
  refine Go.Sl.ow_val rfl rfl (Go.Sl.v_load rfl (Go.Sl.Var.sub1 Ty.sc31 (by repeat (first | assumption | refine Go.Sl.Sub.there ?_)) (.head _) (Go.Sl.GetN.lit rfl))) ?_
  refine Go.Sl.ow_val rfl rfl (Go.Sl.v_makeFunc rfl rfl) ?_
  refine Go.Sl.ow_val rfl rfl (Go.Sl.v_call rfl rfl (containsFuncE_c (p := fun e => decide (e.id = str l)) (hL.vw hs2.there) (by omega) (fun a _ => has1_c Sub.here hV.there))) ?_
  refine Go.Sl.ow_val rfl rfl (Go.Sl.v_pick_true rfl rfl) ?_
  refine Go.Sl.ow_val rfl rfl (Go.Sl.v_assign rfl) ?_
  refine Go.Sl.ow_nil ?_
  refine Go.Sl.xw_then ?_
  refine Go.Sl.cw_ret ?_
  refine Go.Sl.ret1 rfl (Go.Sl.res_tmp rfl) ?_
  exact ⟨rfl, (by first | exact Go.Sl.Cov.refl _ | (intro p; simp only [List.flatten_cons, List.flatten_nil, List.flatten_append, List.append_nil, List.nil_append, Go.Sl.cnt_append, Go.Sl.cnt_cons, Go.Sl.cnt_nil, List.set_cons_zero, List.set_cons_succ, List.length_nil, List.length_cons, Nat.zero_add, List.append]; omega))⟩

theorem ownList_c {B : Nat} {w0 : World} {G : List Hp} {m : OwnM} {b : Nat} {c : Hp} (hO : OwnAt m b c) (hs : Sub c G) (hw : m.WF) :
    Go.Sl.Fn Try.prog 23 #[.pointer (some ⟨b, 0, none⟩)] B w0 G fun u G' => ∃ x : Option Addr × Nat × Hp, u = .slice x.1 m.l.length x.2.1 ∧ Ls enE 30 (.slice x.1 m.l.length x.2.1) x.2.2 m.l ∧ G' = [x.2.2] ++ G := by
  obtain ⟨ao, cap, cl, rfl, hL⟩ := hO
  refine Fn.new ?_
  have hs1 := hs.left
  have hs2 := hs.right
  have h1 := hw.most
  have h2 := hw.len
  refine fn_enter Try.func23 rfl (by kernel_rfl) Try.ntmps23 (by simp) ?_
  refine Go.Sl.cw_seq ?_
  refine Go.Sl.cw_region ?_
  refine Go.Sl.ow_val rfl rfl (Go.Sl.v_assign rfl) ?_
  refine Go.Sl.ow_nil ?_
  refine Go.Sl.xw_then ?_
  refine Go.Sl.cw_seq ?_
  refine Go.Sl.cw_seq ?_
  refine Go.Sl.cw_region ?_
  refine Go.Sl.ow_val rfl rfl (Go.Sl.v_move rfl) ?_
  refine Go.Sl.ow_val rfl rfl (Go.Sl.v_eql_nil_some Try.underlying46 rfl) ?_
  refine Go.Sl.ow_nil ?_
  refine Go.Sl.xw_then ?_
  refine Go.Sl.cw_false rfl ?_
  refine Go.Sl.cw_skip ?_
  refine Go.Sl.xw_then ?_
  refine Go.Sl.cw_seq ?_
  refine Go.Sl.cw_region ?_
  refine Go.Sl.ow_val rfl rfl (Go.Sl.v_move rfl) ?_
  refine Go.Sl.ow_val rfl rfl (Go.Sl.v_nilCheck rfl) ?_
  refine Go.Sl.ow_val rfl rfl (Go.Sl.v_fieldAddr0 Ty.fd71_2 rfl) ?_
  refine Go.Sl.ow_val rfl rfl (Go.Sl.v_load rfl (Go.Sl.Var.sub1 Ty.sc31 (by repeat (first | assumption | refine Go.Sl.Sub.there ?_)) (.head _) (Go.Sl.GetN.lit rfl))) ?_
  (refine Go.Sl.ow_call rfl rfl rfl rfl (cloneE_c (hL.vw hs2) (by omega)) ?_; rintro _ _ ⟨x9, rfl, hq9, rfl⟩)
  refine Go.Sl.ow_val rfl rfl (Go.Sl.v_assign rfl) ?_
  refine Go.Sl.ow_nil ?_
  refine Go.Sl.xw_then ?_
  refine Go.Sl.cw_ret ?_
  refine Go.Sl.ret1 rfl (Go.Sl.res_tmp rfl) ?_
  exact ⟨x9, rfl, hq9, (by first | exact Go.Sl.Cov.refl _ | (intro p; simp only [List.flatten_cons, List.flatten_nil, List.flatten_append, List.append_nil, List.nil_append, Go.Sl.cnt_append, Go.Sl.cnt_cons, Go.Sl.cnt_nil, List.set_cons_zero, List.set_cons_succ, List.length_nil, List.length_cons, Nat.zero_add, List.append]; omega))⟩

def findE (seq : Int) (l : List Entry) : Entry := (l.find? fun e => decide (e.seq = seq)).getD noEntry
def hasE (seq : Int) (l : List Entry) : Bool := l.any fun e => decide (e.seq = seq)

theorem findE_none {seq : Int} {l : List Entry} (h : ∀ e ∈ l, decide (e.seq = seq) = false) : Value.tuple #[enE.val (findE seq l), .bool (hasE seq l)] = .tuple #[enE.val noEntry, .bool false] := by
  have h1 : l.find? (fun e => decide (e.seq = seq)) = none := List.find?_eq_none.2 fun e he => by simp [h e he]
  have h2 : l.any (fun e => decide (e.seq = seq)) = false := List.any_eq_false.2 fun e he => by simp [h e he]
  simp [findE, hasE, h1, h2]
theorem findE_some {seq : Int} {l : List Entry} {i : Nat} (hi : i < l.length) (h : decide (l[i].seq = seq) = true) (hno : ∀ j (hj : j < l.length), j < i → decide (l[j].seq = seq) = false) : Value.tuple #[enE.val (findE seq l), .bool (hasE seq l)] = .tuple #[enE.val l[i], .bool true] := by
  have h1 : l.find? (fun e => decide (e.seq = seq)) = some l[i] := List.find?_eq_some_iff_getElem.2 ⟨h, i, hi, rfl, fun j hj => by simp [hno j (by omega) hj]⟩
  have h2 : l.any (fun e => decide (e.seq = seq)) = true := List.any_eq_true.2 ⟨l[i], List.getElem_mem _, h⟩
  simp [findE, hasE, h1, h2]

theorem findE_get {seq : Int} {l : List Entry} (h : ¬ idxF (fun e : Entry => decide (e.seq = seq)) l < 0) : findE seq l = l[(idxF (fun e : Entry => decide (e.seq = seq)) l).toNat]! := by
  obtain ⟨i, hi, hi2, hp, hno⟩ := idxF_pos (p := fun e : Entry => decide (e.seq = seq)) (l := l) (by omega)
  have h1 : l.find? (fun e => decide (e.seq = seq)) = some l[i] := List.find?_eq_some_iff_getElem.2 ⟨hp, i, hi2, rfl, fun j hj => by simp [hno j (by omega) hj]⟩
  have hit : (idxF (fun e : Entry => decide (e.seq = seq)) l).toNat = i := by omega
  rw [hit, getElem!_pos l i hi2, findE, h1]
  rfl

theorem find_c {B : Nat} {w0 : World} {G : List Hp} {m : OwnM} {b : Nat} {c : Hp} {seq : Int} (hO : OwnAt m b c) (hs : Sub c G) (hw : m.WF) :
    Go.Sl.Fn Try.prog 25 #[.pointer (some ⟨b, 0, none⟩), .int .u64 seq] B w0 G fun u G' => u = .tuple #[enE.val (findE seq m.l), .bool (hasE seq m.l)] ∧ G' = G := by
  refine Fn.pure ?_
  obtain ⟨ao, cap, cl, rfl, hL⟩ := hO
  have hs1 := hs.left
  have hs2 := hs.right
  have h1 := hw.most
  have h2 := hw.len
  have hno := len18 _ ok_no
  have hno1 := one18 _ ok_no
  have hbd := idxF_bd (p := fun e : Entry => decide (e.seq = seq)) (l := m.l)
  refine fn_enter Try.func25 rfl (by kernel_rfl) Try.ntmps25 (by simp) ?_
  refine Go.Sl.cw_seq ?_
  refine Go.Sl.cw_region ?_
  (refine Go.Sl.ow_alloc rfl rfl Ty.ze30 ?_; intro b4)
  refine Go.Sl.ow_val rfl rfl (Go.Sl.v_assign rfl) ?_
  refine Go.Sl.ow_nil ?_
  refine Go.Sl.xw_then ?_
  refine Go.Sl.cw_seq ?_
  refine Go.Sl.cw_seq ?_
  refine Go.Sl.cw_region ?_
  refine Go.Sl.ow_val rfl rfl (Go.Sl.v_move rfl) ?_
  refine Go.Sl.ow_val rfl rfl (Go.Sl.v_eql_nil_some Try.underlying46 rfl) ?_
  refine Go.Sl.ow_nil ?_
  refine Go.Sl.xw_then ?_
  refine Go.Sl.cw_false rfl ?_
  refine Go.Sl.cw_skip ?_
  refine Go.Sl.xw_then ?_
  refine Go.Sl.cw_seq ?_
  refine Go.Sl.cw_region ?_
  refine Go.Sl.ow_val rfl rfl (Go.Sl.v_move rfl) ?_
  refine Go.Sl.ow_val rfl rfl (Go.Sl.v_nilCheck rfl) ?_
  refine Go.Sl.ow_val rfl rfl (Go.Sl.v_fieldAddr0 Ty.fd71_2 rfl) ?_
  refine Go.Sl.ow_val rfl rfl (Go.Sl.v_load rfl (Go.Sl.Var.sub1 Ty.sc31 (by repeat (first | assumption | refine Go.Sl.Sub.there ?_)) (.head _) (Go.Sl.GetN.lit rfl))) ?_
  refine Go.Sl.ow_val rfl rfl (Go.Sl.v_move rfl) ?_
  refine Go.Sl.ow_val rfl rfl (Go.Sl.v_call rfl rfl (place_c (hL.vw hs2.there) (by omega))) ?_
  refine Go.Sl.ow_val rfl rfl (Go.Sl.v_assign rfl) ?_
  refine Go.Sl.ow_nil ?_
  refine Go.Sl.xw_then ?_
  refine Go.Sl.cw_seq ?_
  refine Go.Sl.cw_seq ?_
  refine Go.Sl.cw_region ?_
  refine Go.Sl.ow_val rfl rfl (Go.Sl.v_move rfl) ?_
  refine Go.Sl.ow_val rfl rfl (Go.Sl.v_lss rfl rfl) ?_
  refine Go.Sl.ow_nil ?_
  refine Go.Sl.xw_then ?_
  refine Go.Sl.cw_dec rfl (fun hc17 => ?_) (fun hc17 => ?_)
  refine Go.Sl.cw_seq ?_
  refine Go.Sl.cw_region ?_
  refine Go.Sl.ow_val rfl rfl (Go.Sl.v_build rfl (b_entry0)) ?_
  refine Go.Sl.ow_storeE rfl (eTy) rfl rfl .here (by first | rfl | assumption) (ok_no) ?_
  refine Go.Sl.ow_val rfl rfl (Go.Sl.v_assign rfl) ?_
  refine Go.Sl.ow_nil ?_
  refine Go.Sl.xw_then ?_
  refine Go.Sl.cw_ret ?_
  refine Go.Sl.xw_then_ret ?_
  refine Go.Sl.ret2 rfl (Go.Sl.res_cell rfl (Go.Sl.Var.atN Ty.ag30 .here Go.Sl.GetN.all (by first | rfl | assumption))) (Go.Sl.res_tmp rfl) ?_
  rotate_left
  refine Go.Sl.cw_skip ?_
  refine Go.Sl.xw_then ?_
  refine Go.Sl.cw_seq ?_
  refine Go.Sl.cw_region ?_
  refine Go.Sl.ow_val rfl rfl (Go.Sl.v_move rfl) ?_
  refine Go.Sl.ow_val rfl rfl (Go.Sl.v_nilCheck rfl) ?_
  refine Go.Sl.ow_val rfl rfl (Go.Sl.v_fieldAddr0 Ty.fd71_2 rfl) ?_
  refine Go.Sl.ow_val rfl rfl (Go.Sl.v_load rfl (Go.Sl.Var.sub1 Ty.sc31 (by repeat (first | assumption | refine Go.Sl.Sub.there ?_)) (.head _) (Go.Sl.GetN.lit rfl))) ?_
  refine Go.Sl.ow_val rfl rfl (Go.Sl.v_move rfl) ?_
  refine Go.Sl.ow_val rfl rfl (Go.Sl.v_indexAddr_ls Try.underlying31 (eTy) rfl rfl (by assumption) (Int.toNat_of_nonneg (by omega)).symm (by omega)) ?_
  refine Go.Sl.ow_val rfl rfl (Go.Sl.v_load rfl (Go.Sl.Vw.var (eTy) (Go.Sl.Ls.vw (by assumption) (by repeat (first | exact Go.Sl.Sub.here | assumption | refine Go.Sl.Sub.there ?_))) (by omega))) ?_
  refine Go.Sl.ow_storeE rfl (eTy) rfl rfl .here (by first | rfl | assumption) (hL.ok _ (List.getElem_mem _)) ?_
  refine Go.Sl.ow_val rfl rfl (Go.Sl.v_assign rfl) ?_
  refine Go.Sl.ow_nil ?_
  refine Go.Sl.xw_then ?_
  refine Go.Sl.cw_ret ?_
  refine Go.Sl.ret2 rfl (Go.Sl.res_cell rfl (Go.Sl.Var.atE (eTy) .here (hL.ok _ (List.getElem_mem _)))) (Go.Sl.res_tmp rfl) ?_
  rotate_left
  · have hn := idxF_neg (p := fun e : Entry => decide (e.seq = seq)) (l := m.l) (by omega)
    refine ⟨?_, (by first | exact Go.Sl.Cov.refl _ | (intro p; simp only [List.flatten_cons, List.flatten_nil, List.flatten_append, List.append_nil, List.nil_append, Go.Sl.cnt_append, Go.Sl.cnt_cons, Go.Sl.cnt_nil, List.set_cons_zero, List.set_cons_succ, List.length_nil, List.length_cons, Nat.zero_add, List.append]; omega))⟩
    rw [findE_none hn]
    rfl
  · obtain ⟨i, hi, hi2, hp, hno2⟩ := idxF_pos (p := fun e : Entry => decide (e.seq = seq)) (l := m.l) (by omega)
    refine ⟨?_, (by first | exact Go.Sl.Cov.refl _ | (intro p; simp only [List.flatten_cons, List.flatten_nil, List.flatten_append, List.append_nil, List.nil_append, Go.Sl.cnt_append, Go.Sl.cnt_cons, Go.Sl.cnt_nil, List.set_cons_zero, List.set_cons_succ, List.length_nil, List.length_cons, Nat.zero_add, List.append]; omega))⟩
    have hit : (idxF (fun e : Entry => decide (e.seq = seq)) m.l).toNat = i := by omega
    rw [findE_some hi2 hp hno2]
    simp only [hit]

def OwnM.give (m : OwnM) (id : List UInt8) (tok : List Int) : OwnM × Entry × Int :=
  if ¬ (1 ≤ (id.length : Int) ∧ (id.length : Int) ≤ 20) then (m, noEntry, 6)
  else if ¬ (m.l.length : Int) < m.most then (m, noEntry, 11)
  else if (m.l.any fun e => decide (e.id = str id)) = true then (m, noEntry, 18)
  else ({ m with next := m.next + 1, l := m.l ++ [⟨m.next, str id, tok⟩] }, ⟨m.next, str id, tok⟩, 0)

theorem b_give {n : Int} {s : ByteArray} {tok : List Int} (ht : tok.length = 16) : Build Try.prog 30 #[(0, .int .u64 n), (1, .string s), (2, .agg (tok.map (Value.int .u8)).toArray)] (.agg (Entry.cells ⟨n, s, tok⟩).toArray) := by
  match tok, ht with
  | [a0, a1, a2, a3, a4, a5, a6, a7, a8, a9, a10, a11, a12, a13, a14, a15], _ => intro w; kernel_rfl

theorem give_c {B : Nat} {w0 : World} {G : List Hp} {R : Hp → List Hp} {m : OwnM} {b : Nat} {c : Hp} {v : Value} {l : List UInt8} {tok : List Int} (hsel : Sel G c R) (hO : OwnAt m b c) (hw : m.WF) (hV : Vw enB (St B w0 G) v l) (ht : tok.length = 16) :
    Go.Sl.Fn Try.prog 21 #[.pointer (some ⟨b, 0, none⟩), v, .agg (tok.map (Value.int .u8)).toArray] B w0 G fun u G' => ∃ c' : Hp, u = .tuple #[enE.val (m.give l tok).2.1, .int .i64 (m.give l tok).2.2] ∧ OwnAt (m.give l tok).1 b c' ∧ G' = R c' := by
  refine Fn.sel0 hsel fun F hR hF => ?_
  have hV := hV.mono hF
  obtain ⟨ao, cap, cl, rfl, hL⟩ := hO
  obtain ⟨ao2, cap2, rfl, _⟩ := hV.view
  have h1 := hw.most
  have h2 := hw.len
  have h3 := hw.next
  have hno := len18 _ ok_no
  have hno1 := one18 _ ok_no
  have htl : (tok.map (Value.int .u8)).length = 16 := by simp [ht]
  have hok : enE.ok ⟨m.next, str l, tok⟩ := ⟨by dsimp only; omega, by dsimp only; omega, ht⟩
  have hok18 := len18 _ hok
  have hok1 := one18 _ hok
  refine fn_enter Try.func21 rfl (by kernel_rfl) Try.ntmps21 (by simp) ?_
  refine cw_split ?_
  refine Go.Sl.cw_seq ?_
  refine Go.Sl.cw_region ?_
  (refine Go.Sl.ow_box rfl rfl rfl rfl ?_; intro b5)
  (refine Go.Sl.ow_alloc rfl rfl Ty.ze30 ?_; intro b6)
  refine Go.Sl.ow_val rfl rfl (Go.Sl.v_assign rfl) ?_
  refine Go.Sl.ow_nil ?_
  refine Go.Sl.xw_then ?_
  refine Go.Sl.cw_seq ?_
  refine Go.Sl.cw_block ?_
  refine Go.Sl.cw_seq ?_
  refine Go.Sl.cw_region ?_
  refine Go.Sl.ow_val rfl rfl (Go.Sl.v_move rfl) ?_
  refine Go.Sl.ow_val rfl rfl (Go.Sl.v_eql_nil_some Try.underlying46 rfl) ?_
  refine Go.Sl.ow_val rfl rfl (Go.Sl.v_assign rfl) ?_
  refine Go.Sl.ow_nil ?_
  refine Go.Sl.xw_then ?_
  refine Go.Sl.cw_false rfl ?_
  refine Go.Sl.cw_seq ?_
  refine Go.Sl.cw_region ?_
  refine Go.Sl.ow_val rfl rfl (Go.Sl.v_move rfl) ?_
  refine Go.Sl.ow_val rfl rfl (Go.Sl.v_len rfl Try.underlying26 rfl) ?_
  refine Go.Sl.ow_val rfl rfl (Go.Sl.v_call rfl rfl (sized_c)) ?_
  refine Go.Sl.ow_val rfl rfl (Go.Sl.v_not rfl) ?_
  refine Go.Sl.ow_val rfl rfl (Go.Sl.v_assign rfl) ?_
  refine Go.Sl.ow_nil ?_
  refine Go.Sl.xw_then ?_
  refine Go.Sl.cw_dec rfl (fun hc13 => ?_) (fun hc13 => ?_)
  refine Go.Sl.cw_seq ?_
  refine Go.Sl.cw_region ?_
  refine Go.Sl.ow_val rfl rfl (Go.Sl.v_build rfl (b_entry0)) ?_
  refine Go.Sl.ow_storeN rfl rfl rfl Ty.ag30 (by first | rfl | assumption) (by first | assumption | simp) .here (Go.Sl.SetN.all (by first | rfl | assumption | simp_all)) ?_
  refine Go.Sl.ow_val rfl rfl (Go.Sl.v_assign rfl) ?_
  refine Go.Sl.ow_nil ?_
  refine Go.Sl.xw_then ?_
  refine Go.Sl.cw_ret ?_
  refine Go.Sl.xw_block_ret ?_
  refine Go.Sl.xw_then_ret ?_
  refine Go.Sl.ret2 rfl (Go.Sl.res_cell rfl (Go.Sl.Var.atN Ty.ag30 .here Go.Sl.GetN.all (by first | rfl | assumption))) (Go.Sl.res_tmp rfl) ?_
  rotate_left
  refine Go.Sl.cw_seq ?_
  refine Go.Sl.cw_region ?_
  refine Go.Sl.ow_val rfl rfl (Go.Sl.v_move rfl) ?_
  refine Go.Sl.ow_val rfl rfl (Go.Sl.v_call rfl rfl (wants_c (m := m) ⟨ao, cap, cl, rfl, hL⟩ (Sub.app (by repeat (first | exact Go.Sl.Sub.here | assumption | refine Go.Sl.Sub.there ?_)) (by repeat (first | exact Go.Sl.Sub.here | assumption | refine Go.Sl.Sub.there ?_))) hw)) ?_
  refine Go.Sl.ow_val rfl rfl (Go.Sl.v_not rfl) ?_
  refine Go.Sl.ow_val rfl rfl (Go.Sl.v_assign rfl) ?_
  refine Go.Sl.ow_nil ?_
  refine Go.Sl.xw_then ?_
  refine Go.Sl.cw_dec rfl (fun hc19 => ?_) (fun hc19 => ?_)
  refine Go.Sl.cw_seq ?_
  refine Go.Sl.cw_region ?_
  refine Go.Sl.ow_val rfl rfl (Go.Sl.v_build rfl (b_entry0)) ?_
  refine Go.Sl.ow_storeN rfl rfl rfl Ty.ag30 (by first | rfl | assumption) (by first | assumption | simp) .here (Go.Sl.SetN.all (by first | rfl | assumption | simp_all)) ?_
  refine Go.Sl.ow_val rfl rfl (Go.Sl.v_assign rfl) ?_
  refine Go.Sl.ow_nil ?_
  refine Go.Sl.xw_then ?_
  refine Go.Sl.cw_ret ?_
  refine Go.Sl.xw_block_ret ?_
  refine Go.Sl.xw_then_ret ?_
  refine Go.Sl.ret2 rfl (Go.Sl.res_cell rfl (Go.Sl.Var.atN Ty.ag30 .here Go.Sl.GetN.all (by first | rfl | assumption))) (Go.Sl.res_tmp rfl) ?_
  rotate_left
  refine Go.Sl.cw_seq ?_
  refine Go.Sl.cw_region ?_
  refine Go.Sl.ow_val rfl rfl (Go.Sl.v_move rfl) ?_
  refine Go.Sl.ow_val rfl rfl (Go.Sl.v_move rfl) ?_
  refine Go.Sl.ow_val rfl rfl (Go.Sl.v_call rfl rfl (has_c (m := m) ⟨ao, cap, cl, rfl, hL⟩ (Sub.app (by repeat (first | exact Go.Sl.Sub.here | assumption | refine Go.Sl.Sub.there ?_)) (by repeat (first | exact Go.Sl.Sub.here | assumption | refine Go.Sl.Sub.there ?_))) hw (hV.cov (by first | exact Go.Sl.Cov.refl _ | (intro p; simp only [List.flatten_cons, List.flatten_nil, List.flatten_append, List.append_nil, List.nil_append, Go.Sl.cnt_append, Go.Sl.cnt_cons, Go.Sl.cnt_nil, List.set_cons_zero, List.set_cons_succ, List.length_nil, List.length_cons, Nat.zero_add, List.append]; omega))))) ?_
  refine Go.Sl.ow_val rfl rfl (Go.Sl.v_assign rfl) ?_
  refine Go.Sl.ow_nil ?_
  refine Go.Sl.xw_then ?_
  refine Go.Sl.cw_bool rfl (fun hc24 => ?_) (fun hc24 => ?_)
  refine Go.Sl.cw_seq ?_
  refine Go.Sl.cw_region ?_
  refine Go.Sl.ow_val rfl rfl (Go.Sl.v_build rfl (b_entry0)) ?_
  refine Go.Sl.ow_storeN rfl rfl rfl Ty.ag30 (by first | rfl | assumption) (by first | assumption | simp) .here (Go.Sl.SetN.all (by first | rfl | assumption | simp_all)) ?_
  refine Go.Sl.ow_val rfl rfl (Go.Sl.v_assign rfl) ?_
  refine Go.Sl.ow_nil ?_
  refine Go.Sl.xw_then ?_
  refine Go.Sl.cw_ret ?_
  refine Go.Sl.xw_block_ret ?_
  refine Go.Sl.xw_then_ret ?_
  refine Go.Sl.ret2 rfl (Go.Sl.res_cell rfl (Go.Sl.Var.atN Ty.ag30 .here Go.Sl.GetN.all (by first | rfl | assumption))) (Go.Sl.res_tmp rfl) ?_
  rotate_left
  refine Go.Sl.cw_skip ?_
  refine Go.Sl.xw_block ?_
  refine Go.Sl.xw_then ?_
  refine Go.Sl.cw_seq ?_
  refine Go.Sl.cw_mix [8] [9] [0, 1, 2, 3, 4, 5, 6, 7] Ty.mixed rfl rfl rfl rfl (by decide +kernel) ?_
  refine Go.Sl.hw_pure rfl rfl (Go.Sl.v_move rfl) rfl ?_
  refine Go.Sl.hw_pure rfl rfl (Go.Sl.v_nilCheck rfl) rfl ?_
  refine Go.Sl.hw_pure rfl rfl (Go.Sl.v_fieldAddr0 Ty.fd71_1 rfl) rfl ?_
  refine Go.Sl.hw_read rfl rfl rfl (Go.Sl.v_load rfl (Go.Sl.Var.at1 Ty.sc27 (.there (.there .here)) (Go.Sl.GetN.lit rfl))) ?_
  refine Go.Sl.hw_pure rfl rfl (Go.Sl.v_move rfl) rfl ?_
  refine Go.Sl.hw_read rfl rfl rfl (Go.Sl.v_str Try.underlying9 Try.underlying26 Try.underlying5 rfl (hV.cov (by first | exact Go.Sl.Cov.refl _ | (intro p; simp only [List.flatten_cons, List.flatten_nil, List.flatten_append, List.append_nil, List.nil_append, Go.Sl.cnt_append, Go.Sl.cnt_cons, Go.Sl.cnt_nil, List.set_cons_zero, List.set_cons_succ, List.length_nil, List.length_cons, Nat.zero_add, List.append]; omega)))) ?_
  refine Go.Sl.hw_read rfl rfl rfl (Go.Sl.v_load rfl (Go.Sl.Var.atN Ty.ag28 (.there .here) Go.Sl.GetN.all (by first | rfl | assumption))) ?_
  refine Go.Sl.hw_pure rfl rfl (Go.Sl.v_build rfl (b_give ht)) rfl ?_
  refine Go.Sl.hw_nil ?_
  (refine Go.Sl.sw_alloc rfl rfl Ty.ze30 ?_; intro b8)
  refine Go.Sl.sw_nil ?_
  refine Go.Sl.ow_storeE rfl (eTy) rfl rfl .here (by first | rfl | assumption) (by assumption) ?_
  refine Go.Sl.ow_nil ?_
  refine Go.Sl.xw_np ?_
  refine Go.Sl.xw_then ?_
  refine Go.Sl.cw_seq ?_
  refine Go.Sl.cw_region ?_
  refine Go.Sl.ow_val rfl rfl (Go.Sl.v_move rfl) ?_
  refine Go.Sl.ow_val rfl rfl (Go.Sl.v_nilCheck rfl) ?_
  refine Go.Sl.ow_val rfl rfl (Go.Sl.v_fieldAddr0 Ty.fd71_1 rfl) ?_
  refine Go.Sl.ow_val rfl rfl (Go.Sl.v_load rfl (Go.Sl.Var.at1 Ty.sc27 (.there (.there (.there .here))) (Go.Sl.GetN.lit rfl))) ?_
  refine Go.Sl.ow_val rfl rfl (Go.Sl.v_add rfl rfl (Go.Sl.nw_u64 (by omega) (by omega))) ?_
  refine Go.Sl.ow_val rfl rfl (Go.Sl.v_nilCheck rfl) ?_
  refine Go.Sl.ow_val rfl rfl (Go.Sl.v_fieldAddr0 Ty.fd71_1 rfl) ?_
  refine Go.Sl.ow_store1 rfl rfl rfl rfl Ty.sc27 (.there (.there (.there .here))) (Go.Sl.SetN.one (by first | decide | exact Nat.le_of_ble_eq_true rfl)) ?_
  refine Go.Sl.ow_nil ?_
  refine Go.Sl.xw_then ?_
  refine Go.Sl.cw_seq ?_
  refine Go.Sl.cw_mix [6] [7, 8, 9, 10] [0, 1, 2, 3, 4, 5] Ty.mixed rfl rfl rfl rfl (by decide +kernel) ?_
  refine Go.Sl.hw_pure rfl rfl (Go.Sl.v_move rfl) rfl ?_
  refine Go.Sl.hw_pure rfl rfl (Go.Sl.v_move rfl) rfl ?_
  refine Go.Sl.hw_pure rfl rfl (Go.Sl.v_nilCheck rfl) rfl ?_
  refine Go.Sl.hw_pure rfl rfl (Go.Sl.v_fieldAddr0 Ty.fd71_2 rfl) rfl ?_
  refine Go.Sl.hw_read rfl rfl rfl (Go.Sl.v_load rfl (Go.Sl.Var.at1 Ty.sc31 (.there (.there (.there .here))) (Go.Sl.GetN.lit rfl))) ?_
  refine Go.Sl.hw_read rfl rfl rfl (Go.Sl.v_load rfl (Go.Sl.Var.atN Ty.ag30 .here Go.Sl.GetN.all (by first | rfl | assumption))) ?_
  refine Go.Sl.hw_nil ?_
  (refine Go.Sl.sw_buildL (es := [(⟨m.next, str l, tok⟩)]) rfl rfl Try.underlying31 Ty.em31 (eTy) rfl rfl (by simp [*]) (by simp only [List.length_cons, List.length_nil]; decide) ?_; intro ao50 c50 hL50)
  refine Go.Sl.sw_nil ?_
  (refine Go.Sl.ow_appendL rfl rfl Try.underlying31 Try.underlying31 Ty.em31 (eTy) rfl rfl (by assumption) (by repeat (first | exact Go.Sl.Sel.here | apply Go.Sl.Sel.there)) (Go.Sl.Ls.vw (by assumption) (by repeat (first | exact Go.Sl.Sub.here | assumption | refine Go.Sl.Sub.there ?_))) (by first | omega | (simp only [List.length_append, List.length_take, List.length_drop, List.length_nil, List.length_cons]; omega)) (by first | omega | (simp only [List.length_append, List.length_take, List.length_drop, List.length_nil, List.length_cons]; omega)) ?_; intro ao51 cap51 c51 hL51)
  refine Go.Sl.ow_val rfl rfl (Go.Sl.v_nilCheck rfl) ?_
  refine Go.Sl.ow_val rfl rfl (Go.Sl.v_fieldAddr0 Ty.fd71_2 rfl) ?_
  refine Go.Sl.ow_store1 rfl rfl rfl rfl Ty.sc31 (.there (.there (.there (.there .here)))) (Go.Sl.SetN.one (by first | decide | exact Nat.le_of_ble_eq_true rfl)) ?_
  refine Go.Sl.ow_nil ?_
  refine Go.Sl.xw_np ?_
  refine Go.Sl.xw_then ?_
  refine Go.Sl.cw_seq ?_
  refine Go.Sl.cw_region ?_
  refine Go.Sl.ow_val rfl rfl (Go.Sl.v_load rfl (Go.Sl.Var.atN Ty.ag30 (.there .here) Go.Sl.GetN.all (by first | rfl | assumption))) ?_
  refine Go.Sl.ow_storeE rfl (eTy) rfl rfl (.there (.there .here)) (by first | rfl | assumption) (by assumption) ?_
  refine Go.Sl.ow_val rfl rfl (Go.Sl.v_assign rfl) ?_
  refine Go.Sl.ow_nil ?_
  refine Go.Sl.xw_then ?_
  refine Go.Sl.cw_ret ?_
  refine Go.Sl.ret2 rfl (Go.Sl.res_cell rfl (Go.Sl.Var.atN Ty.ag30 (.there (.there .here)) Go.Sl.GetN.all (by first | rfl | assumption))) (Go.Sl.res_tmp rfl) ?_
  rotate_left
  · rw [show m.give l tok = (m, noEntry, 6) from by rw [OwnM.give, if_pos hc13]]
    exact ⟨_, rfl, ⟨ao, cap, cl, rfl, hL⟩, (by first | exact Go.Sl.Cov.refl _ | (intro p; simp only [List.flatten_cons, List.flatten_nil, List.flatten_append, List.append_nil, List.nil_append, Go.Sl.cnt_append, Go.Sl.cnt_cons, Go.Sl.cnt_nil, List.set_cons_zero, List.set_cons_succ, List.length_nil, List.length_cons, Nat.zero_add, List.append]; omega))⟩
  · rw [show m.give l tok = (m, noEntry, 11) from by rw [OwnM.give, if_neg hc13, if_pos hc19]]
    exact ⟨_, rfl, ⟨ao, cap, cl, rfl, hL⟩, (by first | exact Go.Sl.Cov.refl _ | (intro p; simp only [List.flatten_cons, List.flatten_nil, List.flatten_append, List.append_nil, List.nil_append, Go.Sl.cnt_append, Go.Sl.cnt_cons, Go.Sl.cnt_nil, List.set_cons_zero, List.set_cons_succ, List.length_nil, List.length_cons, Nat.zero_add, List.append]; omega))⟩
  · rw [show m.give l tok = (m, noEntry, 18) from by rw [OwnM.give, if_neg hc13, if_neg hc19, if_pos hc24]]
    exact ⟨_, rfl, ⟨ao, cap, cl, rfl, hL⟩, (by first | exact Go.Sl.Cov.refl _ | (intro p; simp only [List.flatten_cons, List.flatten_nil, List.flatten_append, List.append_nil, List.nil_append, Go.Sl.cnt_append, Go.Sl.cnt_cons, Go.Sl.cnt_nil, List.set_cons_zero, List.set_cons_succ, List.length_nil, List.length_cons, Nat.zero_add, List.append]; omega))⟩
  · rw [show m.give l tok = _ from by rw [OwnM.give, if_neg hc13, if_neg hc19, if_neg (by simp [hc24])]]
    exact ⟨_, rfl, ⟨ao51, cap51, c51, rfl, hL51⟩, (by first | exact Go.Sl.Cov.refl _ | (intro p; simp only [List.flatten_cons, List.flatten_nil, List.flatten_append, List.append_nil, List.nil_append, Go.Sl.cnt_append, Go.Sl.cnt_cons, Go.Sl.cnt_nil, List.set_cons_zero, List.set_cons_succ, List.length_nil, List.length_cons, Nat.zero_add, List.append]; omega))⟩

def OwnM.retire (m : OwnM) (seq : Int) (by_ : List UInt8) : OwnM × Int :=
  if m.next ≤ seq then (m, 10)
  else if idxF (fun e : Entry => decide (e.seq = seq)) m.l < 0 then (m, 0)
  else if (findE seq m.l).id = str by_ then (m, 25)
  else ({ m with l := m.l.take (idxF (fun e : Entry => decide (e.seq = seq)) m.l).toNat ++ m.l.drop ((idxF (fun e : Entry => decide (e.seq = seq)) m.l).toNat + 1) }, 0)

theorem retire_c {B : Nat} {w0 : World} {G : List Hp} {R : Hp → List Hp} {m : OwnM} {b : Nat} {c : Hp} {v : Value} {l : List UInt8} {seq : Int} (hsel : Sel G c R) (hO : OwnAt m b c) (hw : m.WF) (hV : Vw enB (St B w0 G) v l) :
    Go.Sl.Fn Try.prog 22 #[.pointer (some ⟨b, 0, none⟩), .int .u64 seq, v] B w0 G fun u G' => ∃ c' : Hp, u = .int .i64 (m.retire seq l).2 ∧ OwnAt (m.retire seq l).1 b c' ∧ G' = R c' := by
  refine Fn.sel0 hsel fun F hR hF => ?_
  have hV := hV.mono hF
  obtain ⟨ao, cap, cl, rfl, hL⟩ := hO
  obtain ⟨ao2, cap2, rfl, _⟩ := hV.view
  have h1 := hw.most
  have h2 := hw.len
  have h3 := hw.next
  have hbd := idxF_bd (p := fun e : Entry => decide (e.seq = seq)) (l := m.l)
  have hV2 : Vw enB (St B w0 ([(b, Obj.cells #[Value.int .i64 m.most, .int .u64 m.next, .slice ao m.l.length cap] 71)] :: cl :: F)) (.slice ao2 l.length cap2) l := hV.cov (by first | exact Go.Sl.Cov.refl _ | (intro p; simp only [List.flatten_cons, List.flatten_nil, List.flatten_append, List.append_nil, List.nil_append, Go.Sl.cnt_append, Go.Sl.cnt_cons, Go.Sl.cnt_nil, List.set_cons_zero, List.set_cons_succ, List.length_nil, List.length_cons, Nat.zero_add, List.append]; omega))
  refine fn_enter Try.func22 rfl (by kernel_rfl) Try.ntmps22 (by simp) ?_
  refine cw_split ?_
  have hLt : ¬ idxF (fun e : Entry => decide (e.seq = seq)) m.l < 0 → findE seq m.l = m.l[(idxF (fun e : Entry => decide (e.seq = seq)) m.l).toNat]! := fun h => findE_get h
  refine Go.Sl.cw_seq ?_
  refine Go.Sl.cw_region ?_
  refine Go.Sl.ow_val rfl rfl (Go.Sl.v_assign rfl) ?_
  refine Go.Sl.ow_nil ?_
  refine Go.Sl.xw_then ?_
  refine Go.Sl.cw_seq ?_
  refine Go.Sl.cw_seq ?_
  refine Go.Sl.cw_region ?_
  refine Go.Sl.ow_val rfl rfl (Go.Sl.v_move rfl) ?_
  refine Go.Sl.ow_val rfl rfl (Go.Sl.v_eql_nil_some Try.underlying46 rfl) ?_
  refine Go.Sl.ow_nil ?_
  refine Go.Sl.xw_then ?_
  refine Go.Sl.cw_false rfl ?_
  refine Go.Sl.cw_skip ?_
  refine Go.Sl.xw_then ?_
  refine Go.Sl.cw_seq ?_
  refine Go.Sl.cw_seq ?_
  refine Go.Sl.cw_region ?_
  refine Go.Sl.ow_val rfl rfl (Go.Sl.v_move rfl) ?_
  refine Go.Sl.ow_val rfl rfl (Go.Sl.v_move rfl) ?_
  refine Go.Sl.ow_val rfl rfl (Go.Sl.v_nilCheck rfl) ?_
  refine Go.Sl.ow_val rfl rfl (Go.Sl.v_fieldAddr0 Ty.fd71_1 rfl) ?_
  refine Go.Sl.ow_val rfl rfl (Go.Sl.v_load rfl (Go.Sl.Var.at1 Ty.sc27 .here (Go.Sl.GetN.lit rfl))) ?_
  refine Go.Sl.ow_val rfl rfl (Go.Sl.v_geq rfl rfl) ?_
  refine Go.Sl.ow_nil ?_
  refine Go.Sl.xw_then ?_
  refine Go.Sl.cw_dec rfl (fun hc15 => ?_) (fun hc15 => ?_)
  refine Go.Sl.cw_seq ?_
  refine Go.Sl.cw_region ?_
  refine Go.Sl.ow_val rfl rfl (Go.Sl.v_assign rfl) ?_
  refine Go.Sl.ow_nil ?_
  refine Go.Sl.xw_then ?_
  refine Go.Sl.cw_ret ?_
  refine Go.Sl.xw_then_ret ?_
  refine Go.Sl.ret1 rfl (Go.Sl.res_tmp rfl) ?_
  rotate_left
  refine Go.Sl.cw_skip ?_
  refine Go.Sl.xw_then ?_
  refine Go.Sl.cw_seq ?_
  refine Go.Sl.cw_region ?_
  refine Go.Sl.ow_val rfl rfl (Go.Sl.v_move rfl) ?_
  refine Go.Sl.ow_val rfl rfl (Go.Sl.v_nilCheck rfl) ?_
  refine Go.Sl.ow_val rfl rfl (Go.Sl.v_fieldAddr0 Ty.fd71_2 rfl) ?_
  refine Go.Sl.ow_val rfl rfl (Go.Sl.v_load rfl (Go.Sl.Var.at1 Ty.sc31 .here (Go.Sl.GetN.lit rfl))) ?_
  refine Go.Sl.ow_val rfl rfl (Go.Sl.v_move rfl) ?_
  refine Go.Sl.ow_val rfl rfl (Go.Sl.v_call rfl rfl (place_c (hL.vw (by repeat (first | exact Go.Sl.Sub.here | assumption | refine Go.Sl.Sub.there ?_))) (by omega))) ?_
  refine Go.Sl.ow_val rfl rfl (Go.Sl.v_assign rfl) ?_
  refine Go.Sl.ow_nil ?_
  refine Go.Sl.xw_then ?_
  refine Go.Sl.cw_seq ?_
  refine Go.Sl.cw_seq ?_
  refine Go.Sl.cw_region ?_
  refine Go.Sl.ow_val rfl rfl (Go.Sl.v_move rfl) ?_
  refine Go.Sl.ow_val rfl rfl (Go.Sl.v_lss rfl rfl) ?_
  refine Go.Sl.ow_nil ?_
  refine Go.Sl.xw_then ?_
  refine Go.Sl.cw_dec rfl (fun hc23 => ?_) (fun hc23 => ?_)
  refine Go.Sl.cw_seq ?_
  refine Go.Sl.cw_region ?_
  refine Go.Sl.ow_val rfl rfl (Go.Sl.v_assign rfl) ?_
  refine Go.Sl.ow_nil ?_
  refine Go.Sl.xw_then ?_
  refine Go.Sl.cw_ret ?_
  refine Go.Sl.xw_then_ret ?_
  refine Go.Sl.ret1 rfl (Go.Sl.res_tmp rfl) ?_
  rotate_left
  refine Go.Sl.cw_skip ?_
  refine Go.Sl.xw_then ?_
  refine Go.Sl.cw_seq ?_
  refine Go.Sl.cw_seq ?_
  refine Go.Sl.cw_quiet Ty.mixed (by decide +kernel) ?_
  refine Go.Sl.kw_val rfl rfl (Go.Sl.v_move rfl) ?_
  refine Go.Sl.kw_val rfl rfl (Go.Sl.v_nilCheck rfl) ?_
  refine Go.Sl.kw_val rfl rfl (Go.Sl.v_fieldAddr0 Ty.fd71_2 rfl) ?_
  refine Go.Sl.kw_val rfl rfl (Go.Sl.v_load rfl (Go.Sl.Var.at1 Ty.sc31 .here (Go.Sl.GetN.lit rfl))) ?_
  refine Go.Sl.kw_val rfl rfl (Go.Sl.v_move rfl) ?_
  refine Go.Sl.kw_val rfl rfl (Go.Sl.v_indexAddr_ls Try.underlying31 (eTy) rfl rfl (by assumption) (Int.toNat_of_nonneg (by omega)).symm (by omega)) ?_
  refine Go.Sl.kw_val rfl rfl (Go.Sl.v_fieldAddr Ty.fd30_1 rfl) ?_
  refine Go.Sl.kw_val rfl rfl (Go.Sl.v_load rfl (Go.Sl.Vw.fld1 (eTy) Ty.sc9 (Go.Sl.Ls.vw (by assumption) (by repeat (first | exact Go.Sl.Sub.here | assumption | refine Go.Sl.Sub.there ?_))) (by omega) rfl)) ?_
  refine Go.Sl.kw_val rfl rfl (Go.Sl.v_move rfl) ?_
  refine Go.Sl.kw_val rfl rfl (Go.Sl.v_str Try.underlying9 Try.underlying26 Try.underlying5 rfl ((by assumption))) ?_
  refine Go.Sl.kw_val rfl rfl (Go.Sl.v_eqlS rfl rfl) ?_
  refine Go.Sl.kw_nil ?_
  refine Go.Sl.xw_then ?_
  refine Go.Sl.cw_dec rfl (fun hc34 => ?_) (fun hc34 => ?_)
  refine Go.Sl.cw_seq ?_
  refine Go.Sl.cw_region ?_
  refine Go.Sl.ow_val rfl rfl (Go.Sl.v_assign rfl) ?_
  refine Go.Sl.ow_nil ?_
  refine Go.Sl.xw_then ?_
  refine Go.Sl.cw_ret ?_
  refine Go.Sl.xw_then_ret ?_
  refine Go.Sl.ret1 rfl (Go.Sl.res_tmp rfl) ?_
  rotate_left
  refine Go.Sl.cw_skip ?_
  refine Go.Sl.xw_then ?_
  refine Go.Sl.cw_seq ?_
  refine Go.Sl.cw_region ?_
  refine Go.Sl.ow_val rfl rfl (Go.Sl.v_move rfl) ?_
  refine Go.Sl.ow_val rfl rfl (Go.Sl.v_move rfl) ?_
  refine Go.Sl.ow_val rfl rfl (Go.Sl.v_nilCheck rfl) ?_
  refine Go.Sl.ow_val rfl rfl (Go.Sl.v_fieldAddr0 Ty.fd71_2 rfl) ?_
  refine Go.Sl.ow_val rfl rfl (Go.Sl.v_load rfl (Go.Sl.Var.at1 Ty.sc31 .here (Go.Sl.GetN.lit rfl))) ?_
  refine Go.Sl.ow_val rfl rfl (Go.Sl.v_move rfl) ?_
  refine Go.Sl.ow_val rfl rfl (Go.Sl.v_move rfl) ?_
  refine Go.Sl.ow_val rfl rfl (Go.Sl.v_add rfl rfl (Go.Sl.nw_i64 (by omega) (by omega))) ?_
  (refine Go.Sl.ow_call rfl rfl rfl rfl (deleteE_c (i := (idxF (fun e : Entry => decide (e.seq = seq)) m.l).toNat) (j := (idxF (fun e : Entry => decide (e.seq = seq)) m.l).toNat + 1) (by omega) (by omega) (by repeat (first | exact Go.Sl.Sel.here | apply Go.Sl.Sel.there)) hL (by omega) (by omega) (by omega)) ?_; rintro _ _ ⟨x43, rfl, hq43, rfl⟩)
  refine Go.Sl.ow_val rfl rfl (Go.Sl.v_nilCheck rfl) ?_
  refine Go.Sl.ow_val rfl rfl (Go.Sl.v_fieldAddr0 Ty.fd71_2 rfl) ?_
  refine Go.Sl.ow_store1 rfl rfl rfl rfl Ty.sc31 .here (Go.Sl.SetN.one (by first | decide | exact Nat.le_of_ble_eq_true rfl)) ?_
  refine Go.Sl.ow_nil ?_
  refine Go.Sl.xw_then ?_
  refine Go.Sl.cw_seq ?_
  refine Go.Sl.cw_region ?_
  refine Go.Sl.ow_val rfl rfl (Go.Sl.v_assign rfl) ?_
  refine Go.Sl.ow_nil ?_
  refine Go.Sl.xw_then ?_
  refine Go.Sl.cw_ret ?_
  refine Go.Sl.ret1 rfl (Go.Sl.res_tmp rfl) ?_
  rotate_left
  · rw [show m.retire seq l = (m, 10) from by rw [OwnM.retire, if_pos hc15]]
    exact ⟨_, rfl, ⟨ao, cap, cl, rfl, hL⟩, (by first | exact Go.Sl.Cov.refl _ | (intro p; simp only [List.flatten_cons, List.flatten_nil, List.flatten_append, List.append_nil, List.nil_append, Go.Sl.cnt_append, Go.Sl.cnt_cons, Go.Sl.cnt_nil, List.set_cons_zero, List.set_cons_succ, List.length_nil, List.length_cons, Nat.zero_add, List.append]; omega))⟩
  · rw [show m.retire seq l = (m, 0) from by rw [OwnM.retire, if_neg hc15, if_pos hc23]]
    exact ⟨_, rfl, ⟨ao, cap, cl, rfl, hL⟩, (by first | exact Go.Sl.Cov.refl _ | (intro p; simp only [List.flatten_cons, List.flatten_nil, List.flatten_append, List.append_nil, List.nil_append, Go.Sl.cnt_append, Go.Sl.cnt_cons, Go.Sl.cnt_nil, List.set_cons_zero, List.set_cons_succ, List.length_nil, List.length_cons, Nat.zero_add, List.append]; omega))⟩
  · rw [show m.retire seq l = (m, 25) from by rw [OwnM.retire, if_neg hc15, if_neg hc23, if_pos (by rw [hLt hc23, getElem!_pos m.l _ (by omega)]; exact hc34)]]
    exact ⟨_, rfl, ⟨ao, cap, cl, rfl, hL⟩, (by first | exact Go.Sl.Cov.refl _ | (intro p; simp only [List.flatten_cons, List.flatten_nil, List.flatten_append, List.append_nil, List.nil_append, Go.Sl.cnt_append, Go.Sl.cnt_cons, Go.Sl.cnt_nil, List.set_cons_zero, List.set_cons_succ, List.length_nil, List.length_cons, Nat.zero_add, List.append]; omega))⟩
  · rw [show m.retire seq l = _ from by rw [OwnM.retire, if_neg hc15, if_neg hc23, if_neg (by rw [hLt hc23, getElem!_pos m.l _ (by omega)]; exact hc34)]]
    exact ⟨_, rfl, ⟨x43.1, x43.2.1, x43.2.2, rfl, hq43⟩, (by first | exact Go.Sl.Cov.refl _ | (intro p; simp only [List.flatten_cons, List.flatten_nil, List.flatten_append, List.append_nil, List.nil_append, Go.Sl.cnt_append, Go.Sl.cnt_cons, Go.Sl.cnt_nil, List.set_cons_zero, List.set_cons_succ, List.length_nil, List.length_cons, Nat.zero_add, List.append]; omega))⟩
end Go.Proofs.Ytfilpenkihdjiaa
