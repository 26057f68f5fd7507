/- What the methods of ids.Other do, each as a contract. Conditions: numbers fit their types, lists are short. -/
import Derived.Test.YtfilpenkihdjiaaOwn
namespace Go.Proofs.Ytfilpenkihdjiaa
open Go Go.Sl Go.Proofs
set_option linter.unusedVariables false
set_option linter.unusedSimpArgs false

theorem run_part_sc {e : TypeId} {xs : List Value} {i : Nat} {v : Value} (he : Scalar Try.prog e) (h : xs[i]? = some v) (w : World) : (part e xs.toArray i).run Try.prog w = .ok v w := by
  have h1 := he.agg w
  simp [part, Sem.run_bind, h1, h]
theorem run_part_ag {e n : Nat} {xs : List Value} {i : Nat} (he : Agg Try.prog e n) (w : World) : (part e xs.toArray i).run Try.prog w = .ok (.agg (xs.toArray.extract i (i + n))) w := by
  have h1 := he.agg w
  have h2 := Go.Sl.run_sizeOf (P := Try.prog) he.size w
  simp [part, Sem.run_bind, h1, h2]

theorem eqFields_step {P : Program} {d : Nat} {xs ys : Array Value} {f : Field} {fs : List Field} {a b : Value} {r : Bool} {w : World} (hn : f.name ≠ "_") (ha : (part f.type xs f.offset).run P w = .ok a w) (hb : (part f.type ys f.offset).run P w = .ok b w) (hr : (Op.equalIn d f.type a b).run P w = .ok r w) :
    (Op.eqFields d xs ys (f :: fs)).run P w = if r = true then (Op.eqFields d xs ys fs).run P w else .ok false w := by
  rw [Op.eqFields, if_pos hn]
  rw [Sem.run_bind, ha]
  simp only [Result.andThen_ok]
  rw [Sem.run_bind, hb]
  simp only [Result.andThen_ok]
  rw [Sem.run_bind, hr]
  simp only [Result.andThen_ok]
  cases r
  · rw [if_pos (by rfl), if_neg (by decide)]; rfl
  · rw [if_neg (by decide), if_pos rfl]
theorem eqFields_nil {P : Program} {d : Nat} {xs ys : Array Value} {w : World} : (Op.eqFields d xs ys []).run P w = .ok true w := rfl

theorem eqE_d (d : Nat) {s s' : Int} {i i' : ByteArray} {t t' : List Int} (ht : t.length = 16) (ht' : t'.length = 16) (w : World) :
    (Op.equalIn (d + 3) 30 (.agg (Entry.cells ⟨s, i, t⟩).toArray) (.agg (Entry.cells ⟨s', i', t'⟩).toArray)).run Try.prog w = .ok (decide (s = s') && (decide (i = i') && decide (t = t'))) w := by
  have h0 := run_equalIn_struct (P := Try.prog) w (d + 2) 30 (Entry.cells ⟨s, i, t⟩).toArray (Entry.cells ⟨s', i', t'⟩).toArray (by kernel_rfl) (by kernel_rfl)
  refine h0.trans ?_
  simp only [Program.fieldsOf, Try.underlying30]
  have e1 : (Array.extract (Entry.cells ⟨s, i, t⟩).toArray 2 (2 + 16)) = (t.map (Value.int .u8)).toArray := by
    simp [Entry.cells]; exact List.take_of_length_le (by simp [ht])
  have e2 : (Array.extract (Entry.cells ⟨s', i', t'⟩).toArray 2 (2 + 16)) = (t'.map (Value.int .u8)).toArray := by
    simp [Entry.cells]; exact List.take_of_length_le (by simp [ht'])
  have p1 := run_part_sc (xs := Entry.cells ⟨s, i, t⟩) (i := 0) (v := .int .u64 s) Ty.sc27 rfl w
  have p2 := run_part_sc (xs := Entry.cells ⟨s', i', t'⟩) (i := 0) (v := .int .u64 s') Ty.sc27 rfl w
  have p3 := run_part_sc (xs := Entry.cells ⟨s, i, t⟩) (i := 1) (v := .string i) Ty.sc9 rfl w
  have p4 := run_part_sc (xs := Entry.cells ⟨s', i', t'⟩) (i := 1) (v := .string i') Ty.sc9 rfl w
  have p5 := run_part_ag (xs := Entry.cells ⟨s, i, t⟩) (i := 2) Ty.ag28 w
  have p6 := run_part_ag (xs := Entry.cells ⟨s', i', t'⟩) (i := 2) Ty.ag28 w
  rw [e1] at p5
  rw [e2] at p6
  have q1 : (Op.equalIn (d + 2) 27 (.int .u64 s) (.int .u64 s')).run Try.prog w = .ok (s == s') w := run_equalIn_int (P := Try.prog) w (d + 1) 27 .u64 .u64 s s' Try.underlying27
  have q2 : (Op.equalIn (d + 2) 9 (.string i) (.string i')).run Try.prog w = .ok (i.toList == i'.toList) w := run_equalIn_string (P := Try.prog) w (d + 1) 9 i i' Try.underlying9
  have q3 := run_equalIn_ints (P := Try.prog) d Try.underlying28 Try.underlying5 Ty.el28 t t' ht ht' w
  rw [ba_beq] at q2
  generalize hx : (Entry.cells ⟨s, i, t⟩).toArray = xs at *
  generalize hy : (Entry.cells ⟨s', i', t'⟩).toArray = ys at *
  generalize hX : (Value.agg (t.map (Value.int .u8)).toArray) = X at *
  generalize hY : (Value.agg (t'.map (Value.int .u8)).toArray) = Y at *
  refine (eqFields_step (by decide) p1 p2 q1).trans ?_
  rw [eqFields_step (by decide) p3 p4 q2, eqFields_step (by decide) p5 p6 q3, eqFields_nil]
  rw [beq_dec]
  cases decide (s = s') <;> cases decide (i = i') <;> cases decide (t = t') <;> rfl

theorem eqE {a b : Entry} (ha : enE.ok a) (hb : enE.ok b) : ∀ w : World, (Op.equal 30 (.agg a.cells.toArray) (.agg b.cells.toArray)).run Try.prog w = .ok (decide (a = b)) w := fun w => by
  obtain ⟨s, i, t⟩ := a
  obtain ⟨s', i', t'⟩ := b
  have h2 : decide ((⟨s, i, t⟩ : Entry) = ⟨s', i', t'⟩) = (decide (s = s') && (decide (i = i') && decide (t = t'))) := by
    by_cases c1 : s = s' <;> by_cases c2 : i = i' <;> by_cases c3 : t = t' <;> simp [c1, c2, c3]
  rw [h2]
  unfold Op.equal Op.maxDepth
  exact eqE_d 9997 (s := s) (s' := s') (i := i) (i' := i') ha.2.2 hb.2.2 w

structure OtherM where
  most : Int
  l : List Entry
  now : Int
  prior : Int
  retired : List Int

structure OtherM.WF (m : OtherM) : Prop where
  most : 1 ≤ m.most ∧ m.most ≤ 4
  len : (m.l.length : Int) ≤ m.most
  now : 0 ≤ m.now ∧ m.now ≤ 18446744073709551615
  prior : 0 ≤ m.prior ∧ m.prior ≤ 18446744073709551615
  ret : m.retired.length ≤ 1000

def OtherAt (m : OtherM) (b : Nat) (c : Hp) : Prop := ∃ ao cap cl ao2 cap2 cr, c = [(b, .cells [.int .i64 m.most, .slice ao m.l.length cap, .int .u64 m.now, .int .u64 m.prior, .slice ao2 m.retired.length cap2].toArray 60 (0, 0))] ++ (cl ++ cr) ∧ Ls enE 30 (.slice ao m.l.length cap) cl m.l ∧ Ls enU 27 (.slice ao2 m.retired.length cap2) cr m.retired

theorem b_other {m : Int} {v : Option Addr} {k k' : Nat} : Build Try.prog 60 #[(0, .int .i64 m), (1, .slice v k k')] (.agg [Value.int .i64 m, .slice v k k', .int .u64 0, .int .u64 0, .slice none 0 0].toArray) := fun w => by kernel_rfl

theorem newOther_c {B : Nat} {w0 : World} {G : List Hp} {v : Value} {l : List UInt8} {most : Int} (hV : Vw enB (St B w0 G) v l) :
    Go.Sl.Fn Try.prog 8 #[v, .int .i64 most] B w0 G fun u G' => ∃ x : Nat × Hp, u = .pointer (some ⟨x.1, 0, none⟩) ∧ OtherAt ⟨min (max most 1) 4, [firstE (str l)], 0, 0, []⟩ x.1 x.2 ∧ G' = [x.2] ++ G := by
  refine Fn.new ?_
  refine fn_enter Try.func8 rfl (by kernel_rfl) Try.ntmps8 (by simp) ?_
  have hok := ok_first (str l)
  refine Go.Sl.cw_seq ?_
  refine Go.Sl.cw_region ?_
  refine Go.Sl.ow_val rfl rfl (Go.Sl.v_assign rfl) ?_
  refine Go.Sl.ow_nil ?_
  refine Go.Sl.xw_then ?_
  refine Go.Sl.cw_seq ?_
  refine Go.Sl.cw_region ?_
  refine Go.Sl.ow_val rfl rfl (Go.Sl.v_move rfl) ?_
  refine Go.Sl.ow_val rfl rfl (Go.Sl.v_max rfl rfl) ?_
  refine Go.Sl.ow_val rfl rfl (Go.Sl.v_min rfl rfl) ?_
  refine Go.Sl.ow_val rfl rfl (Go.Sl.v_move rfl) ?_
  refine Go.Sl.ow_val rfl rfl (Go.Sl.v_str Try.underlying9 Try.underlying26 Try.underlying5 rfl (hV)) ?_
  refine Go.Sl.ow_val rfl rfl (Go.Sl.v_build rfl (b_first)) ?_
  (refine Go.Sl.ow_buildL (es := [(firstE (str l))]) rfl rfl Try.underlying31 Ty.em31 (eTy) rfl rfl (by simp [*]) (by simp only [List.length_cons, List.length_nil]; decide) ?_; intro ao11 c11 hL11)
  refine ow_val rfl rfl (v_build rfl (b_other)) ?_
  (refine Go.Sl.ow_box rfl rfl rfl rfl ?_; intro b13)
  refine Go.Sl.ow_val rfl rfl (Go.Sl.v_assign rfl) ?_
  refine Go.Sl.ow_nil ?_
  refine Go.Sl.xw_then ?_
  refine Go.Sl.cw_ret ?_
  refine Go.Sl.ret1 rfl (Go.Sl.res_tmp rfl) ?_
  exact ⟨(b13, [(b13, _)] ++ (c11 ++ [])), rfl, ⟨ao11, [firstE (str l)].length, c11, none, 0, [], rfl, hL11, Ls.nil⟩, (by first | exact Go.Sl.Cov.refl _ | (intro p; simp only [List.flatten_cons, List.flatten_nil, List.flatten_append, List.append_nil, List.nil_append, Go.Sl.cnt_append, Go.Sl.cnt_cons, Go.Sl.cnt_nil, List.set_cons_zero, List.set_cons_succ, List.length_nil, List.length_cons, Nat.zero_add, List.append]; omega))⟩

def clashP (e x : Entry) : Bool := decide (x ≠ e) && (decide (x.seq = e.seq) || decide (x.id = e.id))
theorem clashes1_c {B : Nat} {w0 : World} {G : List Hp} {e x : Entry} {b : Nat} (he : enE.ok e) (hx : enE.ok x) (hb : Sub [(b, .cells e.cells.toArray 30 (0, 0))] G) :
    Go.Sl.Fn Try.prog 41 #[enE.val x, .pointer (some ⟨b, 0, none⟩)] B w0 G fun u G' => u = .bool (clashP e x) ∧ G' = G := by
  refine Fn.pure ?_
  have h1 := len18 _ he
  have h2 := len18 _ hx
  have h3 := one18 _ he
  refine fn_enter Try.func41 rfl (by kernel_rfl) Try.ntmps41 (by simp) ?_
  refine Go.Sl.cw_seq ?_
  refine Go.Sl.cw_region ?_
  (refine Go.Sl.ow_box rfl rfl rfl rfl ?_; intro b2)
  refine Go.Sl.ow_val rfl rfl (Go.Sl.v_assign rfl) ?_
  refine Go.Sl.ow_nil ?_
  refine Go.Sl.xw_then ?_
  refine Go.Sl.cw_seq ?_
  refine Go.Sl.cw_region ?_
  refine Go.Sl.ow_val rfl rfl (Go.Sl.v_load rfl (Go.Sl.Var.atN Ty.ag30 .here Go.Sl.GetN.all (by first | rfl | assumption))) ?_
  refine Go.Sl.ow_val rfl rfl (Go.Sl.v_load rfl (Go.Sl.Var.subN Ty.ag30 (by repeat (first | assumption | refine Go.Sl.Sub.there ?_)) (.head _) Go.Sl.GetN.all (by first | rfl | assumption))) ?_
  refine Go.Sl.ow_val rfl rfl (Go.Sl.v_neqA rfl rfl Ty.gt30 (eqE hx he)) ?_
  refine Go.Sl.ow_val rfl rfl (Go.Sl.v_move rfl) ?_
  refine Go.Sl.ow_dec 7 rfl (fun hc7 => ?_) (fun hc7 => ?_)
  refine Go.Sl.ow_val rfl rfl (Go.Sl.v_fieldAddr0 Ty.fd30_0 rfl) ?_
  refine Go.Sl.ow_val rfl rfl (Go.Sl.v_load rfl (Go.Sl.Var.at1 Ty.sc27 .here (Go.Sl.GetN.lit rfl))) ?_
  refine Go.Sl.ow_val rfl rfl (Go.Sl.v_fieldAddr0 Ty.fd30_0 rfl) ?_
  refine Go.Sl.ow_val rfl rfl (Go.Sl.v_load rfl (Go.Sl.Var.sub1 Ty.sc27 (by repeat (first | assumption | refine Go.Sl.Sub.there ?_)) (.head _) (Go.Sl.GetN.lit rfl))) ?_
  refine Go.Sl.ow_val rfl rfl (Go.Sl.v_eql rfl rfl) ?_
  refine Go.Sl.ow_val rfl rfl (Go.Sl.v_move rfl) ?_
  refine Go.Sl.ow_dec 13 rfl (fun hc13 => ?_) (fun hc13 => ?_)
  refine Go.Sl.ow_skip rfl rfl ?_
  refine Go.Sl.ow_skip rfl rfl ?_
  refine Go.Sl.ow_skip rfl rfl ?_
  refine Go.Sl.ow_skip rfl rfl ?_
  refine Go.Sl.ow_skip rfl rfl ?_
  refine Go.Sl.ow_val rfl rfl (Go.Sl.v_pick_true rfl rfl) ?_
  refine Go.Sl.ow_val rfl rfl (Go.Sl.v_pick_true rfl rfl) ?_
  refine Go.Sl.ow_val rfl rfl (Go.Sl.v_assign rfl) ?_
  refine Go.Sl.ow_nil ?_
  refine Go.Sl.xw_then ?_
  refine Go.Sl.cw_ret ?_
  refine Go.Sl.ret1 rfl (Go.Sl.res_tmp rfl) ?_
  rotate_left
  refine Go.Sl.ow_val rfl rfl (Go.Sl.v_fieldAddr0 Ty.fd30_1 rfl) ?_
  refine Go.Sl.ow_val rfl rfl (Go.Sl.v_load rfl (Go.Sl.Var.at1 Ty.sc9 .here (Go.Sl.GetN.lit rfl))) ?_
  refine Go.Sl.ow_val rfl rfl (Go.Sl.v_fieldAddr0 Ty.fd30_1 rfl) ?_
  refine Go.Sl.ow_val rfl rfl (Go.Sl.v_load rfl (Go.Sl.Var.sub1 Ty.sc9 (by repeat (first | assumption | refine Go.Sl.Sub.there ?_)) (.head _) (Go.Sl.GetN.lit rfl))) ?_
  refine Go.Sl.ow_val rfl rfl (Go.Sl.v_eqlS rfl rfl) ?_
  refine Go.Sl.ow_val rfl rfl (Go.Sl.v_pick_false rfl rfl) ?_
  refine Go.Sl.ow_val rfl rfl (Go.Sl.v_pick_true rfl rfl) ?_
  refine Go.Sl.ow_val rfl rfl (Go.Sl.v_assign rfl) ?_
  refine Go.Sl.ow_nil ?_
  refine Go.Sl.xw_then ?_
  refine Go.Sl.cw_ret ?_
  refine Go.Sl.ret1 rfl (Go.Sl.res_tmp rfl) ?_
  rotate_left
  refine Go.Sl.ow_skip rfl rfl ?_
  refine Go.Sl.ow_skip rfl rfl ?_
  refine Go.Sl.ow_skip rfl rfl ?_
  refine Go.Sl.ow_skip rfl rfl ?_
  refine Go.Sl.ow_skip rfl rfl ?_
  refine Go.Sl.ow_skip rfl rfl ?_
  refine Go.Sl.ow_skip rfl rfl ?_
  refine Go.Sl.ow_skip rfl rfl ?_
  refine Go.Sl.ow_skip rfl rfl ?_
  refine Go.Sl.ow_skip rfl rfl ?_
  refine Go.Sl.ow_skip rfl rfl ?_
  refine Go.Sl.ow_skip rfl rfl ?_
  refine Go.Sl.ow_val rfl rfl (Go.Sl.v_pick_false rfl rfl) ?_
  refine Go.Sl.ow_val rfl rfl (Go.Sl.v_assign rfl) ?_
  refine Go.Sl.ow_nil ?_
  refine Go.Sl.xw_then ?_
  refine Go.Sl.cw_ret ?_
  refine Go.Sl.ret1 rfl (Go.Sl.res_tmp rfl) ?_
  rotate_left
  · exact ⟨by simp [clashP, hc7, hc13], (by first | exact Go.Sl.Cov.refl _ | (intro p; simp only [List.flatten_cons, List.flatten_nil, List.flatten_append, List.append_nil, List.nil_append, Go.Sl.cnt_append, Go.Sl.cnt_cons, Go.Sl.cnt_nil, List.set_cons_zero, List.set_cons_succ, List.length_nil, List.length_cons, Nat.zero_add, List.append]; omega))⟩
  · exact ⟨by simp [clashP, hc7, hc13], (by first | exact Go.Sl.Cov.refl _ | (intro p; simp only [List.flatten_cons, List.flatten_nil, List.flatten_append, List.append_nil, List.nil_append, Go.Sl.cnt_append, Go.Sl.cnt_cons, Go.Sl.cnt_nil, List.set_cons_zero, List.set_cons_succ, List.length_nil, List.length_cons, Nat.zero_add, List.append]; omega))⟩
  · exact ⟨by simp only [Classical.not_not] at hc7; simp [clashP, hc7], (by first | exact Go.Sl.Cov.refl _ | (intro p; simp only [List.flatten_cons, List.flatten_nil, List.flatten_append, List.append_nil, List.nil_append, Go.Sl.cnt_append, Go.Sl.cnt_cons, Go.Sl.cnt_nil, List.set_cons_zero, List.set_cons_succ, List.length_nil, List.length_cons, Nat.zero_add, List.append]; omega))⟩

theorem clashes_c {B : Nat} {w0 : World} {G : List Hp} {m : OtherM} {b : Nat} {c : Hp} {e : Entry} (hO : OtherAt m b c) (hs : Sub c G) (hw : m.WF) (he : enE.ok e) :
    Go.Sl.Fn Try.prog 29 #[.pointer (some ⟨b, 0, none⟩), enE.val e] B w0 G fun u G' => u = .bool (m.l.any (clashP e)) ∧ G' = G := by
  refine Fn.pure ?_
  obtain ⟨ao, cap, cl, ao2, cap2, cr, rfl, hL, hR⟩ := hO
  have hs1 := hs.left
  have hs2 := hs.right.left
  have h1 := hw.most
  have h2 := hw.len
  refine fn_enter Try.func29 rfl (by kernel_rfl) Try.ntmps29 (by simp) ?_
  refine Go.Sl.cw_seq ?_
  refine Go.Sl.cw_region ?_
  (refine Go.Sl.ow_box rfl rfl rfl rfl ?_; intro b3)
  refine Go.Sl.ow_val rfl rfl (Go.Sl.v_assign rfl) ?_
  refine Go.Sl.ow_nil ?_
  refine Go.Sl.xw_then ?_
  refine Go.Sl.cw_seq ?_
  refine Go.Sl.cw_region ?_
  refine Go.Sl.ow_val rfl rfl (Go.Sl.v_move rfl) ?_
  refine Go.Sl.ow_val rfl rfl (Go.Sl.v_nilCheck rfl) ?_
  refine Go.Sl.ow_val rfl rfl (Go.Sl.v_fieldAddr0 Ty.fd60_1 rfl) ?_
  refine Go.Sl.ow_val rfl rfl (Go.Sl.v_load rfl (Go.Sl.Var.sub1 Ty.sc31 (by repeat (first | assumption | refine Go.Sl.Sub.there ?_)) (.head _) (Go.Sl.GetN.lit rfl))) ?_
  refine Go.Sl.ow_val rfl rfl (Go.Sl.v_makeFunc rfl rfl) ?_
  refine Go.Sl.ow_val rfl rfl (Go.Sl.v_call rfl rfl (containsFuncE_c (p := clashP e) (hL.vw hs2.there) (by omega) (fun a ha => clashes1_c he (hL.ok a ha) Sub.here))) ?_
  refine Go.Sl.ow_val rfl rfl (Go.Sl.v_assign rfl) ?_
  refine Go.Sl.ow_nil ?_
  refine Go.Sl.xw_then ?_
  refine Go.Sl.cw_ret ?_
  refine Go.Sl.ret1 rfl (Go.Sl.res_tmp rfl) ?_
  exact ⟨rfl, (by first | exact Go.Sl.Cov.refl _ | (intro p; simp only [List.flatten_cons, List.flatten_nil, List.flatten_append, List.append_nil, List.nil_append, Go.Sl.cnt_append, Go.Sl.cnt_cons, Go.Sl.cnt_nil, List.set_cons_zero, List.set_cons_succ, List.length_nil, List.length_cons, Nat.zero_add, List.append]; omega))⟩

theorem otherList_c {B : Nat} {w0 : World} {G : List Hp} {m : OtherM} {b : Nat} {c : Hp} (hO : OtherAt m b c) (hs : Sub c G) (hw : m.WF) :
    Go.Sl.Fn Try.prog 18 #[.pointer (some ⟨b, 0, none⟩)] B w0 G fun u G' => ∃ x : Option Addr × Nat × Hp, u = .slice x.1 m.l.length x.2.1 ∧ Ls enE 30 (.slice x.1 m.l.length x.2.1) x.2.2 m.l ∧ G' = [x.2.2] ++ G := by
  obtain ⟨ao, cap, cl, ao2, cap2, cr, rfl, hL, hR⟩ := hO
  refine Fn.new ?_
  have hs1 := hs.left
  have hs2 := hs.right.left
  have h1 := hw.most
  have h2 := hw.len
  refine fn_enter Try.func18 rfl (by kernel_rfl) Try.ntmps18 (by simp) ?_
  refine Go.Sl.cw_seq ?_
  refine Go.Sl.cw_region ?_
  refine Go.Sl.ow_val rfl rfl (Go.Sl.v_assign rfl) ?_
  refine Go.Sl.ow_nil ?_
  refine Go.Sl.xw_then ?_
  refine Go.Sl.cw_seq ?_
  refine Go.Sl.cw_seq ?_
  refine Go.Sl.cw_region ?_
  refine Go.Sl.ow_val rfl rfl (Go.Sl.v_move rfl) ?_
  refine Go.Sl.ow_val rfl rfl (Go.Sl.v_eql_nil_some Try.underlying24 rfl) ?_
  refine Go.Sl.ow_nil ?_
  refine Go.Sl.xw_then ?_
  refine Go.Sl.cw_false rfl ?_
  refine Go.Sl.cw_skip ?_
  refine Go.Sl.xw_then ?_
  refine Go.Sl.cw_seq ?_
  refine Go.Sl.cw_region ?_
  refine Go.Sl.ow_val rfl rfl (Go.Sl.v_move rfl) ?_
  refine Go.Sl.ow_val rfl rfl (Go.Sl.v_nilCheck rfl) ?_
  refine Go.Sl.ow_val rfl rfl (Go.Sl.v_fieldAddr0 Ty.fd60_1 rfl) ?_
  refine Go.Sl.ow_val rfl rfl (Go.Sl.v_load rfl (Go.Sl.Var.sub1 Ty.sc31 (by repeat (first | assumption | refine Go.Sl.Sub.there ?_)) (.head _) (Go.Sl.GetN.lit rfl))) ?_
  (refine Go.Sl.ow_call rfl rfl rfl rfl (cloneE_c (hL.vw hs2) (by omega)) ?_; rintro _ _ ⟨x9, rfl, hq9, rfl⟩)
  refine Go.Sl.ow_val rfl rfl (Go.Sl.v_assign rfl) ?_
  refine Go.Sl.ow_nil ?_
  refine Go.Sl.xw_then ?_
  refine Go.Sl.cw_ret ?_
  refine Go.Sl.ret1 rfl (Go.Sl.res_tmp rfl) ?_
  exact ⟨x9, rfl, hq9, (by first | exact Go.Sl.Cov.refl _ | (intro p; simp only [List.flatten_cons, List.flatten_nil, List.flatten_append, List.append_nil, List.nil_append, Go.Sl.cnt_append, Go.Sl.cnt_cons, Go.Sl.cnt_nil, List.set_cons_zero, List.set_cons_succ, List.length_nil, List.length_cons, Nat.zero_add, List.append]; omega))⟩

theorem retired_c {B : Nat} {w0 : World} {G : List Hp} {m : OtherM} {b : Nat} {c : Hp} (hO : OtherAt m b c) (hs : Sub c G) (hw : m.WF) :
    Go.Sl.Fn Try.prog 16 #[.pointer (some ⟨b, 0, none⟩)] B w0 G fun u G' => ∃ x : Option Addr × Nat × Hp, u = .slice x.1 m.retired.length x.2.1 ∧ Ls enU 27 (.slice x.1 m.retired.length x.2.1) x.2.2 m.retired ∧ G' = [x.2.2] ++ G := by
  obtain ⟨ao, cap, cl, ao2, cap2, cr, rfl, hL, hR⟩ := hO
  refine Fn.new ?_
  have hs1 := hs.left
  have hs3 := hs.right.right
  have h1 := hw.ret
  refine fn_enter Try.func16 rfl (by kernel_rfl) Try.ntmps16 (by simp) ?_
  refine Go.Sl.cw_seq ?_
  refine Go.Sl.cw_region ?_
  refine Go.Sl.ow_val rfl rfl (Go.Sl.v_assign rfl) ?_
  refine Go.Sl.ow_nil ?_
  refine Go.Sl.xw_then ?_
  refine Go.Sl.cw_seq ?_
  refine Go.Sl.cw_seq ?_
  refine Go.Sl.cw_region ?_
  refine Go.Sl.ow_val rfl rfl (Go.Sl.v_move rfl) ?_
  refine Go.Sl.ow_val rfl rfl (Go.Sl.v_eql_nil_some Try.underlying24 rfl) ?_
  refine Go.Sl.ow_nil ?_
  refine Go.Sl.xw_then ?_
  refine Go.Sl.cw_false rfl ?_
  refine Go.Sl.cw_skip ?_
  refine Go.Sl.xw_then ?_
  refine Go.Sl.cw_seq ?_
  refine Go.Sl.cw_region ?_
  refine Go.Sl.ow_val rfl rfl (Go.Sl.v_move rfl) ?_
  refine Go.Sl.ow_val rfl rfl (Go.Sl.v_nilCheck rfl) ?_
  refine Go.Sl.ow_val rfl rfl (Go.Sl.v_fieldAddr0 Ty.fd60_4 rfl) ?_
  refine Go.Sl.ow_val rfl rfl (Go.Sl.v_load rfl (Go.Sl.Var.sub1 Ty.sc32 (by repeat (first | assumption | refine Go.Sl.Sub.there ?_)) (.head _) (Go.Sl.GetN.lit rfl))) ?_
  (refine Go.Sl.ow_call rfl rfl rfl rfl (cloneU_c (hR.vw hs3) (by omega)) ?_; rintro _ _ ⟨x9, rfl, hq9, rfl⟩)
  refine Go.Sl.ow_val rfl rfl (Go.Sl.v_assign rfl) ?_
  refine Go.Sl.ow_nil ?_
  refine Go.Sl.xw_then ?_
  refine Go.Sl.cw_ret ?_
  refine Go.Sl.ret1 rfl (Go.Sl.res_tmp rfl) ?_
  exact ⟨x9, rfl, hq9, (by first | exact Go.Sl.Cov.refl _ | (intro p; simp only [List.flatten_cons, List.flatten_nil, List.flatten_append, List.append_nil, List.nil_append, Go.Sl.cnt_append, Go.Sl.cnt_cons, Go.Sl.cnt_nil, List.set_cons_zero, List.set_cons_succ, List.length_nil, List.length_cons, Nat.zero_add, List.append]; omega))⟩

theorem now_c {B : Nat} {w0 : World} {G : List Hp} {m : OtherM} {b : Nat} {c : Hp} (hO : OtherAt m b c) (hs : Sub c G) (hw : m.WF) :
    Go.Sl.Fn Try.prog 19 #[.pointer (some ⟨b, 0, none⟩)] B w0 G fun u G' => u = enE.val (findE m.now m.l) ∧ G' = G := by
  refine Fn.pure ?_
  obtain ⟨ao, cap, cl, ao2, cap2, cr, rfl, hL, hR⟩ := hO
  have hs1 := hs.left
  have hs2 := hs.right.left
  have h1 := hw.most
  have h2 := hw.len
  have hno := len18 _ ok_no
  have hno1 := one18 _ ok_no
  have hbd := idxF_bd (p := fun e : Entry => decide (e.seq = m.now)) (l := m.l)
  refine fn_enter Try.func19 rfl (by kernel_rfl) Try.ntmps19 (by simp) ?_
  refine Go.Sl.cw_seq ?_
  refine Go.Sl.cw_region ?_
  (refine Go.Sl.ow_alloc rfl rfl Ty.ze30 ?_; intro b2)
  refine Go.Sl.ow_nil ?_
  refine Go.Sl.xw_then ?_
  refine Go.Sl.cw_seq ?_
  refine Go.Sl.cw_seq ?_
  refine Go.Sl.cw_region ?_
  refine Go.Sl.ow_val rfl rfl (Go.Sl.v_move rfl) ?_
  refine Go.Sl.ow_val rfl rfl (Go.Sl.v_eql_nil_some Try.underlying24 rfl) ?_
  refine Go.Sl.ow_nil ?_
  refine Go.Sl.xw_then ?_
  refine Go.Sl.cw_false rfl ?_
  refine Go.Sl.cw_skip ?_
  refine Go.Sl.xw_then ?_
  refine Go.Sl.cw_seq ?_
  refine Go.Sl.cw_quiet Ty.mixed (by decide +kernel) ?_
  refine Go.Sl.kw_val rfl rfl (Go.Sl.v_move rfl) ?_
  refine Go.Sl.kw_val rfl rfl (Go.Sl.v_nilCheck rfl) ?_
  refine Go.Sl.kw_val rfl rfl (Go.Sl.v_fieldAddr0 Ty.fd60_1 rfl) ?_
  refine Go.Sl.kw_val rfl rfl (Go.Sl.v_load rfl (Go.Sl.Var.sub1 Ty.sc31 (by repeat (first | assumption | refine Go.Sl.Sub.there ?_)) (.head _) (Go.Sl.GetN.lit rfl))) ?_
  refine Go.Sl.kw_val rfl rfl (Go.Sl.v_move rfl) ?_
  refine Go.Sl.kw_val rfl rfl (Go.Sl.v_nilCheck rfl) ?_
  refine Go.Sl.kw_val rfl rfl (Go.Sl.v_fieldAddr0 Ty.fd60_2 rfl) ?_
  refine Go.Sl.kw_val rfl rfl (Go.Sl.v_load rfl (Go.Sl.Var.sub1 Ty.sc27 (by repeat (first | assumption | refine Go.Sl.Sub.there ?_)) (.head _) (Go.Sl.GetN.lit rfl))) ?_
  refine Go.Sl.kw_val rfl rfl (Go.Sl.v_call rfl rfl (place_c (hL.vw hs2.there) (by omega))) ?_
  refine Go.Sl.kw_val rfl rfl (Go.Sl.v_assign rfl) ?_
  refine Go.Sl.kw_nil ?_
  refine Go.Sl.xw_then ?_
  refine Go.Sl.cw_seq ?_
  refine Go.Sl.cw_seq ?_
  refine Go.Sl.cw_region ?_
  refine Go.Sl.ow_val rfl rfl (Go.Sl.v_move rfl) ?_
  refine Go.Sl.ow_val rfl rfl (Go.Sl.v_lss rfl rfl) ?_
  refine Go.Sl.ow_nil ?_
  refine Go.Sl.xw_then ?_
  refine Go.Sl.cw_dec rfl (fun hc17 => ?_) (fun hc17 => ?_)
  refine Go.Sl.cw_seq ?_
  refine Go.Sl.cw_region ?_
  refine Go.Sl.ow_val rfl rfl (Go.Sl.v_build rfl (b_entry0)) ?_
  refine Go.Sl.ow_storeE rfl (eTy) rfl rfl .here (by first | rfl | assumption) (ok_no) ?_
  refine Go.Sl.ow_nil ?_
  refine Go.Sl.xw_then ?_
  refine Go.Sl.cw_ret ?_
  refine Go.Sl.xw_then_ret ?_
  refine Go.Sl.ret1 rfl (Go.Sl.res_cell rfl (Go.Sl.Var.atN Ty.ag30 .here Go.Sl.GetN.all (by first | rfl | assumption))) ?_
  rotate_left
  refine Go.Sl.cw_skip ?_
  refine Go.Sl.xw_then ?_
  refine Go.Sl.cw_seq ?_
  refine Go.Sl.cw_region ?_
  refine Go.Sl.ow_val rfl rfl (Go.Sl.v_move rfl) ?_
  refine Go.Sl.ow_val rfl rfl (Go.Sl.v_nilCheck rfl) ?_
  refine Go.Sl.ow_val rfl rfl (Go.Sl.v_fieldAddr0 Ty.fd60_1 rfl) ?_
  refine Go.Sl.ow_val rfl rfl (Go.Sl.v_load rfl (Go.Sl.Var.sub1 Ty.sc31 (by repeat (first | assumption | refine Go.Sl.Sub.there ?_)) (.head _) (Go.Sl.GetN.lit rfl))) ?_
  refine Go.Sl.ow_val rfl rfl (Go.Sl.v_move rfl) ?_
  refine Go.Sl.ow_val rfl rfl (Go.Sl.v_indexAddr_ls Try.underlying31 (eTy) rfl rfl (by assumption) (Int.toNat_of_nonneg (by omega)).symm (by omega)) ?_
  refine Go.Sl.ow_val rfl rfl (Go.Sl.v_load rfl (Go.Sl.Vw.var (eTy) (Go.Sl.Ls.vw (by assumption) (by repeat (first | exact Go.Sl.Sub.here | assumption | refine Go.Sl.Sub.there ?_))) (by omega))) ?_
  refine Go.Sl.ow_storeE rfl (eTy) rfl rfl .here (by first | rfl | assumption) (hL.ok _ (List.getElem_mem _)) ?_
  refine Go.Sl.ow_nil ?_
  refine Go.Sl.xw_then ?_
  refine Go.Sl.cw_ret ?_
  refine Go.Sl.ret1 rfl (Go.Sl.res_cell rfl (Go.Sl.Var.atE (eTy) .here (hL.ok _ (List.getElem_mem _)))) ?_
  rotate_left
  · refine ⟨?_, (by first | exact Go.Sl.Cov.refl _ | (intro p; simp only [List.flatten_cons, List.flatten_nil, List.flatten_append, List.append_nil, List.nil_append, Go.Sl.cnt_append, Go.Sl.cnt_cons, Go.Sl.cnt_nil, List.set_cons_zero, List.set_cons_succ, List.length_nil, List.length_cons, Nat.zero_add, List.append]; omega))⟩
    have hn := idxF_neg (p := fun e : Entry => decide (e.seq = m.now)) (l := m.l) (by omega)
    have h1 : m.l.find? (fun e => decide (e.seq = m.now)) = none := List.find?_eq_none.2 fun e he => by simp [hn e he]
    simp [findE, h1]
    rfl
  · refine ⟨?_, (by first | exact Go.Sl.Cov.refl _ | (intro p; simp only [List.flatten_cons, List.flatten_nil, List.flatten_append, List.append_nil, List.nil_append, Go.Sl.cnt_append, Go.Sl.cnt_cons, Go.Sl.cnt_nil, List.set_cons_zero, List.set_cons_succ, List.length_nil, List.length_cons, Nat.zero_add, List.append]; omega))⟩
    rw [findE_get (seq := m.now) (l := m.l) hc17, getElem!_pos m.l _ (by omega)]

theorem told1_c {B : Nat} {w0 : World} {G : List Hp} {n seq : Int} {b : Nat} (hb : Sub [(b, .cells [Value.int .u64 seq].toArray 27 (0, 0))] G) :
    Go.Sl.Fn Try.prog 37 #[enU.val n, .pointer (some ⟨b, 0, none⟩)] B w0 G fun u G' => u = .bool (decide (n = seq)) ∧ G' = G := by
  refine Fn.pure ?_
  refine fn_enter Try.func37 rfl (by kernel_rfl) Try.ntmps37 (by simp) ?_
  refine Go.Sl.cw_seq ?_
  refine Go.Sl.cw_region ?_
  refine Go.Sl.ow_val rfl rfl (Go.Sl.v_assign rfl) ?_
  refine Go.Sl.ow_nil ?_
  refine Go.Sl.xw_then ?_
  refine Go.Sl.cw_seq ?_
  refine Go.Sl.cw_region ?_
  refine Go.Sl.ow_val rfl rfl (Go.Sl.v_move rfl) ?_
  refine Go.Sl.ow_val rfl rfl (Go.Sl.v_load rfl (Go.Sl.Var.sub1 Ty.sc27 (by repeat (first | assumption | refine Go.Sl.Sub.there ?_)) (.head _) (Go.Sl.GetN.lit rfl))) ?_
  refine Go.Sl.ow_val rfl rfl (Go.Sl.v_eql rfl rfl) ?_
  refine Go.Sl.ow_val rfl rfl (Go.Sl.v_assign rfl) ?_
  refine Go.Sl.ow_nil ?_
  refine Go.Sl.xw_then ?_
  refine Go.Sl.cw_ret ?_
  refine Go.Sl.ret1 rfl (Go.Sl.res_tmp rfl) ?_
  exact ⟨rfl, (by first | exact Go.Sl.Cov.refl _ | (intro p; simp only [List.flatten_cons, List.flatten_nil, List.flatten_append, List.append_nil, List.nil_append, Go.Sl.cnt_append, Go.Sl.cnt_cons, Go.Sl.cnt_nil, List.set_cons_zero, List.set_cons_succ, List.length_nil, List.length_cons, Nat.zero_add, List.append]; omega))⟩

theorem nb1 {b : Bool} (h : (!b) = true) : ¬ b = true := by cases b <;> simp_all
theorem nb2 {b : Bool} (h : (!b) = false) : b = true := by cases b <;> simp_all
def OtherM.told (m : OtherM) (seq : Int) : OtherM := { m with retired := m.retired.filter fun n => !decide (n = seq) }
theorem told_c {B : Nat} {w0 : World} {G : List Hp} {R : Hp → List Hp} {m : OtherM} {b : Nat} {c : Hp} {seq : Int} (hsel : Sel G c R) (hO : OtherAt m b c) (hw : m.WF) :
    Go.Sl.Fn Try.prog 14 #[.pointer (some ⟨b, 0, none⟩), .int .u64 seq] B w0 G fun u G' => ∃ c' : Hp, u = .tuple #[] ∧ OtherAt (m.told seq) b c' ∧ G' = R c' := by
  refine Fn.sel0 hsel fun F hR hF => ?_
  obtain ⟨ao, cap, cl, ao2, cap2, cr, rfl, hL, hLr⟩ := hO
  have h1 := hw.ret
  refine fn_enter Try.func14 rfl (by kernel_rfl) Try.ntmps14 (by simp) ?_
  refine cw_split3 ?_
  refine Go.Sl.cw_seq ?_
  refine Go.Sl.cw_region ?_
  (refine Go.Sl.ow_box rfl rfl rfl rfl ?_; intro b3)
  refine Go.Sl.ow_nil ?_
  refine Go.Sl.xw_then ?_
  refine Go.Sl.cw_seq ?_
  refine Go.Sl.cw_region ?_
  refine Go.Sl.ow_val rfl rfl (Go.Sl.v_move rfl) ?_
  refine Go.Sl.ow_val rfl rfl (Go.Sl.v_neq_nil_some Try.underlying24 rfl) ?_
  refine Go.Sl.ow_nil ?_
  refine Go.Sl.xw_then ?_
  refine Go.Sl.cw_true rfl ?_
  refine Go.Sl.cw_region ?_
  refine Go.Sl.ow_val rfl rfl (Go.Sl.v_move rfl) ?_
  refine Go.Sl.ow_val rfl rfl (Go.Sl.v_move rfl) ?_
  refine Go.Sl.ow_val rfl rfl (Go.Sl.v_nilCheck rfl) ?_
  refine Go.Sl.ow_val rfl rfl (Go.Sl.v_fieldAddr0 Ty.fd60_4 rfl) ?_
  refine Go.Sl.ow_val rfl rfl (Go.Sl.v_load rfl (Go.Sl.Var.at1 Ty.sc32 (.there .here) (Go.Sl.GetN.lit rfl))) ?_
  refine Go.Sl.ow_val rfl rfl (Go.Sl.v_makeFunc rfl rfl) ?_
  (refine Go.Sl.ow_call rfl rfl rfl rfl (deleteFuncU_c (p := fun n => decide (n = seq)) (by repeat (first | exact Go.Sl.Sel.here | apply Go.Sl.Sel.there)) hLr (by omega) (fun a ha c' => told1_c (by repeat (first | exact Go.Sl.Sub.here | assumption | refine Go.Sl.Sub.there ?_)))) ?_; rintro _ _ ⟨x12, rfl, hq12, rfl⟩)
  refine Go.Sl.ow_val rfl rfl (Go.Sl.v_nilCheck rfl) ?_
  refine Go.Sl.ow_val rfl rfl (Go.Sl.v_fieldAddr0 Ty.fd60_4 rfl) ?_
  refine Go.Sl.ow_store1 rfl rfl rfl rfl Ty.sc32 (.there .here) (Go.Sl.SetN.one (by first | decide | exact Nat.le_of_ble_eq_true rfl)) ?_
  refine Go.Sl.ow_nil ?_
  refine Go.Sl.ret0n rfl ?_
  rw [show m.told seq = ⟨m.most, m.l, m.now, m.prior, m.retired.filter fun n => !decide (n = seq)⟩ from rfl]
  exact ⟨_, rfl, ⟨ao, cap, cl, x12.1, x12.2.1, x12.2.2, rfl, hL, hq12⟩, (by first | exact Go.Sl.Cov.refl _ | (intro p; simp only [List.flatten_cons, List.flatten_nil, List.flatten_append, List.append_nil, List.nil_append, Go.Sl.cnt_append, Go.Sl.cnt_cons, Go.Sl.cnt_nil, List.set_cons_zero, List.set_cons_succ, List.length_nil, List.length_cons, Nat.zero_add, List.append]; omega))⟩

def OtherM.lost (m : OtherM) (seq : Int) : OtherM := if (m.retired.any fun a => decide (seq = a)) = true then m else { m with retired := m.retired ++ [seq] }
theorem lost_c {B : Nat} {w0 : World} {G : List Hp} {R : Hp → List Hp} {m : OtherM} {b : Nat} {c : Hp} {seq : Int} (hsel : Sel G c R) (hO : OtherAt m b c) (hw : m.WF) (hq : enU.ok seq) :
    Go.Sl.Fn Try.prog 15 #[.pointer (some ⟨b, 0, none⟩), .int .u64 seq] B w0 G fun u G' => ∃ c' : Hp, u = .tuple #[] ∧ OtherAt (m.lost seq) b c' ∧ G' = R c' := by
  refine Fn.sel0 hsel fun F hR hF => ?_
  obtain ⟨ao, cap, cl, ao2, cap2, cr, rfl, hL, hLr⟩ := hO
  have h1 := hw.ret
  refine fn_enter Try.func15 rfl (by kernel_rfl) Try.ntmps15 (by simp) ?_
  refine cw_split3 ?_
  refine Go.Sl.cw_seq ?_
  refine Go.Sl.cw_region ?_
  refine Go.Sl.ow_val rfl rfl (Go.Sl.v_move rfl) ?_
  refine Go.Sl.ow_val rfl rfl (Go.Sl.v_neq_nil_some Try.underlying24 rfl) ?_
  refine Go.Sl.ow_val rfl rfl (Go.Sl.v_move rfl) ?_
  refine Go.Sl.ow_val rfl rfl (Go.Sl.v_move rfl) ?_
  refine Go.Sl.ow_val rfl rfl (Go.Sl.v_nilCheck rfl) ?_
  refine Go.Sl.ow_val rfl rfl (Go.Sl.v_fieldAddr0 Ty.fd60_4 rfl) ?_
  refine Go.Sl.ow_val rfl rfl (Go.Sl.v_load rfl (Go.Sl.Var.at1 Ty.sc32 .here (Go.Sl.GetN.lit rfl))) ?_
  refine Go.Sl.ow_val rfl rfl (Go.Sl.v_move rfl) ?_
  refine Go.Sl.ow_val rfl rfl (Go.Sl.v_call rfl rfl (containsU_c (hLr.vw (by repeat (first | exact Go.Sl.Sub.here | assumption | refine Go.Sl.Sub.there ?_))) (by omega))) ?_
  refine Go.Sl.ow_val rfl rfl (Go.Sl.v_not_bool rfl) ?_
  refine Go.Sl.ow_val rfl rfl (Go.Sl.v_pick_true rfl rfl) ?_
  refine Go.Sl.ow_nil ?_
  refine Go.Sl.xw_then ?_
  refine Go.Sl.cw_bool rfl (fun hc14 => ?_) (fun hc14 => ?_)
  refine Go.Sl.cw_region ?_
  refine Go.Sl.ow_val rfl rfl (Go.Sl.v_move rfl) ?_
  refine Go.Sl.ow_val rfl rfl (Go.Sl.v_move rfl) ?_
  refine Go.Sl.ow_val rfl rfl (Go.Sl.v_nilCheck rfl) ?_
  refine Go.Sl.ow_val rfl rfl (Go.Sl.v_fieldAddr0 Ty.fd60_4 rfl) ?_
  refine Go.Sl.ow_val rfl rfl (Go.Sl.v_load rfl (Go.Sl.Var.at1 Ty.sc32 .here (Go.Sl.GetN.lit rfl))) ?_
  refine Go.Sl.ow_val rfl rfl (Go.Sl.v_move rfl) ?_
  (refine Go.Sl.ow_buildL (es := [(seq)]) rfl rfl Try.underlying32 Ty.em32 (uTy) rfl rfl (by simp [*]) (by simp only [List.length_cons, List.length_nil]; decide) ?_; intro ao21 c21 hL21)
  (refine Go.Sl.ow_appendL rfl rfl Try.underlying32 Try.underlying32 Ty.em32 (uTy) rfl rfl (by assumption) (by repeat (first | exact Go.Sl.Sel.here | apply Go.Sl.Sel.there)) (Go.Sl.Ls.vw (by assumption) (by repeat (first | exact Go.Sl.Sub.here | assumption | refine Go.Sl.Sub.there ?_))) (by first | omega | (simp only [List.length_append, List.length_take, List.length_drop, List.length_nil, List.length_cons]; omega)) (by first | omega | (simp only [List.length_append, List.length_take, List.length_drop, List.length_nil, List.length_cons]; omega)) ?_; intro ao22 cap22 c22 hL22)
  refine Go.Sl.ow_val rfl rfl (Go.Sl.v_nilCheck rfl) ?_
  refine Go.Sl.ow_val rfl rfl (Go.Sl.v_fieldAddr0 Ty.fd60_4 rfl) ?_
  refine Go.Sl.ow_store1 rfl rfl rfl rfl Ty.sc32 (.there .here) (Go.Sl.SetN.one (by first | decide | exact Nat.le_of_ble_eq_true rfl)) ?_
  refine Go.Sl.ow_nil ?_
  refine Go.Sl.ret0n rfl ?_
  rotate_left
  refine Go.Sl.cw_skip ?_
  refine Go.Sl.ret0n rfl ?_
  rotate_left
  · have hc : ¬ (m.retired.any fun a => decide (seq = a)) = true := nb1 hc14
    rw [show m.lost seq = _ from by rw [OtherM.lost, if_neg hc]]
    exact ⟨_, rfl, ⟨ao, cap, cl, ao22, cap22, c22, rfl, hL, hL22⟩, (by first | exact Go.Sl.Cov.refl _ | (intro p; simp only [List.flatten_cons, List.flatten_nil, List.flatten_append, List.append_nil, List.nil_append, Go.Sl.cnt_append, Go.Sl.cnt_cons, Go.Sl.cnt_nil, List.set_cons_zero, List.set_cons_succ, List.length_nil, List.length_cons, Nat.zero_add, List.append]; omega))⟩
  · have hc : (m.retired.any fun a => decide (seq = a)) = true := nb2 hc14
    rw [show m.lost seq = _ from by rw [OtherM.lost, if_pos hc]]
    exact ⟨_, rfl, ⟨ao, cap, cl, ao2, cap2, cr, rfl, hL, hLr⟩, (by first | exact Go.Sl.Cov.refl _ | (intro p; simp only [List.flatten_cons, List.flatten_nil, List.flatten_append, List.append_nil, List.nil_append, Go.Sl.cnt_append, Go.Sl.cnt_cons, Go.Sl.cnt_nil, List.set_cons_zero, List.set_cons_succ, List.length_nil, List.length_cons, Nat.zero_add, List.append]; omega))⟩

def OtherM.switch (m : OtherM) : OtherM × Bool :=
  if idxF (fun e : Entry => decide (e.seq = m.now)) m.l < 0 ∨ idxF (fun e : Entry => decide (e.seq = m.now)) m.l + 1 = m.l.length then (m, false)
  else ({ m with retired := m.retired ++ [m.now], now := (m.l[(idxF (fun e : Entry => decide (e.seq = m.now)) m.l + 1).toNat]!).seq, l := m.l.take (idxF (fun e : Entry => decide (e.seq = m.now)) m.l).toNat ++ m.l.drop ((idxF (fun e : Entry => decide (e.seq = m.now)) m.l).toNat + 1) }, true)
set_option maxHeartbeats 4000000 in
theorem switch_c {B : Nat} {w0 : World} {G : List Hp} {R : Hp → List Hp} {m : OtherM} {b : Nat} {c : Hp} (hsel : Sel G c R) (hO : OtherAt m b c) (hw : m.WF) :
    Go.Sl.Fn Try.prog 13 #[.pointer (some ⟨b, 0, none⟩)] B w0 G fun u G' => ∃ c' : Hp, u = .bool m.switch.2 ∧ OtherAt m.switch.1 b c' ∧ G' = R c' := by
  refine Fn.sel0 hsel fun F hR hF => ?_
  obtain ⟨ao, cap, cl, ao2, cap2, cr, rfl, hL, hLr⟩ := hO
  have h1 := hw.ret
  have h2 := hw.most
  have h3 := hw.len
  have h4 : enU.ok m.now := hw.now
  have hbd := idxF_bd (p := fun e : Entry => decide (e.seq = m.now)) (l := m.l)
  refine fn_enter Try.func13 rfl (by kernel_rfl) Try.ntmps13 (by simp) ?_
  refine cw_split3 ?_
  refine Go.Sl.cw_seq ?_
  refine Go.Sl.cw_region ?_
  refine Go.Sl.ow_val rfl rfl (Go.Sl.v_assign rfl) ?_
  refine Go.Sl.ow_nil ?_
  refine Go.Sl.xw_then ?_
  refine Go.Sl.cw_seq ?_
  refine Go.Sl.cw_seq ?_
  refine Go.Sl.cw_region ?_
  refine Go.Sl.ow_val rfl rfl (Go.Sl.v_move rfl) ?_
  refine Go.Sl.ow_val rfl rfl (Go.Sl.v_eql_nil_some Try.underlying24 rfl) ?_
  refine Go.Sl.ow_nil ?_
  refine Go.Sl.xw_then ?_
  refine Go.Sl.cw_false rfl ?_
  refine Go.Sl.cw_skip ?_
  refine Go.Sl.xw_then ?_
  refine Go.Sl.cw_seq ?_
  refine Go.Sl.cw_quiet Ty.mixed (by decide +kernel) ?_
  refine Go.Sl.kw_val rfl rfl (Go.Sl.v_move rfl) ?_
  refine Go.Sl.kw_val rfl rfl (Go.Sl.v_nilCheck rfl) ?_
  refine Go.Sl.kw_val rfl rfl (Go.Sl.v_fieldAddr0 Ty.fd60_1 rfl) ?_
  refine Go.Sl.kw_val rfl rfl (Go.Sl.v_load rfl (Go.Sl.Var.at1 Ty.sc31 .here (Go.Sl.GetN.lit rfl))) ?_
  refine Go.Sl.kw_val rfl rfl (Go.Sl.v_move rfl) ?_
  refine Go.Sl.kw_val rfl rfl (Go.Sl.v_nilCheck rfl) ?_
  refine Go.Sl.kw_val rfl rfl (Go.Sl.v_fieldAddr0 Ty.fd60_2 rfl) ?_
  refine Go.Sl.kw_val rfl rfl (Go.Sl.v_load rfl (Go.Sl.Var.at1 Ty.sc27 .here (Go.Sl.GetN.lit rfl))) ?_
  refine Go.Sl.kw_val rfl rfl (Go.Sl.v_call rfl rfl (place_c (hL.vw (by repeat (first | exact Go.Sl.Sub.here | assumption | refine Go.Sl.Sub.there ?_))) (by omega))) ?_
  refine Go.Sl.kw_val rfl rfl (Go.Sl.v_assign rfl) ?_
  refine Go.Sl.kw_nil ?_
  refine Go.Sl.xw_then ?_
  refine Go.Sl.cw_seq ?_
  refine Go.Sl.cw_seq ?_
  refine Go.Sl.cw_region ?_
  refine Go.Sl.ow_val rfl rfl (Go.Sl.v_move rfl) ?_
  refine Go.Sl.ow_val rfl rfl (Go.Sl.v_lss rfl rfl) ?_
  refine Go.Sl.ow_val rfl rfl (Go.Sl.v_move rfl) ?_
  refine Go.Sl.ow_dec 17 rfl (fun hc17 => ?_) (fun hc17 => ?_)
  refine Go.Sl.ow_skip rfl rfl ?_
  refine Go.Sl.ow_skip rfl rfl ?_
  refine Go.Sl.ow_skip rfl rfl ?_
  refine Go.Sl.ow_skip rfl rfl ?_
  refine Go.Sl.ow_skip rfl rfl ?_
  refine Go.Sl.ow_skip rfl rfl ?_
  refine Go.Sl.ow_skip rfl rfl ?_
  refine Go.Sl.ow_skip rfl rfl ?_
  refine Go.Sl.ow_val rfl rfl (Go.Sl.v_pick_true rfl rfl) ?_
  refine Go.Sl.ow_nil ?_
  refine Go.Sl.xw_then ?_
  refine Go.Sl.cw_true rfl ?_
  refine Go.Sl.cw_seq ?_
  refine Go.Sl.cw_region ?_
  refine Go.Sl.ow_val rfl rfl (Go.Sl.v_assign rfl) ?_
  refine Go.Sl.ow_nil ?_
  refine Go.Sl.xw_then ?_
  refine Go.Sl.cw_ret ?_
  refine Go.Sl.xw_then_ret ?_
  refine Go.Sl.ret1 rfl (Go.Sl.res_tmp rfl) ?_
  rotate_left
  refine Go.Sl.ow_val rfl rfl (Go.Sl.v_move rfl) ?_
  refine Go.Sl.ow_val rfl rfl (Go.Sl.v_add rfl rfl (Go.Sl.nw_i64 (by omega) (by omega))) ?_
  refine Go.Sl.ow_val rfl rfl (Go.Sl.v_move rfl) ?_
  refine Go.Sl.ow_val rfl rfl (Go.Sl.v_nilCheck rfl) ?_
  refine Go.Sl.ow_val rfl rfl (Go.Sl.v_fieldAddr0 Ty.fd60_1 rfl) ?_
  refine Go.Sl.ow_val rfl rfl (Go.Sl.v_load rfl (Go.Sl.Var.at1 Ty.sc31 .here (Go.Sl.GetN.lit rfl))) ?_
  refine Go.Sl.ow_val rfl rfl (Go.Sl.v_len rfl Try.underlying31 rfl) ?_
  refine Go.Sl.ow_val rfl rfl (Go.Sl.v_eql rfl rfl) ?_
  refine Go.Sl.ow_val rfl rfl (Go.Sl.v_pick_false rfl rfl) ?_
  refine Go.Sl.ow_nil ?_
  refine Go.Sl.xw_then ?_
  refine Go.Sl.cw_dec rfl (fun hc26 => ?_) (fun hc26 => ?_)
  refine Go.Sl.cw_seq ?_
  refine Go.Sl.cw_region ?_
  refine Go.Sl.ow_val rfl rfl (Go.Sl.v_assign rfl) ?_
  refine Go.Sl.ow_nil ?_
  refine Go.Sl.xw_then ?_
  refine Go.Sl.cw_ret ?_
  refine Go.Sl.xw_then_ret ?_
  refine Go.Sl.ret1 rfl (Go.Sl.res_tmp rfl) ?_
  rotate_left
  refine Go.Sl.cw_skip ?_
  refine Go.Sl.xw_then ?_
  refine Go.Sl.cw_seq ?_
  refine Go.Sl.cw_mix [9] [10, 11, 12, 13] [0, 1, 2, 3, 4, 5, 6, 7, 8] Ty.mixed rfl rfl rfl rfl (by decide +kernel) ?_
  refine Go.Sl.hw_pure rfl rfl (Go.Sl.v_move rfl) rfl ?_
  refine Go.Sl.hw_pure rfl rfl (Go.Sl.v_move rfl) rfl ?_
  refine Go.Sl.hw_pure rfl rfl (Go.Sl.v_nilCheck rfl) rfl ?_
  refine Go.Sl.hw_pure rfl rfl (Go.Sl.v_fieldAddr0 Ty.fd60_4 rfl) rfl ?_
  refine Go.Sl.hw_read rfl rfl rfl (Go.Sl.v_load rfl (Go.Sl.Var.at1 Ty.sc32 .here (Go.Sl.GetN.lit rfl))) ?_
  refine Go.Sl.hw_pure rfl rfl (Go.Sl.v_move rfl) rfl ?_
  refine Go.Sl.hw_pure rfl rfl (Go.Sl.v_nilCheck rfl) rfl ?_
  refine Go.Sl.hw_pure rfl rfl (Go.Sl.v_fieldAddr0 Ty.fd60_2 rfl) rfl ?_
  refine Go.Sl.hw_read rfl rfl rfl (Go.Sl.v_load rfl (Go.Sl.Var.at1 Ty.sc27 .here (Go.Sl.GetN.lit rfl))) ?_
  refine Go.Sl.hw_nil ?_
  (refine Go.Sl.sw_buildL (es := [(m.now)]) rfl rfl Try.underlying32 Ty.em32 (uTy) rfl rfl (by simp [*]) (by simp only [List.length_cons, List.length_nil]; decide) ?_; intro ao36 c36 hL36)
  refine Go.Sl.sw_nil ?_
  (refine Go.Sl.ow_appendL rfl rfl Try.underlying32 Try.underlying32 Ty.em32 (uTy) rfl rfl (by assumption) (by repeat (first | exact Go.Sl.Sel.here | apply Go.Sl.Sel.there)) (Go.Sl.Ls.vw (by assumption) (by repeat (first | exact Go.Sl.Sub.here | assumption | refine Go.Sl.Sub.there ?_))) (by first | omega | (simp only [List.length_append, List.length_take, List.length_drop, List.length_nil, List.length_cons]; omega)) (by first | omega | (simp only [List.length_append, List.length_take, List.length_drop, List.length_nil, List.length_cons]; omega)) ?_; intro ao37 cap37 c37 hL37)
  refine Go.Sl.ow_val rfl rfl (Go.Sl.v_nilCheck rfl) ?_
  refine Go.Sl.ow_val rfl rfl (Go.Sl.v_fieldAddr0 Ty.fd60_4 rfl) ?_
  refine Go.Sl.ow_store1 rfl rfl rfl rfl Ty.sc32 (.there .here) (Go.Sl.SetN.one (by first | decide | exact Nat.le_of_ble_eq_true rfl)) ?_
  refine Go.Sl.ow_nil ?_
  refine Go.Sl.xw_np ?_
  refine Go.Sl.xw_then ?_
  refine Go.Sl.cw_seq ?_
  refine Go.Sl.cw_region ?_
  refine Go.Sl.ow_val rfl rfl (Go.Sl.v_move rfl) ?_
  refine Go.Sl.ow_val rfl rfl (Go.Sl.v_move rfl) ?_
  refine Go.Sl.ow_val rfl rfl (Go.Sl.v_nilCheck rfl) ?_
  refine Go.Sl.ow_val rfl rfl (Go.Sl.v_fieldAddr0 Ty.fd60_1 rfl) ?_
  refine Go.Sl.ow_val rfl rfl (Go.Sl.v_load rfl (Go.Sl.Var.at1 Ty.sc31 (.there .here) (Go.Sl.GetN.lit rfl))) ?_
  refine Go.Sl.ow_val rfl rfl (Go.Sl.v_move rfl) ?_
  refine Go.Sl.ow_val rfl rfl (Go.Sl.v_add rfl rfl (Go.Sl.nw_i64 (by omega) (by omega))) ?_
  refine Go.Sl.ow_val rfl rfl (Go.Sl.v_indexAddr_ls Try.underlying31 (eTy) rfl rfl (by assumption) (Int.toNat_of_nonneg (by omega)).symm (by omega)) ?_
  refine Go.Sl.ow_val rfl rfl (Go.Sl.v_fieldAddr Ty.fd30_0 rfl) ?_
  refine Go.Sl.ow_val rfl rfl (Go.Sl.v_load rfl (Go.Sl.Vw.fld1 (eTy) Ty.sc27 (hL.vw (by repeat (first | exact Go.Sl.Sub.here | assumption | refine Go.Sl.Sub.there ?_))) (by omega) rfl)) ?_
  refine Go.Sl.ow_val rfl rfl (Go.Sl.v_nilCheck rfl) ?_
  refine Go.Sl.ow_val rfl rfl (Go.Sl.v_fieldAddr0 Ty.fd60_2 rfl) ?_
  refine Go.Sl.ow_store1 rfl rfl rfl rfl Ty.sc27 (.there .here) (Go.Sl.SetN.one (by first | decide | exact Nat.le_of_ble_eq_true rfl)) ?_
  refine Go.Sl.ow_nil ?_
  refine Go.Sl.xw_then ?_
  refine Go.Sl.cw_seq ?_
  refine Go.Sl.cw_region ?_
  refine Go.Sl.ow_val rfl rfl (Go.Sl.v_move rfl) ?_
  refine Go.Sl.ow_val rfl rfl (Go.Sl.v_move rfl) ?_
  refine Go.Sl.ow_val rfl rfl (Go.Sl.v_nilCheck rfl) ?_
  refine Go.Sl.ow_val rfl rfl (Go.Sl.v_fieldAddr0 Ty.fd60_1 rfl) ?_
  refine Go.Sl.ow_val rfl rfl (Go.Sl.v_load rfl (Go.Sl.Var.at1 Ty.sc31 (.there .here) (Go.Sl.GetN.lit rfl))) ?_
  refine Go.Sl.ow_val rfl rfl (Go.Sl.v_move rfl) ?_
  refine Go.Sl.ow_val rfl rfl (Go.Sl.v_move rfl) ?_
  refine Go.Sl.ow_val rfl rfl (Go.Sl.v_add rfl rfl (Go.Sl.nw_i64 (by omega) (by omega))) ?_
  (refine Go.Sl.ow_call rfl rfl rfl rfl (deleteE_c (i := (idxF (fun e : Entry => decide (e.seq = m.now)) m.l).toNat) (j := (idxF (fun e : Entry => decide (e.seq = m.now)) m.l).toNat + 1) (by omega) (by omega) (by repeat (first | exact Go.Sl.Sel.here | apply Go.Sl.Sel.there)) hL (by omega) (by omega) (by omega)) ?_; rintro _ _ ⟨x60, rfl, hq60, rfl⟩)
  refine Go.Sl.ow_val rfl rfl (Go.Sl.v_nilCheck rfl) ?_
  refine Go.Sl.ow_val rfl rfl (Go.Sl.v_fieldAddr0 Ty.fd60_1 rfl) ?_
  refine Go.Sl.ow_store1 rfl rfl rfl rfl Ty.sc31 (.there .here) (Go.Sl.SetN.one (by first | decide | exact Nat.le_of_ble_eq_true rfl)) ?_
  refine Go.Sl.ow_nil ?_
  refine Go.Sl.xw_then ?_
  refine Go.Sl.cw_seq ?_
  refine Go.Sl.cw_region ?_
  refine Go.Sl.ow_val rfl rfl (Go.Sl.v_assign rfl) ?_
  refine Go.Sl.ow_nil ?_
  refine Go.Sl.xw_then ?_
  refine Go.Sl.cw_ret ?_
  refine Go.Sl.ret1 rfl (Go.Sl.res_tmp rfl) ?_
  rotate_left
  · rw [show m.switch = (m, false) from by rw [OtherM.switch, if_pos (.inl hc17)]]
    exact ⟨_, rfl, ⟨ao, cap, cl, ao2, cap2, cr, rfl, hL, hLr⟩, (by first | exact Go.Sl.Cov.refl _ | (intro p; simp only [List.flatten_cons, List.flatten_nil, List.flatten_append, List.append_nil, List.nil_append, Go.Sl.cnt_append, Go.Sl.cnt_cons, Go.Sl.cnt_nil, List.set_cons_zero, List.set_cons_succ, List.length_nil, List.length_cons, Nat.zero_add, List.append]; omega))⟩
  · rw [show m.switch = (m, false) from by rw [OtherM.switch, if_pos (.inr hc26)]]
    exact ⟨_, rfl, ⟨ao, cap, cl, ao2, cap2, cr, rfl, hL, hLr⟩, (by first | exact Go.Sl.Cov.refl _ | (intro p; simp only [List.flatten_cons, List.flatten_nil, List.flatten_append, List.append_nil, List.nil_append, Go.Sl.cnt_append, Go.Sl.cnt_cons, Go.Sl.cnt_nil, List.set_cons_zero, List.set_cons_succ, List.length_nil, List.length_cons, Nat.zero_add, List.append]; omega))⟩
  · rw [show m.switch = _ from by rw [OtherM.switch, if_neg (fun h => h.elim hc17 hc26), getElem!_pos m.l _ (by omega)]]
    exact ⟨_, rfl, ⟨x60.1, x60.2.1, x60.2.2, ao37, cap37, c37, rfl, hq60, hL37⟩, (by first | exact Go.Sl.Cov.refl _ | (intro p; simp only [List.flatten_cons, List.flatten_nil, List.flatten_append, List.append_nil, List.nil_append, Go.Sl.cnt_append, Go.Sl.cnt_cons, Go.Sl.cnt_nil, List.set_cons_zero, List.set_cons_succ, List.length_nil, List.length_cons, Nat.zero_add, List.append]; omega))⟩

def addR (r : List Int) (n : Int) : List Int := if (r.any fun a => decide (n = a)) = true then r else r ++ [n]
theorem add1_c {B : Nat} {w0 : World} {G : List Hp} {R : Hp → List Hp} {b cap : Nat} {ao : Option Addr} {c : Hp} {r : List Int} {n : Int} (hsel : Sel G ([(b, .cells [Value.slice ao r.length cap].toArray 32 (0, 0))] ++ c) R) (hLr : Ls enU 27 (.slice ao r.length cap) c r) (hl : r.length ≤ 2000) (hn : enU.ok n) :
    Go.Sl.Fn Try.prog 31 #[.int .u64 n, .pointer (some ⟨b, 0, none⟩)] B w0 G fun u G' => ∃ x : Option Addr × Nat × Hp, u = .tuple #[] ∧ Ls enU 27 (.slice x.1 (addR r n).length x.2.1) x.2.2 (addR r n) ∧ G' = R ([(b, .cells [Value.slice x.1 (addR r n).length x.2.1].toArray 32 (0, 0))] ++ x.2.2) := by
  refine Fn.sel0 hsel fun F hR hF => ?_
  refine fn_enter Try.func31 rfl (by kernel_rfl) Try.ntmps31 (by simp) ?_
  refine cw_split ?_
  refine Go.Sl.cw_seq ?_
  refine Go.Sl.cw_region ?_
  refine Go.Sl.ow_val rfl rfl (Go.Sl.v_load rfl (Go.Sl.Var.at1 Ty.sc32 .here (Go.Sl.GetN.lit rfl))) ?_
  refine Go.Sl.ow_val rfl rfl (Go.Sl.v_move rfl) ?_
  refine Go.Sl.ow_val rfl rfl (Go.Sl.v_call rfl rfl (containsU_c (hLr.vw (by repeat (first | exact Go.Sl.Sub.here | assumption | refine Go.Sl.Sub.there ?_))) (by omega))) ?_
  refine Go.Sl.ow_val rfl rfl (Go.Sl.v_not_bool rfl) ?_
  refine Go.Sl.ow_nil ?_
  refine Go.Sl.xw_then ?_
  refine Go.Sl.cw_bool rfl (fun hc6 => ?_) (fun hc6 => ?_)
  refine Go.Sl.cw_region ?_
  refine Go.Sl.ow_val rfl rfl (Go.Sl.v_load rfl (Go.Sl.Var.at1 Ty.sc32 .here (Go.Sl.GetN.lit rfl))) ?_
  refine Go.Sl.ow_val rfl rfl (Go.Sl.v_move rfl) ?_
  (refine Go.Sl.ow_buildL (es := [(n)]) rfl rfl Try.underlying32 Ty.em32 (uTy) rfl rfl (by simp [*]) (by simp only [List.length_cons, List.length_nil]; decide) ?_; intro ao9 c9 hL9)
  (refine Go.Sl.ow_appendL rfl rfl Try.underlying32 Try.underlying32 Ty.em32 (uTy) rfl rfl (by assumption) (by repeat (first | exact Go.Sl.Sel.here | apply Go.Sl.Sel.there)) (Go.Sl.Ls.vw (by assumption) (by repeat (first | exact Go.Sl.Sub.here | assumption | refine Go.Sl.Sub.there ?_))) (by first | omega | (simp only [List.length_append, List.length_take, List.length_drop, List.length_nil, List.length_cons]; omega)) (by first | omega | (simp only [List.length_append, List.length_take, List.length_drop, List.length_nil, List.length_cons]; omega)) ?_; intro ao10 cap10 c10 hL10)
  refine Go.Sl.ow_store1 rfl rfl rfl rfl Ty.sc32 (.there .here) (Go.Sl.SetN.one (by first | decide | exact Nat.le_of_ble_eq_true rfl)) ?_
  refine Go.Sl.ow_nil ?_
  refine Go.Sl.ret0n rfl ?_
  rotate_left
  refine Go.Sl.cw_skip ?_
  refine Go.Sl.ret0n rfl ?_
  rotate_left
  · rw [show addR r n = r ++ [n] from by rw [addR, if_neg (nb1 hc6)]]
    exact ⟨(ao10, cap10, c10), rfl, hL10, (by first | exact Go.Sl.Cov.refl _ | (intro p; simp only [List.flatten_cons, List.flatten_nil, List.flatten_append, List.append_nil, List.nil_append, Go.Sl.cnt_append, Go.Sl.cnt_cons, Go.Sl.cnt_nil, List.set_cons_zero, List.set_cons_succ, List.length_nil, List.length_cons, Nat.zero_add, List.append]; omega))⟩
  · rw [show addR r n = r from by rw [addR, if_pos (nb2 hc6)]]
    exact ⟨(ao, cap, c), rfl, hLr, (by first | exact Go.Sl.Cov.refl _ | (intro p; simp only [List.flatten_cons, List.flatten_nil, List.flatten_append, List.append_nil, List.nil_append, Go.Sl.cnt_append, Go.Sl.cnt_cons, Go.Sl.cnt_nil, List.set_cons_zero, List.set_cons_succ, List.length_nil, List.length_cons, Nat.zero_add, List.append]; omega))⟩
end Go.Proofs.Ytfilpenkihdjiaa
