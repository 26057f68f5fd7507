/- Replay in memory: maps copied, maps compared. Conditions: none. -/
import Derived.Test.YtckdhelnafjddaaRpS
namespace Go.Proofs.Ytckdhelnafjddaa
open Go Go.Sl Go.Proofs Go.RowKit Go.ChangeShapes Go.WideShapes Go.ChangeAt
set_option maxRecDepth 20000
set_option linter.unusedVariables false
set_option linter.unusedSimpArgs false

theorem eqF_true {P : Program} {d : Nat} {xs : Array Value} {f : Field} {fs : List Field} {a : Value} {w : World} (hn : f.name ≠ "_") (ha : (part f.type xs f.offset).run P w = .ok a w) (hr : (Op.equalIn d f.type a a).run P w = .ok true w) :
    (Op.eqFields d xs xs (f :: fs)).run P w = (Op.eqFields d xs xs fs).run P w := by
  rw [eqFields_step hn ha ha hr, if_pos rfl]
def eqPkSL (a : Int) (b : Int) (c : Bool) (e : Bool) : List Value := [Value.int .u64 a, .int .u64 b, .bool c, .bool e]
theorem eqPkS_d (d : Nat) {a : Int} {b : Int} {c : Bool} {e : Bool} (w : World) : (Op.equalIn (d + 3) 120 (.agg (eqPkSL a b c e).toArray) (.agg (eqPkSL a b c e).toArray)).run Try.prog w = .ok true w := by
  have h0 := run_equalIn_struct (P := Try.prog) w (d + 2) 120 (eqPkSL a b c e).toArray (eqPkSL a b c e).toArray (by kernel_rfl) (by kernel_rfl)
  refine h0.trans ?_
  simp only [Program.fieldsOf, Try.underlying120]
  have p0 := run_part_sc (xs := (eqPkSL a b c e)) (i := 0) (v := .int .u64 a) Ty.sc22 rfl w
  have q0 : (Op.equalIn (d + 2) 22 (.int .u64 a) (.int .u64 a)).run Try.prog w = .ok true w := by
    rw [Op.equalIn]
    simp [Sem.run_bind, run_underlying Try.underlying22]
  have p1 := run_part_sc (xs := (eqPkSL a b c e)) (i := 1) (v := .int .u64 b) Ty.sc22 rfl w
  have q1 : (Op.equalIn (d + 2) 22 (.int .u64 b) (.int .u64 b)).run Try.prog w = .ok true w := by
    rw [Op.equalIn]
    simp [Sem.run_bind, run_underlying Try.underlying22]
  have p2 := run_part_sc (xs := (eqPkSL a b c e)) (i := 2) (v := .bool c) Ty.sc4 rfl w
  have q2 : (Op.equalIn (d + 2) 4 (.bool c) (.bool c)).run Try.prog w = .ok true w := by
    rw [Op.equalIn]
    simp [Sem.run_bind, run_underlying Try.underlying4]
  have p3 := run_part_sc (xs := (eqPkSL a b c e)) (i := 3) (v := .bool e) Ty.sc4 rfl w
  have q3 : (Op.equalIn (d + 2) 4 (.bool e) (.bool e)).run Try.prog w = .ok true w := by
    rw [Op.equalIn]
    simp [Sem.run_bind, run_underlying Try.underlying4]
  generalize hx : (eqPkSL a b c e).toArray = xs at *
  refine (eqF_true (by decide) p0 q0).trans ?_
  refine (eqF_true (by decide) p1 q1).trans ?_
  refine (eqF_true (by decide) p2 q2).trans ?_
  refine (eqF_true (by decide) p3 q3).trans ?_
  exact eqFields_nil
theorem eqPkS {a : Int} {b : Int} {c : Bool} {e : Bool} : ∀ w : World, (Op.equal 120 (.agg (eqPkSL a b c e).toArray) (.agg (eqPkSL a b c e).toArray)).run Try.prog w = .ok (decide True) w := fun w => by
  unfold Op.equal Op.maxDepth
  exact (eqPkS_d 9997 w).trans (by simp)
def eqCrSL (a : Int) (b : Int) (c : Int) (e : Int) : List Value := [Value.int .u64 a, .int .u64 b, .int .u64 c, .int .u64 e]
theorem eqCrS_d (d : Nat) {a : Int} {b : Int} {c : Int} {e : Int} (w : World) : (Op.equalIn (d + 3) 123 (.agg (eqCrSL a b c e).toArray) (.agg (eqCrSL a b c e).toArray)).run Try.prog w = .ok true w := by
  have h0 := run_equalIn_struct (P := Try.prog) w (d + 2) 123 (eqCrSL a b c e).toArray (eqCrSL a b c e).toArray (by kernel_rfl) (by kernel_rfl)
  refine h0.trans ?_
  simp only [Program.fieldsOf, Try.underlying123]
  have p0 := run_part_sc (xs := (eqCrSL a b c e)) (i := 0) (v := .int .u64 a) Ty.sc22 rfl w
  have q0 : (Op.equalIn (d + 2) 22 (.int .u64 a) (.int .u64 a)).run Try.prog w = .ok true w := by
    rw [Op.equalIn]
    simp [Sem.run_bind, run_underlying Try.underlying22]
  have p1 := run_part_sc (xs := (eqCrSL a b c e)) (i := 1) (v := .int .u64 b) Ty.sc22 rfl w
  have q1 : (Op.equalIn (d + 2) 22 (.int .u64 b) (.int .u64 b)).run Try.prog w = .ok true w := by
    rw [Op.equalIn]
    simp [Sem.run_bind, run_underlying Try.underlying22]
  have p2 := run_part_sc (xs := (eqCrSL a b c e)) (i := 2) (v := .int .u64 c) Ty.sc22 rfl w
  have q2 : (Op.equalIn (d + 2) 22 (.int .u64 c) (.int .u64 c)).run Try.prog w = .ok true w := by
    rw [Op.equalIn]
    simp [Sem.run_bind, run_underlying Try.underlying22]
  have p3 := run_part_sc (xs := (eqCrSL a b c e)) (i := 3) (v := .int .u64 e) Ty.sc22 rfl w
  have q3 : (Op.equalIn (d + 2) 22 (.int .u64 e) (.int .u64 e)).run Try.prog w = .ok true w := by
    rw [Op.equalIn]
    simp [Sem.run_bind, run_underlying Try.underlying22]
  generalize hx : (eqCrSL a b c e).toArray = xs at *
  refine (eqF_true (by decide) p0 q0).trans ?_
  refine (eqF_true (by decide) p1 q1).trans ?_
  refine (eqF_true (by decide) p2 q2).trans ?_
  refine (eqF_true (by decide) p3 q3).trans ?_
  exact eqFields_nil
theorem eqCrS {a : Int} {b : Int} {c : Int} {e : Int} : ∀ w : World, (Op.equal 123 (.agg (eqCrSL a b c e).toArray) (.agg (eqCrSL a b c e).toArray)).run Try.prog w = .ok (decide True) w := fun w => by
  unfold Op.equal Op.maxDepth
  exact (eqCrS_d 9997 w).trans (by simp)
def eqStSL (a : Int) (b : Int) (c : Int) (e : Int) (f : Int) (g : Int) : List Value := [Value.int .u64 a, .int .u64 b, .int .u64 c, .int .u64 e, .int .u64 f, .int .u64 g]
theorem eqStS_d (d : Nat) {a : Int} {b : Int} {c : Int} {e : Int} {f : Int} {g : Int} (w : World) : (Op.equalIn (d + 3) 126 (.agg (eqStSL a b c e f g).toArray) (.agg (eqStSL a b c e f g).toArray)).run Try.prog w = .ok true w := by
  have h0 := run_equalIn_struct (P := Try.prog) w (d + 2) 126 (eqStSL a b c e f g).toArray (eqStSL a b c e f g).toArray (by kernel_rfl) (by kernel_rfl)
  refine h0.trans ?_
  simp only [Program.fieldsOf, Try.underlying126]
  have p0 := run_part_sc (xs := (eqStSL a b c e f g)) (i := 0) (v := .int .u64 a) Ty.sc22 rfl w
  have q0 : (Op.equalIn (d + 2) 22 (.int .u64 a) (.int .u64 a)).run Try.prog w = .ok true w := by
    rw [Op.equalIn]
    simp [Sem.run_bind, run_underlying Try.underlying22]
  have p1 := run_part_sc (xs := (eqStSL a b c e f g)) (i := 1) (v := .int .u64 b) Ty.sc22 rfl w
  have q1 : (Op.equalIn (d + 2) 22 (.int .u64 b) (.int .u64 b)).run Try.prog w = .ok true w := by
    rw [Op.equalIn]
    simp [Sem.run_bind, run_underlying Try.underlying22]
  have p2 := run_part_sc (xs := (eqStSL a b c e f g)) (i := 2) (v := .int .u64 c) Ty.sc22 rfl w
  have q2 : (Op.equalIn (d + 2) 22 (.int .u64 c) (.int .u64 c)).run Try.prog w = .ok true w := by
    rw [Op.equalIn]
    simp [Sem.run_bind, run_underlying Try.underlying22]
  have p3 := run_part_sc (xs := (eqStSL a b c e f g)) (i := 3) (v := .int .u64 e) Ty.sc22 rfl w
  have q3 : (Op.equalIn (d + 2) 22 (.int .u64 e) (.int .u64 e)).run Try.prog w = .ok true w := by
    rw [Op.equalIn]
    simp [Sem.run_bind, run_underlying Try.underlying22]
  have p4 := run_part_sc (xs := (eqStSL a b c e f g)) (i := 4) (v := .int .u64 f) Ty.sc22 rfl w
  have q4 : (Op.equalIn (d + 2) 22 (.int .u64 f) (.int .u64 f)).run Try.prog w = .ok true w := by
    rw [Op.equalIn]
    simp [Sem.run_bind, run_underlying Try.underlying22]
  have p5 := run_part_sc (xs := (eqStSL a b c e f g)) (i := 5) (v := .int .u64 g) Ty.sc22 rfl w
  have q5 : (Op.equalIn (d + 2) 22 (.int .u64 g) (.int .u64 g)).run Try.prog w = .ok true w := by
    rw [Op.equalIn]
    simp [Sem.run_bind, run_underlying Try.underlying22]
  generalize hx : (eqStSL a b c e f g).toArray = xs at *
  refine (eqF_true (by decide) p0 q0).trans ?_
  refine (eqF_true (by decide) p1 q1).trans ?_
  refine (eqF_true (by decide) p2 q2).trans ?_
  refine (eqF_true (by decide) p3 q3).trans ?_
  refine (eqF_true (by decide) p4 q4).trans ?_
  refine (eqF_true (by decide) p5 q5).trans ?_
  exact eqFields_nil
theorem eqStS {a : Int} {b : Int} {c : Int} {e : Int} {f : Int} {g : Int} : ∀ w : World, (Op.equal 126 (.agg (eqStSL a b c e f g).toArray) (.agg (eqStSL a b c e f g).toArray)).run Try.prog w = .ok (decide True) w := fun w => by
  unfold Op.equal Op.maxDepth
  exact (eqStS_d 9997 w).trans (by simp)

def lsV (l : List Int) : Value := .agg (l.map (Value.int .u64)).toArray
theorem one_u64 (l : List Int) : ∀ u ∈ l.map (Value.int .u64), u.oneCell' = true := fun u hu => by
  obtain ⟨x, _, rfl⟩ := List.mem_map.1 hu
  rfl
theorem list4 : ∀ {l : List Int}, l.length = 4 → ∃ a b c d, l = [a, b, c, d]
  | [a, b, c, d], _ => ⟨a, b, c, d, rfl⟩
theorem list6 : ∀ {l : List Int}, l.length = 6 → ∃ a b c d e f, l = [a, b, c, d, e, f]
  | [a, b, c, d, e, f], _ => ⟨a, b, c, d, e, f, rfl⟩
set_option maxHeartbeats 4000000 in
theorem copiedU_c {B : Nat} {w0 : World} {G : List Hp} {m : List (Int × Value)} {v : Value} {c : Hp} (hM : MapV .u64 m v c) (hs : Sub c G) (hok : ∀ q ∈ m, True) :
    Go.Sl.Fn Try.prog 79 #[v] B w0 G fun u G' => ∃ y : Nat × Hp, u = .map (some y.1) ∧ MapG .u64 (Go.Sl.look m) y.1 y.2 ∧ G' = [y.2] ++ G := by
  refine Fn.new ?_
  have hnd := hM.nd
  refine fn_enter Try.func79 rfl (by kernel_rfl) Try.ntmps79 (by simp) ?_
  refine cw_seq ?_
  refine cw_region ?_
  refine ow_val rfl rfl (v_assign rfl) ?_
  refine ow_nil ?_
  refine xw_then ?_
  refine cw_seq ?_
  refine cw_region ?_
  refine ow_val rfl rfl (v_move rfl) ?_
  refine ow_val rfl rfl (v_lenMap rfl Try.underlying73 rfl (by repeat (first | exact Sub.here | exact Sub.nil | assumption | refine Sub.there ?_)) hM) ?_
  refine ow_makeMapN (kd := .u64) rfl rfl Try.underlying73 rfl ?_
  intro b8 c8 h8
  refine ow_val rfl rfl (v_assign rfl) ?_
  refine ow_nil ?_
  refine xw_then ?_
  refine cw_seq ?_
  refine cw_seq ?_
  refine cw_region ?_
  refine ow_val rfl rfl (v_move rfl) ?_
  refine ow_range (kd := .u64) rfl rfl Try.underlying73 rfl (by repeat (first | exact Sub.here | exact Sub.nil | assumption | refine Sub.there ?_)) hM ?_
  intro br ci hIt
  refine ow_nil ?_
  refine xw_then ?_
  refine cw_block ?_
  refine cw_flat (ci :: c8 :: G) (.of_eq (by simp)) ?_
  refine cw_loop2 (ι := ((Option (Int × Value) × List (Int × Value) × Hp × (Int → Option Value) × Hp))) [(2, _), (3, _), (10, _)] ⟨rfl, rfl, rfl, trivial⟩ ((fun x => [])) ((fun x => ItAt .u64 v c br x.1 x.2.1 x.2.2.1 ∧ MapG .u64 x.2.2.2.1 b8 x.2.2.2.2 ∧ (∀ k u, x.2.2.2.1 k = some u → Go.Sl.look m k = some u) ∧ (∀ q ∈ m, q ∈ x.2.1 ∨ x.2.2.2.1 q.1 = some q.2) ∧ (∀ q ∈ x.2.1, q ∈ m))) ((fun x => x.2.1.length)) ((fun x => x.2.2.1 :: x.2.2.2.2 :: G)) (((none, m, ci, (fun _ => none), c8) : Option (Int × Value) × List (Int × Value) × Hp × (Int → Option Value) × Hp)) (by repeat (first | exact True.intro | refine And.intro rfl ?_)) (by first | exact Cov.refl _ | (intro p; simp only [List.flatten_cons, List.flatten_nil, List.flatten_append, List.append_nil, List.nil_append, cnt_append, cnt_cons, cnt_nil, List.set_cons_zero, List.set_cons_succ, List.length_nil, List.length_cons, Nat.zero_add, List.append]; omega)) ?_ ?_
  · exact ⟨hIt, h8, (fun k u h => by cases h), (fun q hq => .inl hq), (fun q hq => hq)⟩
  rintro ⟨cur, rem, c1, g, c2⟩ ⟨i1, i2, i3, i4, i5⟩
  dsimp only at i1 i2 i3 i4 i5 ⊢
  refine cw_seq ?_
  refine cw_region ?_
  refine ow_next (kd := .u64) rfl rfl rfl .here (by repeat (first | exact Sub.here | exact Sub.nil | assumption | refine Sub.there ?_)) i1 ?_ ?_
  · intro h0
    subst h0
    refine ow_val rfl rfl (v_extract rfl rfl) ?_
    refine ow_nil ?_
    refine xw_then ?_
    refine cw_seq ?_
    refine cw_false rfl ?_
    refine cw_exit ?_
    refine xw_then_exit ?_
    refine xw_round_exit ?_
    refine xw_block_exit ?_
    refine xw_then ?_
    refine cw_seq ?_
    refine cw_region ?_
    refine ow_val rfl rfl (v_move rfl) ?_
    refine ow_val rfl rfl (v_assign rfl) ?_
    refine ow_nil ?_
    refine xw_then ?_
    refine cw_ret ?_
    refine ret1 rfl (res_tmp rfl) ?_
    refine ⟨(b8, c2), rfl, i2.congr fun k => ?_, (by first | exact Cov.refl _ | (intro p; simp only [List.flatten_cons, List.flatten_nil, List.flatten_append, List.append_nil, List.nil_append, cnt_append, cnt_cons, cnt_nil, List.set_cons_zero, List.set_cons_succ, List.length_nil, List.length_cons, Nat.zero_add, List.append]; omega))⟩
    cases hl : Go.Sl.look m k with
    | none =>
      cases hg : g k with
      | none => rfl
      | some u => rw [i3 k u hg] at hl; cases hl
    | some u =>
      have h1 := (look_mem hnd).1 hl
      rcases i4 _ h1 with h2 | h2
      · cases h2
      · exact h2
  · intro k u rem' c1' hp hI
    have hku : (k, u) ∈ m := i5 _ (hp.mem_iff.2 (List.mem_cons_self ..))
    have hlk : Go.Sl.look m k = some u := (look_mem hnd).2 hku
    have hoku := hok _ hku
    skip
    refine ow_val rfl rfl (v_extract rfl rfl) ?_
    refine ow_nil ?_
    refine xw_then ?_
    refine cw_seq ?_
    refine cw_true rfl ?_
    refine cw_skip ?_
    refine xw_then ?_
    refine cw_block ?_
    refine cw_seq ?_
    refine cw_region ?_
    refine ow_val rfl rfl (v_entry rfl .here (by repeat (first | exact Sub.here | exact Sub.nil | assumption | refine Sub.there ?_)) hI) ?_
    refine ow_val rfl rfl (v_extract rfl rfl) ?_
    refine ow_val rfl rfl (v_extract rfl rfl) ?_
    refine ow_val rfl rfl (v_assign rfl) ?_
    refine ow_val rfl rfl (v_assign rfl) ?_
    refine ow_nil ?_
    refine xw_then ?_
    refine cw_region ?_
    refine ow_val rfl rfl (v_move rfl) ?_
    refine ow_val rfl rfl (v_move rfl) ?_
    refine ow_val rfl rfl (v_move rfl) ?_
    refine ow_mapUpdateG (kd := .u64) rfl Try.underlying73 Try.underlying22 rfl rfl rfl (by repeat (first | exact Sel.here | apply Sel.there)) i2 ?_
    intro c2' i2'
    refine ow_nil ?_
    refine xw_block ?_
    refine xw_round ((some (k, _), rem', c1', (fun j => if j = k then some _ else g j), c2') : Option (Int × Value) × List (Int × Value) × Hp × (Int → Option Value) × Hp) ⟨hI, i2', fun j w hj => ?_, fun q hq => ?_, fun q hq => i5 q (hp.mem_iff.2 (List.mem_cons_of_mem _ hq))⟩ (by have := hp.length_eq; simp only [List.length_cons] at this; dsimp only; omega) (by first | exact Cov.refl _ | (intro p; simp only [List.flatten_cons, List.flatten_nil, List.flatten_append, List.append_nil, List.nil_append, cnt_append, cnt_cons, cnt_nil, List.set_cons_zero, List.set_cons_succ, List.length_nil, List.length_cons, Nat.zero_add, List.append]; omega)) (by repeat (first | exact True.intro | refine And.intro rfl ?_))
    · dsimp only at hj
      by_cases hjk : j = k
      · subst hjk; rw [if_pos rfl] at hj; rw [← hj]; exact hlk
      · rw [if_neg hjk] at hj; exact i3 j w hj
    · dsimp only
      by_cases hqk : q.1 = k
      · right
        rw [if_pos hqk]
        have h3 : Go.Sl.look m q.1 = some q.2 := (look_mem hnd).2 hq
        rw [hqk, hlk] at h3
        exact h3
      · rw [if_neg hqk]
        rcases i4 q hq with h2 | h2
        · rcases List.mem_cons.1 (hp.mem_iff.1 h2) with h3 | h3
          · exact absurd (by rw [h3]) hqk
          · exact .inl h3
        · exact .inr h2

set_option maxHeartbeats 4000000 in
theorem copiedS_c {B : Nat} {w0 : World} {G : List Hp} {m : List (Int × Value)} {v : Value} {c : Hp} (hM : MapV .u64 m v c) (hs : Sub c G) (hok : ∀ q ∈ m, True) :
    Go.Sl.Fn Try.prog 78 #[v] B w0 G fun u G' => ∃ y : Nat × Hp, u = .map (some y.1) ∧ MapG .u64 (Go.Sl.look m) y.1 y.2 ∧ G' = [y.2] ++ G := by
  refine Fn.new ?_
  have hnd := hM.nd
  refine fn_enter Try.func78 rfl (by kernel_rfl) Try.ntmps78 (by simp) ?_
  refine cw_seq ?_
  refine cw_region ?_
  refine ow_val rfl rfl (v_assign rfl) ?_
  refine ow_nil ?_
  refine xw_then ?_
  refine cw_seq ?_
  refine cw_region ?_
  refine ow_val rfl rfl (v_move rfl) ?_
  refine ow_val rfl rfl (v_lenMap rfl Try.underlying72 rfl (by repeat (first | exact Sub.here | exact Sub.nil | assumption | refine Sub.there ?_)) hM) ?_
  refine ow_makeMapN (kd := .u64) rfl rfl Try.underlying72 rfl ?_
  intro b8 c8 h8
  refine ow_val rfl rfl (v_assign rfl) ?_
  refine ow_nil ?_
  refine xw_then ?_
  refine cw_seq ?_
  refine cw_seq ?_
  refine cw_region ?_
  refine ow_val rfl rfl (v_move rfl) ?_
  refine ow_range (kd := .u64) rfl rfl Try.underlying72 rfl (by repeat (first | exact Sub.here | exact Sub.nil | assumption | refine Sub.there ?_)) hM ?_
  intro br ci hIt
  refine ow_nil ?_
  refine xw_then ?_
  refine cw_block ?_
  refine cw_flat (ci :: c8 :: G) (.of_eq (by simp)) ?_
  refine cw_loop2 (ι := ((Option (Int × Value) × List (Int × Value) × Hp × (Int → Option Value) × Hp))) [(2, _), (3, _), (10, _)] ⟨rfl, rfl, rfl, trivial⟩ ((fun x => [])) ((fun x => ItAt .u64 v c br x.1 x.2.1 x.2.2.1 ∧ MapG .u64 x.2.2.2.1 b8 x.2.2.2.2 ∧ (∀ k u, x.2.2.2.1 k = some u → Go.Sl.look m k = some u) ∧ (∀ q ∈ m, q ∈ x.2.1 ∨ x.2.2.2.1 q.1 = some q.2) ∧ (∀ q ∈ x.2.1, q ∈ m))) ((fun x => x.2.1.length)) ((fun x => x.2.2.1 :: x.2.2.2.2 :: G)) (((none, m, ci, (fun _ => none), c8) : Option (Int × Value) × List (Int × Value) × Hp × (Int → Option Value) × Hp)) (by repeat (first | exact True.intro | refine And.intro rfl ?_)) (by first | exact Cov.refl _ | (intro p; simp only [List.flatten_cons, List.flatten_nil, List.flatten_append, List.append_nil, List.nil_append, cnt_append, cnt_cons, cnt_nil, List.set_cons_zero, List.set_cons_succ, List.length_nil, List.length_cons, Nat.zero_add, List.append]; omega)) ?_ ?_
  · exact ⟨hIt, h8, (fun k u h => by cases h), (fun q hq => .inl hq), (fun q hq => hq)⟩
  rintro ⟨cur, rem, c1, g, c2⟩ ⟨i1, i2, i3, i4, i5⟩
  dsimp only at i1 i2 i3 i4 i5 ⊢
  refine cw_seq ?_
  refine cw_region ?_
  refine ow_next (kd := .u64) rfl rfl rfl .here (by repeat (first | exact Sub.here | exact Sub.nil | assumption | refine Sub.there ?_)) i1 ?_ ?_
  · intro h0
    subst h0
    refine ow_val rfl rfl (v_extract rfl rfl) ?_
    refine ow_nil ?_
    refine xw_then ?_
    refine cw_seq ?_
    refine cw_false rfl ?_
    refine cw_exit ?_
    refine xw_then_exit ?_
    refine xw_round_exit ?_
    refine xw_block_exit ?_
    refine xw_then ?_
    refine cw_seq ?_
    refine cw_region ?_
    refine ow_val rfl rfl (v_move rfl) ?_
    refine ow_val rfl rfl (v_assign rfl) ?_
    refine ow_nil ?_
    refine xw_then ?_
    refine cw_ret ?_
    refine ret1 rfl (res_tmp rfl) ?_
    refine ⟨(b8, c2), rfl, i2.congr fun k => ?_, (by first | exact Cov.refl _ | (intro p; simp only [List.flatten_cons, List.flatten_nil, List.flatten_append, List.append_nil, List.nil_append, cnt_append, cnt_cons, cnt_nil, List.set_cons_zero, List.set_cons_succ, List.length_nil, List.length_cons, Nat.zero_add, List.append]; omega))⟩
    cases hl : Go.Sl.look m k with
    | none =>
      cases hg : g k with
      | none => rfl
      | some u => rw [i3 k u hg] at hl; cases hl
    | some u =>
      have h1 := (look_mem hnd).1 hl
      rcases i4 _ h1 with h2 | h2
      · cases h2
      · exact h2
  · intro k u rem' c1' hp hI
    have hku : (k, u) ∈ m := i5 _ (hp.mem_iff.2 (List.mem_cons_self ..))
    have hlk : Go.Sl.look m k = some u := (look_mem hnd).2 hku
    have hoku := hok _ hku
    skip
    refine ow_val rfl rfl (v_extract rfl rfl) ?_
    refine ow_nil ?_
    refine xw_then ?_
    refine cw_seq ?_
    refine cw_true rfl ?_
    refine cw_skip ?_
    refine xw_then ?_
    refine cw_block ?_
    refine cw_seq ?_
    refine cw_region ?_
    refine ow_val rfl rfl (v_entry rfl .here (by repeat (first | exact Sub.here | exact Sub.nil | assumption | refine Sub.there ?_)) hI) ?_
    refine ow_val rfl rfl (v_extract rfl rfl) ?_
    refine ow_val rfl rfl (v_extract rfl rfl) ?_
    refine ow_val rfl rfl (v_assign rfl) ?_
    refine ow_val rfl rfl (v_assign rfl) ?_
    refine ow_nil ?_
    refine xw_then ?_
    refine cw_region ?_
    refine ow_val rfl rfl (v_move rfl) ?_
    refine ow_val rfl rfl (v_move rfl) ?_
    refine ow_val rfl rfl (v_move rfl) ?_
    refine ow_mapUpdateG (kd := .u64) rfl Try.underlying72 Try.underlying22 rfl rfl rfl (by repeat (first | exact Sel.here | apply Sel.there)) i2 ?_
    intro c2' i2'
    refine ow_nil ?_
    refine xw_block ?_
    refine xw_round ((some (k, _), rem', c1', (fun j => if j = k then some _ else g j), c2') : Option (Int × Value) × List (Int × Value) × Hp × (Int → Option Value) × Hp) ⟨hI, i2', fun j w hj => ?_, fun q hq => ?_, fun q hq => i5 q (hp.mem_iff.2 (List.mem_cons_of_mem _ hq))⟩ (by have := hp.length_eq; simp only [List.length_cons] at this; dsimp only; omega) (by first | exact Cov.refl _ | (intro p; simp only [List.flatten_cons, List.flatten_nil, List.flatten_append, List.append_nil, List.nil_append, cnt_append, cnt_cons, cnt_nil, List.set_cons_zero, List.set_cons_succ, List.length_nil, List.length_cons, Nat.zero_add, List.append]; omega)) (by repeat (first | exact True.intro | refine And.intro rfl ?_))
    · dsimp only at hj
      by_cases hjk : j = k
      · subst hjk; rw [if_pos rfl] at hj; rw [← hj]; exact hlk
      · rw [if_neg hjk] at hj; exact i3 j w hj
    · dsimp only
      by_cases hqk : q.1 = k
      · right
        rw [if_pos hqk]
        have h3 : Go.Sl.look m q.1 = some q.2 := (look_mem hnd).2 hq
        rw [hqk, hlk] at h3
        exact h3
      · rw [if_neg hqk]
        rcases i4 q hq with h2 | h2
        · rcases List.mem_cons.1 (hp.mem_iff.1 h2) with h3 | h3
          · exact absurd (by rw [h3]) hqk
          · exact .inl h3
        · exact .inr h2

set_option maxHeartbeats 4000000 in
theorem copiedC_c {B : Nat} {w0 : World} {G : List Hp} {m : List (Int × Value)} {v : Value} {c : Hp} (hM : MapV .u64 m v c) (hs : Sub c G) (hok : ∀ q ∈ m, ∃ l, l.length = 4 ∧ q.2 = lsV l) :
    Go.Sl.Fn Try.prog 76 #[v] B w0 G fun u G' => ∃ y : Nat × Hp, u = .map (some y.1) ∧ MapG .u64 (Go.Sl.look m) y.1 y.2 ∧ G' = [y.2] ++ G := by
  refine Fn.new ?_
  have hnd := hM.nd
  refine fn_enter Try.func76 rfl (by kernel_rfl) Try.ntmps76 (by simp) ?_
  refine cw_seq ?_
  refine cw_region ?_
  refine ow_val rfl rfl (v_assign rfl) ?_
  refine ow_nil ?_
  refine xw_then ?_
  refine cw_seq ?_
  refine cw_region ?_
  refine ow_val rfl rfl (v_move rfl) ?_
  refine ow_val rfl rfl (v_lenMap rfl Try.underlying70 rfl (by repeat (first | exact Sub.here | exact Sub.nil | assumption | refine Sub.there ?_)) hM) ?_
  refine ow_makeMapN (kd := .u64) rfl rfl Try.underlying70 rfl ?_
  intro b8 c8 h8
  refine ow_val rfl rfl (v_assign rfl) ?_
  refine ow_nil ?_
  refine xw_then ?_
  refine cw_seq ?_
  refine cw_seq ?_
  refine cw_region ?_
  refine ow_val rfl rfl (v_move rfl) ?_
  refine ow_range (kd := .u64) rfl rfl Try.underlying70 rfl (by repeat (first | exact Sub.here | exact Sub.nil | assumption | refine Sub.there ?_)) hM ?_
  intro br ci hIt
  refine ow_nil ?_
  refine xw_then ?_
  refine cw_block ?_
  refine cw_flat (ci :: c8 :: G) (.of_eq (by simp)) ?_
  refine cw_loop2 (ι := ((Option (Int × Value) × List (Int × Value) × Hp × (Int → Option Value) × Hp))) [(2, _), (3, _), (10, _)] ⟨rfl, rfl, rfl, trivial⟩ ((fun x => [])) ((fun x => ItAt .u64 v c br x.1 x.2.1 x.2.2.1 ∧ MapG .u64 x.2.2.2.1 b8 x.2.2.2.2 ∧ (∀ k u, x.2.2.2.1 k = some u → Go.Sl.look m k = some u) ∧ (∀ q ∈ m, q ∈ x.2.1 ∨ x.2.2.2.1 q.1 = some q.2) ∧ (∀ q ∈ x.2.1, q ∈ m))) ((fun x => x.2.1.length)) ((fun x => x.2.2.1 :: x.2.2.2.2 :: G)) (((none, m, ci, (fun _ => none), c8) : Option (Int × Value) × List (Int × Value) × Hp × (Int → Option Value) × Hp)) (by repeat (first | exact True.intro | refine And.intro rfl ?_)) (by first | exact Cov.refl _ | (intro p; simp only [List.flatten_cons, List.flatten_nil, List.flatten_append, List.append_nil, List.nil_append, cnt_append, cnt_cons, cnt_nil, List.set_cons_zero, List.set_cons_succ, List.length_nil, List.length_cons, Nat.zero_add, List.append]; omega)) ?_ ?_
  · exact ⟨hIt, h8, (fun k u h => by cases h), (fun q hq => .inl hq), (fun q hq => hq)⟩
  rintro ⟨cur, rem, c1, g, c2⟩ ⟨i1, i2, i3, i4, i5⟩
  dsimp only at i1 i2 i3 i4 i5 ⊢
  refine cw_seq ?_
  refine cw_region ?_
  refine ow_next (kd := .u64) rfl rfl rfl .here (by repeat (first | exact Sub.here | exact Sub.nil | assumption | refine Sub.there ?_)) i1 ?_ ?_
  · intro h0
    subst h0
    refine ow_val rfl rfl (v_extract rfl rfl) ?_
    refine ow_nil ?_
    refine xw_then ?_
    refine cw_seq ?_
    refine cw_false rfl ?_
    refine cw_exit ?_
    refine xw_then_exit ?_
    refine xw_round_exit ?_
    refine xw_block_exit ?_
    refine xw_then ?_
    refine cw_seq ?_
    refine cw_region ?_
    refine ow_val rfl rfl (v_move rfl) ?_
    refine ow_val rfl rfl (v_assign rfl) ?_
    refine ow_nil ?_
    refine xw_then ?_
    refine cw_ret ?_
    refine ret1 rfl (res_tmp rfl) ?_
    refine ⟨(b8, c2), rfl, i2.congr fun k => ?_, (by first | exact Cov.refl _ | (intro p; simp only [List.flatten_cons, List.flatten_nil, List.flatten_append, List.append_nil, List.nil_append, cnt_append, cnt_cons, cnt_nil, List.set_cons_zero, List.set_cons_succ, List.length_nil, List.length_cons, Nat.zero_add, List.append]; omega))⟩
    cases hl : Go.Sl.look m k with
    | none =>
      cases hg : g k with
      | none => rfl
      | some u => rw [i3 k u hg] at hl; cases hl
    | some u =>
      have h1 := (look_mem hnd).1 hl
      rcases i4 _ h1 with h2 | h2
      · cases h2
      · exact h2
  · intro k u rem' c1' hp hI
    have hku : (k, u) ∈ m := i5 _ (hp.mem_iff.2 (List.mem_cons_self ..))
    have hlk : Go.Sl.look m k = some u := (look_mem hnd).2 hku
    have hoku := hok _ hku
    obtain ⟨l, hl4, rfl⟩ := hoku
    obtain ⟨z0, z1, z2, z3, rfl⟩ := list4 hl4
    have ho1 : ∀ u ∈ [Value.int .u64 z0, .int .u64 z1, .int .u64 z2, .int .u64 z3], u.oneCell' = true := one_u64 [z0, z1, z2, z3]
    simp only [lsV, List.map_cons, List.map_nil] at hI hp hku hlk
    refine ow_val rfl rfl (v_extract rfl rfl) ?_
    refine ow_nil ?_
    refine xw_then ?_
    refine cw_seq ?_
    refine cw_true rfl ?_
    refine cw_skip ?_
    refine xw_then ?_
    refine cw_block ?_
    refine cw_seq ?_
    refine cw_region ?_
    refine ow_val rfl rfl (v_entry rfl .here (by repeat (first | exact Sub.here | exact Sub.nil | assumption | refine Sub.there ?_)) hI) ?_
    refine ow_val rfl rfl (v_extract rfl rfl) ?_
    refine ow_val rfl rfl (v_extract rfl rfl) ?_
    (refine ow_alloc rfl rfl Ty.ze123 ?_; intro b5)
    refine ow_val rfl rfl (v_assign rfl) ?_
    refine ow_storeN rfl rfl rfl Ty.ag123 (by first | rfl | assumption) (by first | assumption | simp) .here (SetN.all (by first | rfl | assumption | simp_all)) ?_
    refine ow_nil ?_
    refine xw_then ?_
    refine cw_region ?_
    refine ow_val rfl rfl (v_move rfl) ?_
    refine ow_val rfl rfl (v_move rfl) ?_
    refine ow_val rfl rfl (v_load rfl (Var.atN Ty.ag123 .here GetN.all (by first | rfl | assumption))) ?_
    refine ow_mapUpdateG (kd := .u64) rfl Try.underlying70 Try.underlying22 rfl rfl rfl (by repeat (first | exact Sel.here | apply Sel.there)) i2 ?_
    intro c2' i2'
    refine ow_nil ?_
    refine xw_block ?_
    refine xw_round ((some (k, _), rem', c1', (fun j => if j = k then some _ else g j), c2') : Option (Int × Value) × List (Int × Value) × Hp × (Int → Option Value) × Hp) ⟨hI, i2', fun j w hj => ?_, fun q hq => ?_, fun q hq => i5 q (hp.mem_iff.2 (List.mem_cons_of_mem _ hq))⟩ (by have := hp.length_eq; simp only [List.length_cons] at this; dsimp only; omega) (by first | exact Cov.refl _ | (intro p; simp only [List.flatten_cons, List.flatten_nil, List.flatten_append, List.append_nil, List.nil_append, cnt_append, cnt_cons, cnt_nil, List.set_cons_zero, List.set_cons_succ, List.length_nil, List.length_cons, Nat.zero_add, List.append]; omega)) (by repeat (first | exact True.intro | refine And.intro rfl ?_))
    · dsimp only at hj
      by_cases hjk : j = k
      · subst hjk; rw [if_pos rfl] at hj; rw [← hj]; exact hlk
      · rw [if_neg hjk] at hj; exact i3 j w hj
    · dsimp only
      by_cases hqk : q.1 = k
      · right
        rw [if_pos hqk]
        have h3 : Go.Sl.look m q.1 = some q.2 := (look_mem hnd).2 hq
        rw [hqk, hlk] at h3
        exact h3
      · rw [if_neg hqk]
        rcases i4 q hq with h2 | h2
        · rcases List.mem_cons.1 (hp.mem_iff.1 h2) with h3 | h3
          · exact absurd (by rw [h3]) hqk
          · exact .inl h3
        · exact .inr h2

set_option maxHeartbeats 4000000 in
theorem copiedT_c {B : Nat} {w0 : World} {G : List Hp} {m : List (Int × Value)} {v : Value} {c : Hp} (hM : MapV .u64 m v c) (hs : Sub c G) (hok : ∀ q ∈ m, ∃ l, l.length = 6 ∧ q.2 = lsV l) :
    Go.Sl.Fn Try.prog 77 #[v] B w0 G fun u G' => ∃ y : Nat × Hp, u = .map (some y.1) ∧ MapG .u64 (Go.Sl.look m) y.1 y.2 ∧ G' = [y.2] ++ G := by
  refine Fn.new ?_
  have hnd := hM.nd
  refine fn_enter Try.func77 rfl (by kernel_rfl) Try.ntmps77 (by simp) ?_
  refine cw_seq ?_
  refine cw_region ?_
  refine ow_val rfl rfl (v_assign rfl) ?_
  refine ow_nil ?_
  refine xw_then ?_
  refine cw_seq ?_
  refine cw_region ?_
  refine ow_val rfl rfl (v_move rfl) ?_
  refine ow_val rfl rfl (v_lenMap rfl Try.underlying71 rfl (by repeat (first | exact Sub.here | exact Sub.nil | assumption | refine Sub.there ?_)) hM) ?_
  refine ow_makeMapN (kd := .u64) rfl rfl Try.underlying71 rfl ?_
  intro b8 c8 h8
  refine ow_val rfl rfl (v_assign rfl) ?_
  refine ow_nil ?_
  refine xw_then ?_
  refine cw_seq ?_
  refine cw_seq ?_
  refine cw_region ?_
  refine ow_val rfl rfl (v_move rfl) ?_
  refine ow_range (kd := .u64) rfl rfl Try.underlying71 rfl (by repeat (first | exact Sub.here | exact Sub.nil | assumption | refine Sub.there ?_)) hM ?_
  intro br ci hIt
  refine ow_nil ?_
  refine xw_then ?_
  refine cw_block ?_
  refine cw_flat (ci :: c8 :: G) (.of_eq (by simp)) ?_
  refine cw_loop2 (ι := ((Option (Int × Value) × List (Int × Value) × Hp × (Int → Option Value) × Hp))) [(2, _), (3, _), (10, _)] ⟨rfl, rfl, rfl, trivial⟩ ((fun x => [])) ((fun x => ItAt .u64 v c br x.1 x.2.1 x.2.2.1 ∧ MapG .u64 x.2.2.2.1 b8 x.2.2.2.2 ∧ (∀ k u, x.2.2.2.1 k = some u → Go.Sl.look m k = some u) ∧ (∀ q ∈ m, q ∈ x.2.1 ∨ x.2.2.2.1 q.1 = some q.2) ∧ (∀ q ∈ x.2.1, q ∈ m))) ((fun x => x.2.1.length)) ((fun x => x.2.2.1 :: x.2.2.2.2 :: G)) (((none, m, ci, (fun _ => none), c8) : Option (Int × Value) × List (Int × Value) × Hp × (Int → Option Value) × Hp)) (by repeat (first | exact True.intro | refine And.intro rfl ?_)) (by first | exact Cov.refl _ | (intro p; simp only [List.flatten_cons, List.flatten_nil, List.flatten_append, List.append_nil, List.nil_append, cnt_append, cnt_cons, cnt_nil, List.set_cons_zero, List.set_cons_succ, List.length_nil, List.length_cons, Nat.zero_add, List.append]; omega)) ?_ ?_
  · exact ⟨hIt, h8, (fun k u h => by cases h), (fun q hq => .inl hq), (fun q hq => hq)⟩
  rintro ⟨cur, rem, c1, g, c2⟩ ⟨i1, i2, i3, i4, i5⟩
  dsimp only at i1 i2 i3 i4 i5 ⊢
  refine cw_seq ?_
  refine cw_region ?_
  refine ow_next (kd := .u64) rfl rfl rfl .here (by repeat (first | exact Sub.here | exact Sub.nil | assumption | refine Sub.there ?_)) i1 ?_ ?_
  · intro h0
    subst h0
    refine ow_val rfl rfl (v_extract rfl rfl) ?_
    refine ow_nil ?_
    refine xw_then ?_
    refine cw_seq ?_
    refine cw_false rfl ?_
    refine cw_exit ?_
    refine xw_then_exit ?_
    refine xw_round_exit ?_
    refine xw_block_exit ?_
    refine xw_then ?_
    refine cw_seq ?_
    refine cw_region ?_
    refine ow_val rfl rfl (v_move rfl) ?_
    refine ow_val rfl rfl (v_assign rfl) ?_
    refine ow_nil ?_
    refine xw_then ?_
    refine cw_ret ?_
    refine ret1 rfl (res_tmp rfl) ?_
    refine ⟨(b8, c2), rfl, i2.congr fun k => ?_, (by first | exact Cov.refl _ | (intro p; simp only [List.flatten_cons, List.flatten_nil, List.flatten_append, List.append_nil, List.nil_append, cnt_append, cnt_cons, cnt_nil, List.set_cons_zero, List.set_cons_succ, List.length_nil, List.length_cons, Nat.zero_add, List.append]; omega))⟩
    cases hl : Go.Sl.look m k with
    | none =>
      cases hg : g k with
      | none => rfl
      | some u => rw [i3 k u hg] at hl; cases hl
    | some u =>
      have h1 := (look_mem hnd).1 hl
      rcases i4 _ h1 with h2 | h2
      · cases h2
      · exact h2
  · intro k u rem' c1' hp hI
    have hku : (k, u) ∈ m := i5 _ (hp.mem_iff.2 (List.mem_cons_self ..))
    have hlk : Go.Sl.look m k = some u := (look_mem hnd).2 hku
    have hoku := hok _ hku
    obtain ⟨l, hl4, rfl⟩ := hoku
    obtain ⟨z0, z1, z2, z3, z4, z5, rfl⟩ := list6 hl4
    have ho1 : ∀ u ∈ [Value.int .u64 z0, .int .u64 z1, .int .u64 z2, .int .u64 z3, .int .u64 z4, .int .u64 z5], u.oneCell' = true := one_u64 [z0, z1, z2, z3, z4, z5]
    simp only [lsV, List.map_cons, List.map_nil] at hI hp hku hlk
    refine ow_val rfl rfl (v_extract rfl rfl) ?_
    refine ow_nil ?_
    refine xw_then ?_
    refine cw_seq ?_
    refine cw_true rfl ?_
    refine cw_skip ?_
    refine xw_then ?_
    refine cw_block ?_
    refine cw_seq ?_
    refine cw_region ?_
    refine ow_val rfl rfl (v_entry rfl .here (by repeat (first | exact Sub.here | exact Sub.nil | assumption | refine Sub.there ?_)) hI) ?_
    refine ow_val rfl rfl (v_extract rfl rfl) ?_
    refine ow_val rfl rfl (v_extract rfl rfl) ?_
    (refine ow_alloc rfl rfl Ty.ze126 ?_; intro b5)
    refine ow_val rfl rfl (v_assign rfl) ?_
    refine ow_storeN rfl rfl rfl Ty.ag126 (by first | rfl | assumption) (by first | assumption | simp) .here (SetN.all (by first | rfl | assumption | simp_all)) ?_
    refine ow_nil ?_
    refine xw_then ?_
    refine cw_region ?_
    refine ow_val rfl rfl (v_move rfl) ?_
    refine ow_val rfl rfl (v_move rfl) ?_
    refine ow_val rfl rfl (v_load rfl (Var.atN Ty.ag126 .here GetN.all (by first | rfl | assumption))) ?_
    refine ow_mapUpdateG (kd := .u64) rfl Try.underlying71 Try.underlying22 rfl rfl rfl (by repeat (first | exact Sel.here | apply Sel.there)) i2 ?_
    intro c2' i2'
    refine ow_nil ?_
    refine xw_block ?_
    refine xw_round ((some (k, _), rem', c1', (fun j => if j = k then some _ else g j), c2') : Option (Int × Value) × List (Int × Value) × Hp × (Int → Option Value) × Hp) ⟨hI, i2', fun j w hj => ?_, fun q hq => ?_, fun q hq => i5 q (hp.mem_iff.2 (List.mem_cons_of_mem _ hq))⟩ (by have := hp.length_eq; simp only [List.length_cons] at this; dsimp only; omega) (by first | exact Cov.refl _ | (intro p; simp only [List.flatten_cons, List.flatten_nil, List.flatten_append, List.append_nil, List.nil_append, cnt_append, cnt_cons, cnt_nil, List.set_cons_zero, List.set_cons_succ, List.length_nil, List.length_cons, Nat.zero_add, List.append]; omega)) (by repeat (first | exact True.intro | refine And.intro rfl ?_))
    · dsimp only at hj
      by_cases hjk : j = k
      · subst hjk; rw [if_pos rfl] at hj; rw [← hj]; exact hlk
      · rw [if_neg hjk] at hj; exact i3 j w hj
    · dsimp only
      by_cases hqk : q.1 = k
      · right
        rw [if_pos hqk]
        have h3 : Go.Sl.look m q.1 = some q.2 := (look_mem hnd).2 hq
        rw [hqk, hlk] at h3
        exact h3
      · rw [if_neg hqk]
        rcases i4 q hq with h2 | h2
        · rcases List.mem_cons.1 (hp.mem_iff.1 h2) with h3 | h3
          · exact absurd (by rw [h3]) hqk
          · exact .inl h3
        · exact .inr h2

set_option maxHeartbeats 4000000 in
theorem mapsEqU_c {B : Nat} {w0 : World} {G : List Hp} {m1 m2 : List (Int × Value)} {b1 b2 : Nat} {c1 c2 : Hp} {f : Int → Option Int} (h1 : MapR .u64 m1 b1 c1) (h2 : MapR .u64 m2 b2 c2) (s1 : Sub c1 G) (s2 : Sub c2 G)
    (e1 : ∀ k, Go.Sl.look m1 k = (f k).map (Value.int .u64)) (e2 : ∀ k, Go.Sl.look m2 k = (f k).map (Value.int .u64)) (hok : ∀ k a, f k = some a → True) :
    Go.Sl.Fn Try.prog 59 #[.map (some b1), .map (some b2)] B w0 G fun u G' => u = .bool true ∧ G' = G := by
  refine Fn.pure ?_
  have v1 : MapV .u64 m1 (.map (some b1)) c1 := .inr ⟨b1, rfl, h1⟩
  have v2 : MapV .u64 m2 (.map (some b2)) c2 := .inr ⟨b2, rfl, h2⟩
  have hnd := v1.nd
  have hlen : m1.length = m2.length := by
    have l1 := look_nodup_len v1.nd fun k v hk => by rw [e2, ← e1, hk]; simp
    have l2 := look_nodup_len v2.nd fun k v hk => by rw [e1, ← e2, hk]; simp
    omega
  have hg2 := h2.g.f
  refine fn_enter Try.func59 rfl (by kernel_rfl) Try.ntmps59 (by simp) ?_
  refine cw_seq ?_
  refine cw_region ?_
  refine ow_val rfl rfl (v_assign rfl) ?_
  refine ow_nil ?_
  refine xw_then ?_
  refine cw_seq ?_
  refine cw_seq ?_
  refine cw_region ?_
  refine ow_val rfl rfl (v_move rfl) ?_
  refine ow_val rfl rfl (v_lenMap rfl Try.underlying73 rfl (by repeat (first | exact Sub.here | exact Sub.nil | assumption | refine Sub.there ?_)) v1) ?_
  refine ow_val rfl rfl (v_move rfl) ?_
  refine ow_val rfl rfl (v_lenMap rfl Try.underlying73 rfl (by repeat (first | exact Sub.here | exact Sub.nil | assumption | refine Sub.there ?_)) v2) ?_
  refine ow_val rfl rfl (v_neq rfl rfl) ?_
  refine ow_nil ?_
  refine xw_then ?_
  refine cw_dec rfl (fun hc13 => ?_) (fun hc13 => ?_)
  (exfalso; omega)
  refine cw_skip ?_
  refine xw_then ?_
  refine cw_seq ?_
  refine cw_seq ?_
  refine cw_region ?_
  refine ow_val rfl rfl (v_move rfl) ?_
  refine ow_range (kd := .u64) rfl rfl Try.underlying73 rfl (by repeat (first | exact Sub.here | exact Sub.nil | assumption | refine Sub.there ?_)) v1 ?_
  intro br ci hIt
  refine ow_nil ?_
  refine xw_then ?_
  refine cw_block ?_
  refine cw_loop2 (ι := ((Option (Int × Value) × List (Int × Value) × Hp))) [(1, _), (15, _)] ⟨rfl, rfl, trivial⟩ ((fun x => [])) ((fun x => ItAt .u64 (.map (some b1)) c1 br x.1 x.2.1 x.2.2 ∧ (∀ q ∈ x.2.1, q ∈ m1))) ((fun x => x.2.1.length)) ((fun x => x.2.2 :: G)) (((none, m1, ci) : Option (Int × Value) × List (Int × Value) × Hp)) (by repeat (first | exact True.intro | refine And.intro rfl ?_)) (by first | exact Cov.refl _ | (intro p; simp only [List.flatten_cons, List.flatten_nil, List.flatten_append, List.append_nil, List.nil_append, cnt_append, cnt_cons, cnt_nil, List.set_cons_zero, List.set_cons_succ, List.length_nil, List.length_cons, Nat.zero_add, List.append]; omega)) ?_ ?_
  · exact ⟨hIt, fun q hq => hq⟩
  rintro ⟨cur, rem, cr⟩ ⟨i1, i5⟩
  dsimp only at i1 i5 ⊢
  refine cw_seq ?_
  refine cw_region ?_
  refine ow_next (kd := .u64) rfl rfl rfl .here (by repeat (first | exact Sub.here | exact Sub.nil | assumption | refine Sub.there ?_)) i1 ?_ ?_
  · intro h0
    subst h0
    refine ow_val rfl rfl (v_extract rfl rfl) ?_
    refine ow_nil ?_
    refine xw_then ?_
    refine cw_seq ?_
    refine cw_false rfl ?_
    refine cw_exit ?_
    refine xw_then_exit ?_
    refine xw_round_exit ?_
    refine xw_block_exit ?_
    refine xw_then ?_
    refine cw_seq ?_
    refine cw_region ?_
    refine ow_val rfl rfl (v_assign rfl) ?_
    refine ow_nil ?_
    refine xw_then ?_
    refine cw_ret ?_
    refine ret1 rfl (res_tmp rfl) ?_
    exact ⟨rfl, (by first | exact Cov.refl _ | (intro p; simp only [List.flatten_cons, List.flatten_nil, List.flatten_append, List.append_nil, List.nil_append, cnt_append, cnt_cons, cnt_nil, List.set_cons_zero, List.set_cons_succ, List.length_nil, List.length_cons, Nat.zero_add, List.append]; omega))⟩
  · intro k u rem' c1' hp hI
    have hku : (k, u) ∈ m1 := i5 _ (hp.mem_iff.2 (List.mem_cons_self ..))
    have hlk : Go.Sl.look m1 k = some u := (look_mem hnd).2 hku
    obtain ⟨a, hfa, rfl⟩ : ∃ a, f k = some a ∧ u = (Value.int .u64) a := by
      rw [e1] at hlk
      cases hfk : f k with
      | none => rw [hfk] at hlk; cases hlk
      | some a => rw [hfk] at hlk; exact ⟨a, rfl, (Option.some.inj hlk).symm⟩
    have hl2 : Go.Sl.look m2 k = some ((Value.int .u64) a) := by rw [e2, hfa]; rfl
    have hoka := hok k a hfa
    skip
    refine ow_val rfl rfl (v_extract rfl rfl) ?_
    refine ow_nil ?_
    refine xw_then ?_
    refine cw_seq ?_
    refine cw_true rfl ?_
    refine cw_skip ?_
    refine xw_then ?_
    refine cw_block ?_
    refine cw_seq ?_
    refine cw_region ?_
    refine ow_val rfl rfl (v_entry rfl .here (by repeat (first | exact Sub.here | exact Sub.nil | assumption | refine Sub.there ?_)) hI) ?_
    have hlk2 := fun (G' : List Hp) (hs' : Sub c2 G') (N : Nat) (E : Env) (ty : TypeId) (x y : Operand) (hx : Env.ev E x = some (.map (some b2))) (hy : Env.ev E y = some (.int .u64 k)) => v_lookupM (P := Try.prog) (B := B) (w0 := w0) (G := G') (N := N) (E := E) (ty := ty) (T := 73) (x := x) (y := y) Try.underlying73 Try.underlying22 (z := .int .u64 0) (fun w => by kernel_rfl) hx hy hs' hg2
    rw [hl2] at hlk2
    refine ow_val rfl rfl (v_extract rfl rfl) ?_
    refine ow_val rfl rfl (v_extract rfl rfl) ?_
    refine ow_val rfl rfl (v_assign rfl) ?_
    refine ow_val rfl rfl (v_assign rfl) ?_
    refine ow_nil ?_
    refine xw_then ?_
    refine cw_seq ?_
    refine cw_region ?_
    refine ow_val rfl rfl (v_move rfl) ?_
    refine ow_val rfl rfl (v_move rfl) ?_
    refine ow_val rfl rfl ((hlk2 _ (by repeat (first | exact Sub.here | exact Sub.nil | assumption | refine Sub.there ?_)) _ _ _ _ _ rfl rfl)) ?_
    refine ow_val rfl rfl (v_move rfl) ?_
    refine ow_val rfl rfl (v_extract rfl rfl) ?_
    refine ow_val rfl rfl (v_extract rfl rfl) ?_
    refine ow_val rfl rfl (v_assign rfl) ?_
    refine ow_val rfl rfl (v_assign rfl) ?_
    refine ow_nil ?_
    refine xw_then ?_
    refine cw_seq ?_
    refine cw_region ?_
    refine ow_val rfl rfl (v_move rfl) ?_
    refine ow_val rfl rfl (v_not_true rfl) ?_
    refine ow_val rfl rfl (v_move rfl) ?_
    refine ow_val rfl rfl (v_move rfl) ?_
    refine ow_val rfl rfl (v_move rfl) ?_
    refine ow_val rfl rfl (v_neq rfl rfl) ?_
    refine ow_val rfl rfl (v_pick_false rfl rfl) ?_
    refine ow_nil ?_
    refine xw_then ?_
    refine cw_dec rfl (fun hc33 => ?_) (fun hc33 => ?_)
    (exfalso; omega)
    refine cw_skip ?_
    refine xw_block ?_
    skip
    exact xw_round ((some (k, _), rem', c1') : Option (Int × Value) × List (Int × Value) × Hp) ⟨hI, fun q hq => i5 q (hp.mem_iff.2 (List.mem_cons_of_mem _ hq))⟩ (by have := hp.length_eq; simp only [List.length_cons] at this; dsimp only; omega) (by first | exact Cov.refl _ | (intro p; simp only [List.flatten_cons, List.flatten_nil, List.flatten_append, List.append_nil, List.nil_append, cnt_append, cnt_cons, cnt_nil, List.set_cons_zero, List.set_cons_succ, List.length_nil, List.length_cons, Nat.zero_add, List.append]; omega)) (by repeat (first | exact True.intro | refine And.intro rfl ?_))

set_option maxHeartbeats 4000000 in
theorem mapsEqS_c {B : Nat} {w0 : World} {G : List Hp} {m1 m2 : List (Int × Value)} {b1 b2 : Nat} {c1 c2 : Hp} {f : Int → Option ByteArray} (h1 : MapR .u64 m1 b1 c1) (h2 : MapR .u64 m2 b2 c2) (s1 : Sub c1 G) (s2 : Sub c2 G)
    (e1 : ∀ k, Go.Sl.look m1 k = (f k).map Value.string) (e2 : ∀ k, Go.Sl.look m2 k = (f k).map Value.string) (hok : ∀ k a, f k = some a → True) :
    Go.Sl.Fn Try.prog 58 #[.map (some b1), .map (some b2)] B w0 G fun u G' => u = .bool true ∧ G' = G := by
  refine Fn.pure ?_
  have v1 : MapV .u64 m1 (.map (some b1)) c1 := .inr ⟨b1, rfl, h1⟩
  have v2 : MapV .u64 m2 (.map (some b2)) c2 := .inr ⟨b2, rfl, h2⟩
  have hnd := v1.nd
  have hlen : m1.length = m2.length := by
    have l1 := look_nodup_len v1.nd fun k v hk => by rw [e2, ← e1, hk]; simp
    have l2 := look_nodup_len v2.nd fun k v hk => by rw [e1, ← e2, hk]; simp
    omega
  have hg2 := h2.g.f
  refine fn_enter Try.func58 rfl (by kernel_rfl) Try.ntmps58 (by simp) ?_
  refine cw_seq ?_
  refine cw_region ?_
  refine ow_val rfl rfl (v_assign rfl) ?_
  refine ow_nil ?_
  refine xw_then ?_
  refine cw_seq ?_
  refine cw_seq ?_
  refine cw_region ?_
  refine ow_val rfl rfl (v_move rfl) ?_
  refine ow_val rfl rfl (v_lenMap rfl Try.underlying72 rfl (by repeat (first | exact Sub.here | exact Sub.nil | assumption | refine Sub.there ?_)) v1) ?_
  refine ow_val rfl rfl (v_move rfl) ?_
  refine ow_val rfl rfl (v_lenMap rfl Try.underlying72 rfl (by repeat (first | exact Sub.here | exact Sub.nil | assumption | refine Sub.there ?_)) v2) ?_
  refine ow_val rfl rfl (v_neq rfl rfl) ?_
  refine ow_nil ?_
  refine xw_then ?_
  refine cw_dec rfl (fun hc13 => ?_) (fun hc13 => ?_)
  (exfalso; omega)
  refine cw_skip ?_
  refine xw_then ?_
  refine cw_seq ?_
  refine cw_seq ?_
  refine cw_region ?_
  refine ow_val rfl rfl (v_move rfl) ?_
  refine ow_range (kd := .u64) rfl rfl Try.underlying72 rfl (by repeat (first | exact Sub.here | exact Sub.nil | assumption | refine Sub.there ?_)) v1 ?_
  intro br ci hIt
  refine ow_nil ?_
  refine xw_then ?_
  refine cw_block ?_
  refine cw_loop2 (ι := ((Option (Int × Value) × List (Int × Value) × Hp))) [(1, _), (15, _)] ⟨rfl, rfl, trivial⟩ ((fun x => [])) ((fun x => ItAt .u64 (.map (some b1)) c1 br x.1 x.2.1 x.2.2 ∧ (∀ q ∈ x.2.1, q ∈ m1))) ((fun x => x.2.1.length)) ((fun x => x.2.2 :: G)) (((none, m1, ci) : Option (Int × Value) × List (Int × Value) × Hp)) (by repeat (first | exact True.intro | refine And.intro rfl ?_)) (by first | exact Cov.refl _ | (intro p; simp only [List.flatten_cons, List.flatten_nil, List.flatten_append, List.append_nil, List.nil_append, cnt_append, cnt_cons, cnt_nil, List.set_cons_zero, List.set_cons_succ, List.length_nil, List.length_cons, Nat.zero_add, List.append]; omega)) ?_ ?_
  · exact ⟨hIt, fun q hq => hq⟩
  rintro ⟨cur, rem, cr⟩ ⟨i1, i5⟩
  dsimp only at i1 i5 ⊢
  refine cw_seq ?_
  refine cw_region ?_
  refine ow_next (kd := .u64) rfl rfl rfl .here (by repeat (first | exact Sub.here | exact Sub.nil | assumption | refine Sub.there ?_)) i1 ?_ ?_
  · intro h0
    subst h0
    refine ow_val rfl rfl (v_extract rfl rfl) ?_
    refine ow_nil ?_
    refine xw_then ?_
    refine cw_seq ?_
    refine cw_false rfl ?_
    refine cw_exit ?_
    refine xw_then_exit ?_
    refine xw_round_exit ?_
    refine xw_block_exit ?_
    refine xw_then ?_
    refine cw_seq ?_
    refine cw_region ?_
    refine ow_val rfl rfl (v_assign rfl) ?_
    refine ow_nil ?_
    refine xw_then ?_
    refine cw_ret ?_
    refine ret1 rfl (res_tmp rfl) ?_
    exact ⟨rfl, (by first | exact Cov.refl _ | (intro p; simp only [List.flatten_cons, List.flatten_nil, List.flatten_append, List.append_nil, List.nil_append, cnt_append, cnt_cons, cnt_nil, List.set_cons_zero, List.set_cons_succ, List.length_nil, List.length_cons, Nat.zero_add, List.append]; omega))⟩
  · intro k u rem' c1' hp hI
    have hku : (k, u) ∈ m1 := i5 _ (hp.mem_iff.2 (List.mem_cons_self ..))
    have hlk : Go.Sl.look m1 k = some u := (look_mem hnd).2 hku
    obtain ⟨a, hfa, rfl⟩ : ∃ a, f k = some a ∧ u = Value.string a := by
      rw [e1] at hlk
      cases hfk : f k with
      | none => rw [hfk] at hlk; cases hlk
      | some a => rw [hfk] at hlk; exact ⟨a, rfl, (Option.some.inj hlk).symm⟩
    have hl2 : Go.Sl.look m2 k = some (Value.string a) := by rw [e2, hfa]; rfl
    have hoka := hok k a hfa
    skip
    refine ow_val rfl rfl (v_extract rfl rfl) ?_
    refine ow_nil ?_
    refine xw_then ?_
    refine cw_seq ?_
    refine cw_true rfl ?_
    refine cw_skip ?_
    refine xw_then ?_
    refine cw_block ?_
    refine cw_seq ?_
    refine cw_region ?_
    refine ow_val rfl rfl (v_entry rfl .here (by repeat (first | exact Sub.here | exact Sub.nil | assumption | refine Sub.there ?_)) hI) ?_
    have hlk2 := fun (G' : List Hp) (hs' : Sub c2 G') (N : Nat) (E : Env) (ty : TypeId) (x y : Operand) (hx : Env.ev E x = some (.map (some b2))) (hy : Env.ev E y = some (.int .u64 k)) => v_lookupM (P := Try.prog) (B := B) (w0 := w0) (G := G') (N := N) (E := E) (ty := ty) (T := 72) (x := x) (y := y) Try.underlying72 Try.underlying22 (z := .string ⟨#[]⟩) (fun w => by kernel_rfl) hx hy hs' hg2
    rw [hl2] at hlk2
    refine ow_val rfl rfl (v_extract rfl rfl) ?_
    refine ow_val rfl rfl (v_extract rfl rfl) ?_
    refine ow_val rfl rfl (v_assign rfl) ?_
    refine ow_val rfl rfl (v_assign rfl) ?_
    refine ow_nil ?_
    refine xw_then ?_
    refine cw_seq ?_
    refine cw_region ?_
    refine ow_val rfl rfl (v_move rfl) ?_
    refine ow_val rfl rfl (v_move rfl) ?_
    refine ow_val rfl rfl ((hlk2 _ (by repeat (first | exact Sub.here | exact Sub.nil | assumption | refine Sub.there ?_)) _ _ _ _ _ rfl rfl)) ?_
    refine ow_val rfl rfl (v_move rfl) ?_
    refine ow_val rfl rfl (v_extract rfl rfl) ?_
    refine ow_val rfl rfl (v_extract rfl rfl) ?_
    refine ow_val rfl rfl (v_assign rfl) ?_
    refine ow_val rfl rfl (v_assign rfl) ?_
    refine ow_nil ?_
    refine xw_then ?_
    refine cw_seq ?_
    refine cw_region ?_
    refine ow_val rfl rfl (v_move rfl) ?_
    refine ow_val rfl rfl (v_not_true rfl) ?_
    refine ow_val rfl rfl (v_move rfl) ?_
    refine ow_val rfl rfl (v_move rfl) ?_
    refine ow_val rfl rfl (v_move rfl) ?_
    refine ow_val rfl rfl (v_neqS rfl rfl) ?_
    refine ow_val rfl rfl (v_pick_false rfl rfl) ?_
    refine ow_nil ?_
    refine xw_then ?_
    refine cw_dec rfl (fun hc33 => ?_) (fun hc33 => ?_)
    refine cw_seq ?_
    refine cw_region ?_
    refine ow_val rfl rfl (v_assign rfl) ?_
    refine ow_nil ?_
    refine xw_then ?_
    refine cw_ret ?_
    refine xw_block_ret ?_
    refine xw_round_ret ?_
    refine xw_block_ret ?_
    refine xw_then_ret ?_
    refine ret1 rfl (res_tmp rfl) ?_
    rotate_left
    refine cw_skip ?_
    refine xw_block ?_
    rotate_left
    · exact absurd rfl hc33
    exact xw_round ((some (k, _), rem', c1') : Option (Int × Value) × List (Int × Value) × Hp) ⟨hI, fun q hq => i5 q (hp.mem_iff.2 (List.mem_cons_of_mem _ hq))⟩ (by have := hp.length_eq; simp only [List.length_cons] at this; dsimp only; omega) (by first | exact Cov.refl _ | (intro p; simp only [List.flatten_cons, List.flatten_nil, List.flatten_append, List.append_nil, List.nil_append, cnt_append, cnt_cons, cnt_nil, List.set_cons_zero, List.set_cons_succ, List.length_nil, List.length_cons, Nat.zero_add, List.append]; omega)) (by repeat (first | exact True.intro | refine And.intro rfl ?_))

set_option maxHeartbeats 4000000 in
theorem mapsEqC_c {B : Nat} {w0 : World} {G : List Hp} {m1 m2 : List (Int × Value)} {b1 b2 : Nat} {c1 c2 : Hp} {f : Int → Option (List Int)} (h1 : MapR .u64 m1 b1 c1) (h2 : MapR .u64 m2 b2 c2) (s1 : Sub c1 G) (s2 : Sub c2 G)
    (e1 : ∀ k, Go.Sl.look m1 k = (f k).map lsV) (e2 : ∀ k, Go.Sl.look m2 k = (f k).map lsV) (hok : ∀ k a, f k = some a → a.length = 4) :
    Go.Sl.Fn Try.prog 56 #[.map (some b1), .map (some b2)] B w0 G fun u G' => u = .bool true ∧ G' = G := by
  refine Fn.pure ?_
  have v1 : MapV .u64 m1 (.map (some b1)) c1 := .inr ⟨b1, rfl, h1⟩
  have v2 : MapV .u64 m2 (.map (some b2)) c2 := .inr ⟨b2, rfl, h2⟩
  have hnd := v1.nd
  have hlen : m1.length = m2.length := by
    have l1 := look_nodup_len v1.nd fun k v hk => by rw [e2, ← e1, hk]; simp
    have l2 := look_nodup_len v2.nd fun k v hk => by rw [e1, ← e2, hk]; simp
    omega
  have hg2 := h2.g.f
  refine fn_enter Try.func56 rfl (by kernel_rfl) Try.ntmps56 (by simp) ?_
  refine cw_seq ?_
  refine cw_region ?_
  refine ow_val rfl rfl (v_assign rfl) ?_
  refine ow_nil ?_
  refine xw_then ?_
  refine cw_seq ?_
  refine cw_seq ?_
  refine cw_region ?_
  refine ow_val rfl rfl (v_move rfl) ?_
  refine ow_val rfl rfl (v_lenMap rfl Try.underlying70 rfl (by repeat (first | exact Sub.here | exact Sub.nil | assumption | refine Sub.there ?_)) v1) ?_
  refine ow_val rfl rfl (v_move rfl) ?_
  refine ow_val rfl rfl (v_lenMap rfl Try.underlying70 rfl (by repeat (first | exact Sub.here | exact Sub.nil | assumption | refine Sub.there ?_)) v2) ?_
  refine ow_val rfl rfl (v_neq rfl rfl) ?_
  refine ow_nil ?_
  refine xw_then ?_
  refine cw_dec rfl (fun hc13 => ?_) (fun hc13 => ?_)
  (exfalso; omega)
  refine cw_skip ?_
  refine xw_then ?_
  refine cw_seq ?_
  refine cw_seq ?_
  refine cw_region ?_
  refine ow_val rfl rfl (v_move rfl) ?_
  refine ow_range (kd := .u64) rfl rfl Try.underlying70 rfl (by repeat (first | exact Sub.here | exact Sub.nil | assumption | refine Sub.there ?_)) v1 ?_
  intro br ci hIt
  refine ow_nil ?_
  refine xw_then ?_
  refine cw_block ?_
  refine cw_loop2 (ι := ((Option (Int × Value) × List (Int × Value) × Hp))) [(1, _), (15, _)] ⟨rfl, rfl, trivial⟩ ((fun x => [])) ((fun x => ItAt .u64 (.map (some b1)) c1 br x.1 x.2.1 x.2.2 ∧ (∀ q ∈ x.2.1, q ∈ m1))) ((fun x => x.2.1.length)) ((fun x => x.2.2 :: G)) (((none, m1, ci) : Option (Int × Value) × List (Int × Value) × Hp)) (by repeat (first | exact True.intro | refine And.intro rfl ?_)) (by first | exact Cov.refl _ | (intro p; simp only [List.flatten_cons, List.flatten_nil, List.flatten_append, List.append_nil, List.nil_append, cnt_append, cnt_cons, cnt_nil, List.set_cons_zero, List.set_cons_succ, List.length_nil, List.length_cons, Nat.zero_add, List.append]; omega)) ?_ ?_
  · exact ⟨hIt, fun q hq => hq⟩
  rintro ⟨cur, rem, cr⟩ ⟨i1, i5⟩
  dsimp only at i1 i5 ⊢
  refine cw_seq ?_
  refine cw_region ?_
  refine ow_next (kd := .u64) rfl rfl rfl .here (by repeat (first | exact Sub.here | exact Sub.nil | assumption | refine Sub.there ?_)) i1 ?_ ?_
  · intro h0
    subst h0
    refine ow_val rfl rfl (v_extract rfl rfl) ?_
    refine ow_nil ?_
    refine xw_then ?_
    refine cw_seq ?_
    refine cw_false rfl ?_
    refine cw_exit ?_
    refine xw_then_exit ?_
    refine xw_round_exit ?_
    refine xw_block_exit ?_
    refine xw_then ?_
    refine cw_seq ?_
    refine cw_region ?_
    refine ow_val rfl rfl (v_assign rfl) ?_
    refine ow_nil ?_
    refine xw_then ?_
    refine cw_ret ?_
    refine ret1 rfl (res_tmp rfl) ?_
    exact ⟨rfl, (by first | exact Cov.refl _ | (intro p; simp only [List.flatten_cons, List.flatten_nil, List.flatten_append, List.append_nil, List.nil_append, cnt_append, cnt_cons, cnt_nil, List.set_cons_zero, List.set_cons_succ, List.length_nil, List.length_cons, Nat.zero_add, List.append]; omega))⟩
  · intro k u rem' c1' hp hI
    have hku : (k, u) ∈ m1 := i5 _ (hp.mem_iff.2 (List.mem_cons_self ..))
    have hlk : Go.Sl.look m1 k = some u := (look_mem hnd).2 hku
    obtain ⟨a, hfa, rfl⟩ : ∃ a, f k = some a ∧ u = lsV a := by
      rw [e1] at hlk
      cases hfk : f k with
      | none => rw [hfk] at hlk; cases hlk
      | some a => rw [hfk] at hlk; exact ⟨a, rfl, (Option.some.inj hlk).symm⟩
    have hl2 : Go.Sl.look m2 k = some (lsV a) := by rw [e2, hfa]; rfl
    have hoka := hok k a hfa
    obtain ⟨z0, z1, z2, z3, rfl⟩ := list4 hoka
    have ho1 : ∀ u ∈ [Value.int .u64 z0, .int .u64 z1, .int .u64 z2, .int .u64 z3], u.oneCell' = true := one_u64 [z0, z1, z2, z3]
    simp only [lsV, List.map_cons, List.map_nil] at hI hl2
    refine ow_val rfl rfl (v_extract rfl rfl) ?_
    refine ow_nil ?_
    refine xw_then ?_
    refine cw_seq ?_
    refine cw_true rfl ?_
    refine cw_skip ?_
    refine xw_then ?_
    refine cw_block ?_
    refine cw_seq ?_
    refine cw_region ?_
    refine ow_val rfl rfl (v_entry rfl .here (by repeat (first | exact Sub.here | exact Sub.nil | assumption | refine Sub.there ?_)) hI) ?_
    have hlk2 := fun (G' : List Hp) (hs' : Sub c2 G') (N : Nat) (E : Env) (ty : TypeId) (x y : Operand) (hx : Env.ev E x = some (.map (some b2))) (hy : Env.ev E y = some (.int .u64 k)) => v_lookupM (P := Try.prog) (B := B) (w0 := w0) (G := G') (N := N) (E := E) (ty := ty) (T := 70) (x := x) (y := y) Try.underlying70 Try.underlying22 (z := (lsV [0, 0, 0, 0])) (fun w => by kernel_rfl) hx hy hs' hg2
    rw [hl2] at hlk2
    refine ow_val rfl rfl (v_extract rfl rfl) ?_
    refine ow_val rfl rfl (v_extract rfl rfl) ?_
    (refine ow_alloc rfl rfl Ty.ze123 ?_; intro b6)
    refine ow_val rfl rfl (v_assign rfl) ?_
    refine ow_storeN rfl rfl rfl Ty.ag123 (by first | rfl | assumption) (by first | assumption | simp) .here (SetN.all (by first | rfl | assumption | simp_all)) ?_
    refine ow_nil ?_
    refine xw_then ?_
    refine cw_seq ?_
    refine cw_region ?_
    refine ow_val rfl rfl (v_move rfl) ?_
    refine ow_val rfl rfl (v_move rfl) ?_
    refine ow_val rfl rfl ((hlk2 _ (by repeat (first | exact Sub.here | exact Sub.nil | assumption | refine Sub.there ?_)) _ _ _ _ _ rfl rfl)) ?_
    refine ow_val rfl rfl (v_move rfl) ?_
    refine ow_val rfl rfl (v_extract rfl rfl) ?_
    refine ow_val rfl rfl (v_extract rfl rfl) ?_
    (refine ow_alloc rfl rfl Ty.ze123 ?_; intro b7)
    refine ow_storeN rfl rfl rfl Ty.ag123 (by first | rfl | assumption) (by first | assumption | simp) .here (SetN.all (by first | rfl | assumption | simp_all)) ?_
    refine ow_val rfl rfl (v_assign rfl) ?_
    refine ow_nil ?_
    refine xw_then ?_
    refine cw_seq ?_
    refine cw_region ?_
    refine ow_val rfl rfl (v_move rfl) ?_
    refine ow_val rfl rfl (v_not_true rfl) ?_
    refine ow_val rfl rfl (v_move rfl) ?_
    refine ow_val rfl rfl (v_load rfl (Var.atN Ty.ag123 (.there .here) GetN.all (by first | rfl | assumption))) ?_
    refine ow_val rfl rfl (v_load rfl (Var.atN Ty.ag123 .here GetN.all (by first | rfl | assumption))) ?_
    refine ow_val rfl rfl (v_neqA rfl rfl Ty.gt123 (eqCrS)) ?_
    refine ow_val rfl rfl (v_pick_false rfl rfl) ?_
    refine ow_nil ?_
    refine xw_then ?_
    refine cw_false rfl ?_
    refine cw_skip ?_
    refine xw_block ?_
    skip
    exact xw_round ((some (k, _), rem', c1') : Option (Int × Value) × List (Int × Value) × Hp) ⟨hI, fun q hq => i5 q (hp.mem_iff.2 (List.mem_cons_of_mem _ hq))⟩ (by have := hp.length_eq; simp only [List.length_cons] at this; dsimp only; omega) (by first | exact Cov.refl _ | (intro p; simp only [List.flatten_cons, List.flatten_nil, List.flatten_append, List.append_nil, List.nil_append, cnt_append, cnt_cons, cnt_nil, List.set_cons_zero, List.set_cons_succ, List.length_nil, List.length_cons, Nat.zero_add, List.append]; omega)) (by repeat (first | exact True.intro | refine And.intro rfl ?_))

set_option maxHeartbeats 4000000 in
theorem mapsEqT_c {B : Nat} {w0 : World} {G : List Hp} {m1 m2 : List (Int × Value)} {b1 b2 : Nat} {c1 c2 : Hp} {f : Int → Option (List Int)} (h1 : MapR .u64 m1 b1 c1) (h2 : MapR .u64 m2 b2 c2) (s1 : Sub c1 G) (s2 : Sub c2 G)
    (e1 : ∀ k, Go.Sl.look m1 k = (f k).map lsV) (e2 : ∀ k, Go.Sl.look m2 k = (f k).map lsV) (hok : ∀ k a, f k = some a → a.length = 6) :
    Go.Sl.Fn Try.prog 57 #[.map (some b1), .map (some b2)] B w0 G fun u G' => u = .bool true ∧ G' = G := by
  refine Fn.pure ?_
  have v1 : MapV .u64 m1 (.map (some b1)) c1 := .inr ⟨b1, rfl, h1⟩
  have v2 : MapV .u64 m2 (.map (some b2)) c2 := .inr ⟨b2, rfl, h2⟩
  have hnd := v1.nd
  have hlen : m1.length = m2.length := by
    have l1 := look_nodup_len v1.nd fun k v hk => by rw [e2, ← e1, hk]; simp
    have l2 := look_nodup_len v2.nd fun k v hk => by rw [e1, ← e2, hk]; simp
    omega
  have hg2 := h2.g.f
  refine fn_enter Try.func57 rfl (by kernel_rfl) Try.ntmps57 (by simp) ?_
  refine cw_seq ?_
  refine cw_region ?_
  refine ow_val rfl rfl (v_assign rfl) ?_
  refine ow_nil ?_
  refine xw_then ?_
  refine cw_seq ?_
  refine cw_seq ?_
  refine cw_region ?_
  refine ow_val rfl rfl (v_move rfl) ?_
  refine ow_val rfl rfl (v_lenMap rfl Try.underlying71 rfl (by repeat (first | exact Sub.here | exact Sub.nil | assumption | refine Sub.there ?_)) v1) ?_
  refine ow_val rfl rfl (v_move rfl) ?_
  refine ow_val rfl rfl (v_lenMap rfl Try.underlying71 rfl (by repeat (first | exact Sub.here | exact Sub.nil | assumption | refine Sub.there ?_)) v2) ?_
  refine ow_val rfl rfl (v_neq rfl rfl) ?_
  refine ow_nil ?_
  refine xw_then ?_
  refine cw_dec rfl (fun hc13 => ?_) (fun hc13 => ?_)
  (exfalso; omega)
  refine cw_skip ?_
  refine xw_then ?_
  refine cw_seq ?_
  refine cw_seq ?_
  refine cw_region ?_
  refine ow_val rfl rfl (v_move rfl) ?_
  refine ow_range (kd := .u64) rfl rfl Try.underlying71 rfl (by repeat (first | exact Sub.here | exact Sub.nil | assumption | refine Sub.there ?_)) v1 ?_
  intro br ci hIt
  refine ow_nil ?_
  refine xw_then ?_
  refine cw_block ?_
  refine cw_loop2 (ι := ((Option (Int × Value) × List (Int × Value) × Hp))) [(1, _), (15, _)] ⟨rfl, rfl, trivial⟩ ((fun x => [])) ((fun x => ItAt .u64 (.map (some b1)) c1 br x.1 x.2.1 x.2.2 ∧ (∀ q ∈ x.2.1, q ∈ m1))) ((fun x => x.2.1.length)) ((fun x => x.2.2 :: G)) (((none, m1, ci) : Option (Int × Value) × List (Int × Value) × Hp)) (by repeat (first | exact True.intro | refine And.intro rfl ?_)) (by first | exact Cov.refl _ | (intro p; simp only [List.flatten_cons, List.flatten_nil, List.flatten_append, List.append_nil, List.nil_append, cnt_append, cnt_cons, cnt_nil, List.set_cons_zero, List.set_cons_succ, List.length_nil, List.length_cons, Nat.zero_add, List.append]; omega)) ?_ ?_
  · exact ⟨hIt, fun q hq => hq⟩
  rintro ⟨cur, rem, cr⟩ ⟨i1, i5⟩
  dsimp only at i1 i5 ⊢
  refine cw_seq ?_
  refine cw_region ?_
  refine ow_next (kd := .u64) rfl rfl rfl .here (by repeat (first | exact Sub.here | exact Sub.nil | assumption | refine Sub.there ?_)) i1 ?_ ?_
  · intro h0
    subst h0
    refine ow_val rfl rfl (v_extract rfl rfl) ?_
    refine ow_nil ?_
    refine xw_then ?_
    refine cw_seq ?_
    refine cw_false rfl ?_
    refine cw_exit ?_
    refine xw_then_exit ?_
    refine xw_round_exit ?_
    refine xw_block_exit ?_
    refine xw_then ?_
    refine cw_seq ?_
    refine cw_region ?_
    refine ow_val rfl rfl (v_assign rfl) ?_
    refine ow_nil ?_
    refine xw_then ?_
    refine cw_ret ?_
    refine ret1 rfl (res_tmp rfl) ?_
    exact ⟨rfl, (by first | exact Cov.refl _ | (intro p; simp only [List.flatten_cons, List.flatten_nil, List.flatten_append, List.append_nil, List.nil_append, cnt_append, cnt_cons, cnt_nil, List.set_cons_zero, List.set_cons_succ, List.length_nil, List.length_cons, Nat.zero_add, List.append]; omega))⟩
  · intro k u rem' c1' hp hI
    have hku : (k, u) ∈ m1 := i5 _ (hp.mem_iff.2 (List.mem_cons_self ..))
    have hlk : Go.Sl.look m1 k = some u := (look_mem hnd).2 hku
    obtain ⟨a, hfa, rfl⟩ : ∃ a, f k = some a ∧ u = lsV a := by
      rw [e1] at hlk
      cases hfk : f k with
      | none => rw [hfk] at hlk; cases hlk
      | some a => rw [hfk] at hlk; exact ⟨a, rfl, (Option.some.inj hlk).symm⟩
    have hl2 : Go.Sl.look m2 k = some (lsV a) := by rw [e2, hfa]; rfl
    have hoka := hok k a hfa
    obtain ⟨z0, z1, z2, z3, z4, z5, rfl⟩ := list6 hoka
    have ho1 : ∀ u ∈ [Value.int .u64 z0, .int .u64 z1, .int .u64 z2, .int .u64 z3, .int .u64 z4, .int .u64 z5], u.oneCell' = true := one_u64 [z0, z1, z2, z3, z4, z5]
    simp only [lsV, List.map_cons, List.map_nil] at hI hl2
    refine ow_val rfl rfl (v_extract rfl rfl) ?_
    refine ow_nil ?_
    refine xw_then ?_
    refine cw_seq ?_
    refine cw_true rfl ?_
    refine cw_skip ?_
    refine xw_then ?_
    refine cw_block ?_
    refine cw_seq ?_
    refine cw_region ?_
    refine ow_val rfl rfl (v_entry rfl .here (by repeat (first | exact Sub.here | exact Sub.nil | assumption | refine Sub.there ?_)) hI) ?_
    have hlk2 := fun (G' : List Hp) (hs' : Sub c2 G') (N : Nat) (E : Env) (ty : TypeId) (x y : Operand) (hx : Env.ev E x = some (.map (some b2))) (hy : Env.ev E y = some (.int .u64 k)) => v_lookupM (P := Try.prog) (B := B) (w0 := w0) (G := G') (N := N) (E := E) (ty := ty) (T := 71) (x := x) (y := y) Try.underlying71 Try.underlying22 (z := (lsV [0, 0, 0, 0, 0, 0])) (fun w => by kernel_rfl) hx hy hs' hg2
    rw [hl2] at hlk2
    refine ow_val rfl rfl (v_extract rfl rfl) ?_
    refine ow_val rfl rfl (v_extract rfl rfl) ?_
    (refine ow_alloc rfl rfl Ty.ze126 ?_; intro b6)
    refine ow_val rfl rfl (v_assign rfl) ?_
    refine ow_storeN rfl rfl rfl Ty.ag126 (by first | rfl | assumption) (by first | assumption | simp) .here (SetN.all (by first | rfl | assumption | simp_all)) ?_
    refine ow_nil ?_
    refine xw_then ?_
    refine cw_seq ?_
    refine cw_region ?_
    refine ow_val rfl rfl (v_move rfl) ?_
    refine ow_val rfl rfl (v_move rfl) ?_
    refine ow_val rfl rfl ((hlk2 _ (by repeat (first | exact Sub.here | exact Sub.nil | assumption | refine Sub.there ?_)) _ _ _ _ _ rfl rfl)) ?_
    refine ow_val rfl rfl (v_move rfl) ?_
    refine ow_val rfl rfl (v_extract rfl rfl) ?_
    refine ow_val rfl rfl (v_extract rfl rfl) ?_
    (refine ow_alloc rfl rfl Ty.ze126 ?_; intro b7)
    refine ow_storeN rfl rfl rfl Ty.ag126 (by first | rfl | assumption) (by first | assumption | simp) .here (SetN.all (by first | rfl | assumption | simp_all)) ?_
    refine ow_val rfl rfl (v_assign rfl) ?_
    refine ow_nil ?_
    refine xw_then ?_
    refine cw_seq ?_
    refine cw_region ?_
    refine ow_val rfl rfl (v_move rfl) ?_
    refine ow_val rfl rfl (v_not_true rfl) ?_
    refine ow_val rfl rfl (v_move rfl) ?_
    refine ow_val rfl rfl (v_load rfl (Var.atN Ty.ag126 (.there .here) GetN.all (by first | rfl | assumption))) ?_
    refine ow_val rfl rfl (v_load rfl (Var.atN Ty.ag126 .here GetN.all (by first | rfl | assumption))) ?_
    refine ow_val rfl rfl (v_neqA rfl rfl Ty.gt126 (eqStS)) ?_
    refine ow_val rfl rfl (v_pick_false rfl rfl) ?_
    refine ow_nil ?_
    refine xw_then ?_
    refine cw_false rfl ?_
    refine cw_skip ?_
    refine xw_block ?_
    skip
    exact xw_round ((some (k, _), rem', c1') : Option (Int × Value) × List (Int × Value) × Hp) ⟨hI, fun q hq => i5 q (hp.mem_iff.2 (List.mem_cons_of_mem _ hq))⟩ (by have := hp.length_eq; simp only [List.length_cons] at this; dsimp only; omega) (by first | exact Cov.refl _ | (intro p; simp only [List.flatten_cons, List.flatten_nil, List.flatten_append, List.append_nil, List.nil_append, cnt_append, cnt_cons, cnt_nil, List.set_cons_zero, List.set_cons_succ, List.length_nil, List.length_cons, Nat.zero_add, List.append]; omega)) (by repeat (first | exact True.intro | refine And.intro rfl ?_))

end Go.Proofs.Ytckdhelnafjddaa
