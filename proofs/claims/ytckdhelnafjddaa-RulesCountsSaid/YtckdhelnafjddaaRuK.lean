/- How many events there are of each kind: Count, Kinds. Conditions: numbers fit their types. -/
import Derived.Test.YtckdhelnafjddaaRpN
import Derived.Test.YtckdhelnafjddaaRpFo
import Derived.Test.YtckdhelnafjddaaSort6
namespace Go.Proofs.Ytckdhelnafjddaa
open Go Go.Sl Go.Proofs
set_option maxRecDepth 20000
set_option linter.unusedVariables false
set_option linter.unusedSimpArgs false

def cntK (es : List EvM) (k : Int) : Nat := es.countP fun e => decide (e.k = k)
def cf (es : List EvM) (k : Int) : Option Value := if cntK es k = 0 then none else some (.int .i64 (cntK es k : Nat))
theorem cntK_nil {k : Int} : cntK [] k = 0 := rfl
theorem cntK_snoc {es : List EvM} {e : EvM} {k : Int} : cntK (es ++ [e]) k = cntK es k + if k = e.k then 1 else 0 := by
  unfold cntK
  rw [List.countP_append]
  congr 1
  by_cases h : k = e.k
  · rw [if_pos h]
    simp [h]
  · rw [if_neg h, List.countP_cons, if_neg (by simpa using fun h2 : e.k = k => h h2.symm)]
    rfl
theorem cntK_cons {es : List EvM} {e : EvM} {k : Int} : cntK (e :: es) k = cntK es k + if k = e.k then 1 else 0 := by
  unfold cntK
  rw [List.countP_cons]
  congr 1
  by_cases h : k = e.k
  · simp [h]
  · rw [if_neg h, if_neg (by simpa using fun h2 : e.k = k => h h2.symm)]
theorem cntK_le {es : List EvM} {k : Int} : cntK es k ≤ es.length := List.countP_le_length
theorem cf_snoc {es : List EvM} {e : EvM} (k : Int) : (if k = e.k then some (Value.int .i64 ((cntK es e.k : Nat) + 1 : Int)) else cf es k) = cf (es ++ [e]) k := by
  unfold cf
  rw [cntK_snoc]
  by_cases h : k = e.k
  · subst h
    rw [if_pos rfl, if_pos rfl, if_neg (by omega)]
    rfl
  · rw [if_neg h, if_neg h]
    rfl
theorem v_cnt {N : Nat} {E : Go.Sl.Env} {ty : TypeId} {x y : Operand} {b : Nat} {B : Nat} {w0 : World} {G : List Hp} {k : Int} {es : List EvM} {c : Hp} (hx : Go.Sl.Env.ev E x = some (.map (some b))) (hy : Go.Sl.Env.ev E y = some (.int .u8 k)) (hs : Sub c G) (hM : MapG .u8 (cf es) b c) :
    Go.Sl.OpV Try.prog (St B w0 G) N E (.lookup 97 x y false) ty (.int .i64 (cntK es k : Nat)) := by
  have h := v_lookupM0 (P := Try.prog) (B := B) (w0 := w0) (G := G) (N := N) (E := E) (ty := ty) (T := 97) (z := .int .i64 0) Try.underlying97 Try.underlying59 (fun w => by kernel_rfl) hx hy hs hM.f
  have h2 : (cf es k).getD (.int .i64 0) = .int .i64 (cntK es k : Nat) := by
    unfold cf
    by_cases h0 : cntK es k = 0
    · rw [if_pos h0, h0]
      rfl
    · rw [if_neg h0]
      rfl
  rwa [h2] at h
set_option maxHeartbeats 4000000 in
theorem count_c {B : Nat} {w0 : World} {G : List Hp} {ao : Option Addr} {n cap : Nat} {es : List EvE} (hV : Vw enEv (St B w0 G) (.slice ao n cap) es) (hn : es.length ≤ 1000) :
    Go.Sl.Fn Try.prog 38 #[.slice ao n cap] B w0 G fun u G' => ∃ y : Nat × Hp, u = .map (some y.1) ∧ MapG .u8 (cf (es.map (·.m))) y.1 y.2 ∧ G' = [y.2] ++ G := by
  refine Fn.new ?_
  have hl := hV.len
  subst hl
  refine fn_enter Try.func38 rfl (by kernel_rfl) Try.ntmps38 (by simp) ?_
  refine cw_seq ?_
  refine cw_region ?_
  refine ow_val rfl rfl (v_assign rfl) ?_
  refine ow_nil ?_
  refine xw_then ?_
  refine cw_seq ?_
  refine cw_region ?_
  refine ow_makeMapG (kd := .u8) rfl rfl ?_
  intro b6 c6 h6
  refine ow_val rfl rfl (v_assign rfl) ?_
  refine ow_nil ?_
  refine xw_then ?_
  refine cw_seq ?_
  refine cw_seq ?_
  refine cw_region ?_
  refine ow_val rfl rfl (v_move rfl) ?_
  refine ow_val rfl rfl (v_len rfl Try.underlying57 rfl) ?_
  refine ow_val rfl rfl (v_move rfl) ?_
  refine ow_nil ?_
  refine xw_then ?_
  refine cw_block ?_
  refine cw_loop2 (ι := ((Nat × Hp))) [(2, _), (3, _), (7, _), (8, _)] ⟨rfl, rfl, rfl, rfl, trivial⟩ ((fun x => [(9, .int .i64 x.1)])) ((fun x => x.1 ≤ es.length ∧ MapG .u8 (cf ((es.take x.1).map (·.m))) b6 x.2)) ((fun x => es.length - x.1)) ((fun x => x.2 :: G)) (((0, c6) : Nat × Hp)) (by repeat (first | exact True.intro | refine And.intro rfl ?_)) (by first | exact Cov.refl _ | (intro p; simp only [List.flatten_cons, List.flatten_nil, List.flatten_append, List.append_nil, List.nil_append, cnt_append, cnt_cons, cnt_nil, List.set_cons_zero, List.set_cons_succ, List.length_nil, List.length_cons, Nat.zero_add, List.append]; omega)) ?_ ?_
  · exact ⟨Nat.zero_le _, h6⟩
  rintro ⟨j, c1⟩ ⟨hj, h1⟩
  dsimp only at hj h1 ⊢
  refine cw_seq ?_
  refine cw_region ?_
  refine ow_val rfl rfl (v_lss rfl rfl) ?_
  refine ow_nil ?_
  refine xw_then ?_
  refine cw_seq ?_
  refine cw_dec rfl (fun hc10 => ?_) (fun hc10 => ?_)
  refine cw_skip ?_
  refine xw_then ?_
  rotate_left
  refine cw_exit ?_
  refine xw_then_exit ?_
  refine xw_round_exit ?_
  refine xw_block_exit ?_
  refine xw_then ?_
  refine cw_seq ?_
  refine cw_region ?_
  refine ow_val rfl rfl (v_move rfl) ?_
  refine ow_val rfl rfl (v_assign rfl) ?_
  refine ow_nil ?_
  refine xw_then ?_
  refine cw_ret ?_
  refine ret1 rfl (res_tmp rfl) ?_
  rotate_left
  · have hj2 : j < es.length := by omega
    have hok := hV.ok _ (List.getElem_mem hj2)
    have hce : ∀ u ∈ (es[j]).m.cells (es[j]).p, u.oneCell' = true := EvM.cells_one
    have hle : ((es[j]).m.cells (es[j]).p).length = 4 := rfl
    have hcl : cntK ((es.take j).map (·.m)) (es[j]).m.k ≤ 1000 := by
      have := cntK_le (es := (es.take j).map (·.m)) (k := (es[j]).m.k)
      rw [List.length_map, List.length_take] at this
      omega
    refine cw_seq ?_
    refine cw_block ?_
    refine cw_seq ?_
    refine cw_region ?_
    refine ow_val rfl rfl (v_indexAddr_vw Try.underlying57 (evTy) rfl rfl (by assumption) rfl (by omega)) ?_
    refine ow_val rfl rfl (v_load rfl (Go.Sl.Vw.var (evTy) (hV.cov (by first | exact Cov.refl _ | (intro p; simp only [List.flatten_cons, List.flatten_nil, List.flatten_append, List.append_nil, List.nil_append, cnt_append, cnt_cons, cnt_nil, List.set_cons_zero, List.set_cons_succ, List.length_nil, List.length_cons, Nat.zero_add, List.append]; omega))) (by omega))) ?_
    (refine ow_alloc rfl rfl Ty.ze62 ?_; intro b5)
    refine ow_storeE rfl (evTy) rfl rfl .here (by first | rfl | assumption) (by assumption) ?_
    refine ow_nil ?_
    refine xw_then ?_
    refine cw_region ?_
    refine ow_val rfl rfl (v_move rfl) ?_
    refine ow_val rfl rfl (v_fieldAddr0 Ty.fd62_0 rfl) ?_
    refine ow_val rfl rfl (v_load rfl (Var.at1 Ty.sc59 .here ((GetN.lit rfl)))) ?_
    refine ow_val rfl rfl ((v_cnt rfl rfl (by repeat (first | exact Sub.here | exact Sub.nil | assumption | refine Sub.there ?_)) h1)) ?_
    refine ow_val rfl rfl (v_add rfl rfl (nw_i64 (by omega) (by omega))) ?_
    refine ow_mapUpdateG (kd := .u8) rfl Try.underlying97 Try.underlying59 rfl rfl rfl (by repeat (first | exact Sel.here | apply Sel.there)) h1 ?_
    intro c1' h1'
    refine ow_nil ?_
    refine xw_block ?_
    refine xw_then ?_
    refine cw_region ?_
    refine ow_val rfl rfl (v_add rfl rfl (nw_i64 (by omega) (by omega))) ?_
    refine ow_val rfl rfl (v_move rfl) ?_
    refine ow_nil ?_
    refine xw_round ((j + 1, c1') : Nat × Hp) ⟨by dsimp only; omega, h1'.congr fun k => ?_⟩ (by dsimp only; omega) (by first | exact Cov.refl _ | (intro p; simp only [List.flatten_cons, List.flatten_nil, List.flatten_append, List.append_nil, List.nil_append, cnt_append, cnt_cons, cnt_nil, List.set_cons_zero, List.set_cons_succ, List.length_nil, List.length_cons, Nat.zero_add, List.append]; omega)) (by repeat (first | exact True.intro | refine And.intro rfl ?_))
    dsimp only
    rw [List.take_succ_eq_append_getElem hj2, List.map_append]
    exact cf_snoc k
  · skip
    have hj3 : j = es.length := by omega
    subst hj3
    rw [List.take_length] at h1
    exact ⟨(b6, c1), rfl, h1, (by first | exact Cov.refl _ | (intro p; simp only [List.flatten_cons, List.flatten_nil, List.flatten_append, List.append_nil, List.nil_append, cnt_append, cnt_cons, cnt_nil, List.set_cons_zero, List.set_cons_succ, List.length_nil, List.length_cons, Nat.zero_add, List.append]; omega))⟩
set_option maxHeartbeats 4000000 in
theorem kinds_c {B : Nat} {w0 : World} {G : List Hp} {m : List (Int × Value)} {b : Nat} {c : Hp} (hM : MapR .u8 m b c) (hs : Sub c G) (hm : m.length ≤ 1000) (hok : ∀ q ∈ m, (0 ≤ q.1 ∧ q.1 ≤ 255) ∧ ∃ n : Int, q.2 = .int .i64 n ∧ 0 < n) :
    Go.Sl.Fn Try.prog 39 #[.map (some b)] B w0 G fun u G' => ∃ x : Option Addr × Nat × Hp × List Int, u = .slice x.1 x.2.2.2.length x.2.1 ∧ (x.2.2.2.Perm (m.map (·.1)) ∧ x.2.2.2.Pairwise (· ≤ ·) ∧ Ls enKd 59 (.slice x.1 x.2.2.2.length x.2.1) x.2.2.1 x.2.2.2) ∧ G' = [x.2.2.1] ++ G := by
  refine Fn.new ?_
  have hMV : MapV .u8 m (.map (some b)) c := .inr ⟨b, rfl, hM⟩
  refine fn_enter Try.func39 rfl (by kernel_rfl) Try.ntmps39 (by simp) ?_
  refine cw_seq ?_
  refine cw_region ?_
  refine ow_val rfl rfl (v_assign rfl) ?_
  refine ow_nil ?_
  refine xw_then ?_
  refine cw_seq ?_
  refine cw_region ?_
  refine ow_val rfl rfl (v_assign rfl) ?_
  refine ow_nil ?_
  refine xw_then ?_
  refine cw_seq ?_
  refine cw_seq ?_
  refine cw_region ?_
  refine ow_val rfl rfl (v_move rfl) ?_
  refine ow_range (kd := .u8) rfl rfl Try.underlying97 rfl (by repeat (first | exact Sub.here | exact Sub.nil | assumption | refine Sub.there ?_)) hMV ?_
  intro br ci hIt
  refine ow_nil ?_
  refine xw_then ?_
  refine cw_block ?_
  refine cw_cov (ci :: [] :: G) (by first | exact Cov.refl _ | (intro p; simp only [List.flatten_cons, List.flatten_nil, List.flatten_append, List.append_nil, List.nil_append, cnt_append, cnt_cons, cnt_nil, List.set_cons_zero, List.set_cons_succ, List.length_nil, List.length_cons, Nat.zero_add, List.append]; omega)) ?_
  refine cw_loop2 (ι := ((Option (Int × Value) × List (Int × Value) × Hp × List Int × Option Addr × Nat × Hp))) [(0, _), (2, _), (7, _)] ⟨rfl, rfl, rfl, trivial⟩ ((fun x => [(3, .slice x.2.2.2.2.1 x.2.2.2.1.length x.2.2.2.2.2.1)])) ((fun x => ItAt .u8 (.map (some b)) c br x.1 x.2.1 x.2.2.1 ∧ (x.2.2.2.1 ++ x.2.1.map (·.1)).Perm (m.map (·.1)) ∧ (∀ q ∈ x.2.1, q ∈ m) ∧ Ls enKd 59 (.slice x.2.2.2.2.1 x.2.2.2.1.length x.2.2.2.2.2.1) x.2.2.2.2.2.2 x.2.2.2.1)) ((fun x => x.2.1.length)) ((fun x => x.2.2.1 :: x.2.2.2.2.2.2 :: G)) (((none, m, ci, [], none, 0, []) : Option (Int × Value) × List (Int × Value) × Hp × List Int × Option Addr × Nat × Hp)) (by repeat (first | exact True.intro | refine And.intro rfl ?_)) (by first | exact Cov.refl _ | (intro p; simp only [List.flatten_cons, List.flatten_nil, List.flatten_append, List.append_nil, List.nil_append, cnt_append, cnt_cons, cnt_nil, List.set_cons_zero, List.set_cons_succ, List.length_nil, List.length_cons, Nat.zero_add, List.append]; omega)) ?_ ?_
  · exact ⟨hIt, List.Perm.refl _, fun q hq => hq, Ls.nil⟩
  rintro ⟨cur, rem, c1, l, lo, lc, cl⟩ ⟨i1, i2, i3, hL⟩
  dsimp only at i1 i2 i3 hL ⊢
  have hll : l.length + rem.length = m.length := by
    have := i2.length_eq
    simpa using this
  refine cw_seq ?_
  refine cw_region ?_
  refine ow_next (kd := .u8) rfl rfl rfl .here (by repeat (first | exact Sub.here | exact Sub.nil | assumption | refine Sub.there ?_)) i1 ?_ ?_
  · intro h0
    subst h0
    rw [List.map_nil, List.append_nil] at i2
    refine ow_val rfl rfl (v_extract rfl rfl) ?_
    refine ow_nil ?_
    refine xw_then ?_
    refine cw_seq ?_
    refine cw_false rfl ?_
    refine cw_exit ?_
    refine xw_then_exit ?_
    refine xw_round_exit ?_
    refine xw_block_exit ?_
    refine xw_then ?_
    refine cw_seq ?_
    refine cw_region ?_
    refine ow_val rfl rfl (v_move rfl) ?_
    (refine ow_call rfl rfl rfl rfl (sortK_c (by repeat (first | exact Sel.here | apply Sel.there)) hL (by omega)) ?_; rintro _ _ ⟨x20, rfl, hq20, rfl⟩)
    refine ow_nil ?_
    refine xw_then ?_
    refine cw_seq ?_
    refine cw_region ?_
    refine ow_val rfl rfl (v_move rfl) ?_
    refine ow_val rfl rfl (v_assign rfl) ?_
    refine ow_nil ?_
    refine xw_then ?_
    refine cw_ret ?_
    refine ret1 rfl (res_tmp rfl) ?_
    obtain ⟨l2, c2⟩ := x20
    obtain ⟨q1, q2, q3⟩ := hq20
    dsimp only at q1 q2 q3
    have hle : l.length = l2.length := q1.length_eq.symm
    rw [hle] at q3
    exact ⟨(lo, lc, c2, l2), by rw [hle], ⟨q1.trans i2, q2, q3⟩, (by first | exact Cov.refl _ | (intro p; simp only [List.flatten_cons, List.flatten_nil, List.flatten_append, List.append_nil, List.nil_append, cnt_append, cnt_cons, cnt_nil, List.set_cons_zero, List.set_cons_succ, List.length_nil, List.length_cons, Nat.zero_add, List.append]; omega))⟩
  · intro k u rem' c1' hp hI
    have hku := i3 _ (hp.mem_iff.2 (List.mem_cons_self ..))
    obtain ⟨hk, n, rfl, hn0⟩ := hok _ hku
    have hlr := hp.length_eq
    rw [List.length_cons] at hlr
    refine ow_val rfl rfl (v_extract rfl rfl) ?_
    refine ow_nil ?_
    refine xw_then ?_
    refine cw_seq ?_
    refine cw_true rfl ?_
    refine cw_skip ?_
    refine xw_then ?_
    refine cw_block ?_
    refine cw_seq ?_
    refine cw_region ?_
    refine ow_val rfl rfl (v_entry rfl .here (by repeat (first | exact Sub.here | exact Sub.nil | assumption | refine Sub.there ?_)) hI) ?_
    refine ow_val rfl rfl (v_extract rfl rfl) ?_
    refine ow_val rfl rfl (v_extract rfl rfl) ?_
    refine ow_val rfl rfl (v_assign rfl) ?_
    refine ow_val rfl rfl (v_assign rfl) ?_
    refine ow_nil ?_
    refine xw_then ?_
    refine cw_seq ?_
    refine cw_region ?_
    refine ow_val rfl rfl (v_move rfl) ?_
    refine ow_val rfl rfl (v_gtr rfl rfl) ?_
    refine ow_nil ?_
    refine xw_then ?_
    refine cw_dec rfl (fun hc14 => ?_) (fun hc14 => ?_)
    rotate_left; (exfalso; omega); rotate_right
    refine cw_region ?_
    refine ow_val rfl rfl (v_move rfl) ?_
    refine ow_val rfl rfl (v_move rfl) ?_
    (refine ow_buildL (es := ([k])) rfl rfl Try.underlying99 Ty.em99 (kdTy) rfl rfl (by first | (simp [*]; done) | (repeat (first | exact List.forall_mem_nil _ | refine List.forall_mem_cons.2 ⟨?_, ?_⟩ | assumption | (show _ ∧ _; omega)))) (by simp only [List.length_cons, List.length_nil]; decide) ?_; intro ao17 c17 hL17)
    (refine ow_appendL rfl rfl Try.underlying99 Try.underlying99 Ty.em99 (kdTy) rfl rfl (by assumption) (by repeat (first | exact Sel.here | apply Sel.there)) ((Go.Sl.Ls.vw (by assumption) (by repeat (first | exact Sub.here | exact Sub.nil | assumption | refine Sub.there ?_)))) (by first | omega | (simp only [List.length_append, List.length_take, List.length_drop, List.length_nil, List.length_cons]; omega)) (by first | omega | (simp only [List.length_append, List.length_take, List.length_drop, List.length_nil, List.length_cons]; omega)) ?_; intro ao18 cap18 c18 hL18)
    refine ow_val rfl rfl (v_assign rfl) ?_
    refine ow_nil ?_
    refine xw_block ?_
    refine xw_round ((some (k, .int .i64 n), rem', c1', l ++ [k], ao18, cap18, c18) : Option (Int × Value) × List (Int × Value) × Hp × List Int × Option Addr × Nat × Hp) ⟨hI, ?_, fun q hq => i3 q (hp.mem_iff.2 (List.mem_cons_of_mem _ hq)), hL18⟩ (by dsimp only; omega) (by first | exact Cov.refl _ | (intro p; simp only [List.flatten_cons, List.flatten_nil, List.flatten_append, List.append_nil, List.nil_append, cnt_append, cnt_cons, cnt_nil, List.set_cons_zero, List.set_cons_succ, List.length_nil, List.length_cons, Nat.zero_add, List.append]; omega)) (by repeat (first | exact True.intro | refine And.intro rfl ?_))
    dsimp only
    rw [List.append_assoc]
    exact (List.Perm.append_left l (hp.map (·.1)).symm).trans i2
/-! ### sums -/
def sumK (es : List EvM) : List Int → Nat
  | [] => 0
  | k :: ks => cntK es k + sumK es ks
theorem sumK_app {es : List EvM} {a b : List Int} : sumK es (a ++ b) = sumK es a + sumK es b := by
  induction a with
  | nil => simp [sumK]
  | cons k a ih => simp [sumK, ih]; omega
theorem sumK_nil {ks : List Int} : sumK [] ks = 0 := by
  induction ks with
  | nil => rfl
  | cons k ks ih => simp [sumK, ih, cntK]
def one1 (x : Int) : List Int → Nat
  | [] => 0
  | k :: ks => (if k = x then 1 else 0) + one1 x ks
theorem one1_no {x : Int} : ∀ {ks : List Int}, x ∉ ks → one1 x ks = 0
  | [], _ => rfl
  | k :: ks, h => by
    rw [one1, if_neg (fun e => h (by rw [e]; exact List.mem_cons_self ..)), one1_no (fun e => h (List.mem_cons_of_mem _ e))]
theorem one1_yes {x : Int} : ∀ {ks : List Int}, ks.Nodup → x ∈ ks → one1 x ks = 1
  | k :: ks, hn, h => by
    rw [List.nodup_cons] at hn
    rw [one1]
    by_cases hk : k = x
    · subst hk
      rw [if_pos rfl, one1_no hn.1]
    · rw [if_neg hk, one1_yes hn.2 ((List.mem_cons.1 h).resolve_left fun e => hk e.symm)]
theorem sumK_cons {es : List EvM} {e : EvM} {ks : List Int} : sumK (e :: es) ks = sumK es ks + one1 e.k ks := by
  induction ks with
  | nil => rfl
  | cons k ks ih =>
    rw [sumK, sumK, one1, ih, cntK_cons]
    omega
theorem sumK_all {ks : List Int} (hn : ks.Nodup) : ∀ {es : List EvM}, (∀ e ∈ es, e.k ∈ ks) → sumK es ks = es.length
  | [], _ => sumK_nil
  | e :: es, h => by
    rw [sumK_cons, sumK_all hn (fun x hx => h x (List.mem_cons_of_mem _ hx)), one1_yes hn (h e (List.mem_cons_self ..))]
    rfl
theorem nodup_le {β : Type} : ∀ {l m : List β}, l.Nodup → (∀ x ∈ l, x ∈ m) → l.length ≤ m.length
  | [], _, _, _ => Nat.zero_le _
  | x :: l, m, hn, h => by
    rw [List.nodup_cons] at hn
    obtain ⟨a, b, rfl⟩ := List.append_of_mem (h x (List.mem_cons_self ..))
    have h1 := nodup_le (l := l) (m := a ++ b) hn.2 fun y hy => by
      have h2 := h y (List.mem_cons_of_mem _ hy)
      rcases List.mem_append.1 h2 with h3 | h3
      · exact List.mem_append_left _ h3
      · rcases List.mem_cons.1 h3 with rfl | h4
        · exact absurd hy hn.1
        · exact List.mem_append_right _ h4
    simp only [List.length_append, List.length_cons] at h1 ⊢
    omega
/-- what the map of counts holds -/
structure CntMap (es : List EvM) (m : List (Int × Value)) : Prop where
  nd : (m.map (·.1)).Nodup
  ok : ∀ q ∈ m, q.2 = .int .i64 (cntK es q.1 : Nat) ∧ 0 < cntK es q.1
  all : ∀ e ∈ es, e.k ∈ m.map (·.1)
theorem cnt_pos {es : List EvM} {k : Int} (h : 0 < cntK es k) : ∃ e ∈ es, e.k = k := by
  obtain ⟨e, he, h1⟩ := List.countP_pos_iff.1 h
  exact ⟨e, he, by simpa using h1⟩
theorem CntMap.of {es : List EvM} {m : List (Int × Value)} (hn : (m.map (·.1)).Nodup) (h : ∀ k, Go.Sl.look m k = cf es k) : CntMap es m := by
  refine ⟨hn, fun q hq => ?_, fun e he => ?_⟩
  · have h1 := (look_mem hn).2 hq
    rw [h] at h1
    unfold cf at h1
    by_cases h0 : cntK es q.1 = 0
    · rw [if_pos h0] at h1; cases h1
    · rw [if_neg h0] at h1
      injection h1 with h1
      exact ⟨h1.symm, by omega⟩
  · have h0 : 0 < cntK es e.k := List.countP_pos_iff.2 ⟨e, he, by simp⟩
    have h1 : Go.Sl.look m e.k = some (.int .i64 (cntK es e.k : Nat)) := by
      rw [h, cf, if_neg (by omega)]
    exact List.mem_map.2 ⟨_, (look_mem hn).1 h1, rfl⟩
theorem CntMap.len {es : List EvM} {m : List (Int × Value)} (h : CntMap es m) : m.length ≤ es.length := by
  have h1 := nodup_le (m := es.map (·.k)) h.nd fun k hk => by
    obtain ⟨q, hq, rfl⟩ := List.mem_map.1 hk
    obtain ⟨e, he, h2⟩ := cnt_pos (h.ok q hq).2
    exact List.mem_map.2 ⟨e, he, h2⟩
  simpa using h1
end Go.Proofs.Ytckdhelnafjddaa
