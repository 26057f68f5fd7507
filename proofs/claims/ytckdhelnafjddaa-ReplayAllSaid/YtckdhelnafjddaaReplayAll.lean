/- ReplayAll: whatever the input it returns true, and the input reads as it did. Conditions: none. -/
import Derived.Test.YtckdhelnafjddaaRpFo
namespace Go.Proofs.Ytckdhelnafjddaa.lawReplayAll
open Go Go.Sl Go.Proofs Go.RowKit Go.ChangeShapes Go.WideShapes Go.ChangeAt Go.Proofs.Ytckdhelnafjddaa
set_option maxRecDepth 20000
set_option linter.unusedVariables false
set_option linter.unusedSimpArgs false

theorem step_ev {s : StM} {e : EvM} (h : (s.step e).2 = 0) : (s.step e).1.ev = s.ev + 1 := by
  unfold StM.step at h ⊢
  split at h
  · rename_i h1
    exact absurd h h1
  rename_i h1
  rw [if_neg h1]
  split at h
  · exact absurd (show (11 : Int) = 0 from h) (by decide)
  rename_i h2
  rw [if_neg h2]
  split at h
  · rename_i h3
    rw [if_pos h3]
    split at h
    · exact absurd (show (2 : Int) = 0 from h) (by decide)
    rename_i h4
    rw [if_neg h4]
    split at h
    · rename_i h5
      exact absurd h h5
    rename_i h5
    rw [if_neg h5]
  · rename_i h3
    rw [if_neg h3]
theorem runAll_ev {s : StM} {l : List EvM} : (runAll s l).1.ev = s.ev + (runAll s l).2.1 := by
  induction l generalizing s with
  | nil => simp [runAll]
  | cons e l ih =>
    rw [runAll]
    split
    · simp
    · rename_i h
      have h2 := step_ev (s := s) (e := e) (by simpa using h)
      dsimp only
      rw [ih, h2]
      omega
structure FoG where
  i : Nat
  s : StM
  p : StP
  E : Hp
structure RwG where
  j : Nat
  l : List EvE
  a : Option Addr
  k : Nat
  c : Hp
  D : Hp
theorem deep_l {B : Nat} {w0 : World} {e : EvM} {p : EvP} {D E : Hp} (h : EvDeep B w0 e p D) : EvDeep B w0 e p (D ++ E) := fun G hs => h G hs.left
theorem deep_r {B : Nat} {w0 : World} {e : EvM} {p : EvP} {D E : Hp} (h : EvDeep B w0 e p E) : EvDeep B w0 e p (D ++ E) := fun G hs => h G hs.right
theorem is_deep {B : Nat} {w0 : World} {x : EvF} (h : x.Is) : EvDeep B w0 x.m x.p (x.cn ++ x.cd) := fun G hs => ⟨h.ln.vw hs.left, h.rd B w0 G hs.right⟩
set_option maxHeartbeats 8000000 in
theorem law {B : Nat} {w0 : World} {es : List EvE} {xs : List UInt8} {ao bo : Option Addr} {ca cb : Nat} (hn : es.length ≤ 9223372036854775807) (hx : xs.length ≤ 9223372036854775807) (hV : ∀ G, Vw enEv (St B w0 G) (.slice ao es.length ca) es) (hX : ∀ G, Vw enB (St B w0 G) (.slice bo xs.length cb) xs) (hD : ∀ e ∈ es, EvDeep B w0 e.m e.p []) :
    FnC Try.prog 6 #[.slice ao es.length ca, .slice bo xs.length cb] B w0 [] (R0 (.bool true)) := fun F => by
  refine fn_enter Try.func6 rfl (by kernel_rfl) Try.ntmps6 (by simp) ?_
  refine cw_flat ([] :: [] :: F) (.of_eq (by simp)) ?_
  refine Go.Sl.cw_seq ?_
  refine Go.Sl.cw_region ?_
  refine Go.Sl.ow_val rfl rfl (Go.Sl.v_assign rfl) ?_
  refine Go.Sl.ow_nil ?_
  refine Go.Sl.xw_then ?_
  refine Go.Sl.cw_seq ?_
  refine Go.Sl.cw_seq ?_
  refine Go.Sl.cw_region ?_
  refine Go.Sl.ow_val rfl rfl (Go.Sl.v_call rfl rfl (awake28_c)) ?_
  refine Go.Sl.ow_val rfl rfl (Go.Sl.v_not_true rfl) ?_
  refine Go.Sl.ow_nil ?_
  refine Go.Sl.xw_then ?_
  refine Go.Sl.cw_false rfl ?_
  refine Go.Sl.cw_skip ?_
  refine Go.Sl.xw_then ?_
  refine Go.Sl.cw_seq ?_
  refine Go.Sl.cw_seq ?_
  refine Go.Sl.cw_region ?_
  refine Go.Sl.ow_val rfl rfl (Go.Sl.v_move rfl) ?_
  (refine Go.Sl.ow_call rfl rfl rfl rfl (evLight_c (hV _) hn) ?_; rintro _ _ ⟨x19, rfl, hq19, rfl⟩)
  refine Go.Sl.ow_val rfl rfl (Go.Sl.v_not_bool rfl) ?_
  refine Go.Sl.ow_nil ?_
  refine Go.Sl.xw_then ?_
  refine Go.Sl.cw_bool rfl (fun hc20 => ?_) (fun hc20 => ?_)
  refine Go.Sl.cw_seq ?_
  refine Go.Sl.cw_region ?_
  refine Go.Sl.ow_val rfl rfl (Go.Sl.v_assign rfl) ?_
  refine Go.Sl.ow_nil ?_
  refine Go.Sl.xw_then ?_
  refine Go.Sl.cw_ret ?_
  refine Go.Sl.xw_then_ret ?_
  refine Go.Sl.ret1 rfl (Go.Sl.res_tmp rfl) ?_
  rotate_left
  refine Go.Sl.cw_skip ?_
  refine Go.Sl.xw_then ?_
  rotate_left
  · exact done0 rfl (by first | exact Go.Sl.Cov.refl _ | (intro p; simp only [List.flatten_cons, List.flatten_nil, List.flatten_append, List.append_nil, List.nil_append, Go.Sl.cnt_append, Go.Sl.cnt_cons, Go.Sl.cnt_nil, List.set_cons_zero, List.set_cons_succ, List.length_nil, List.length_cons, Nat.zero_add, List.append]; omega))
  have hlight : es.length ≤ 60 ∧ ∀ e ∈ es, e.m.n.length ≤ 30 ∧ e.m.d.length ≤ 100 := hq19 (by simpa using hc20)
  obtain ⟨h60, hli⟩ := hlight
  clear hq19 hc20
  refine Go.Sl.cw_seq ?_
  refine Go.Sl.cw_region ?_
  refine Go.Sl.ow_val rfl rfl (Go.Sl.v_assign rfl) ?_
  refine Go.Sl.ow_nil ?_
  refine Go.Sl.xw_then ?_
  refine Go.Sl.cw_seq ?_
  refine Go.Sl.cw_seq ?_
  refine Go.Sl.cw_region ?_
  refine Go.Sl.ow_val rfl rfl (Go.Sl.v_move rfl) ?_
  refine Go.Sl.ow_val rfl rfl (Go.Sl.v_len rfl Try.underlying57 rfl) ?_
  refine Go.Sl.ow_val rfl rfl (Go.Sl.v_move rfl) ?_
  refine Go.Sl.ow_nil ?_
  refine Go.Sl.xw_then ?_
  refine Go.Sl.cw_block ?_
  refine Go.Sl.cw_loop2 (ι := (RwG)) [(0, _), (1, _), (4, _), (21, _), (22, _)] ⟨rfl, rfl, rfl, rfl, rfl, trivial⟩ ((fun x => [(23, .int .i64 x.j), (5, .slice x.a x.l.length x.k)])) ((fun x => x.j ≤ es.length ∧ x.l.length = x.j ∧ Ls enEv 62 (.slice x.a x.l.length x.k) x.c x.l ∧ ∀ e ∈ x.l, EvDeep B w0 e.m e.p x.D)) ((fun x => es.length - x.j)) ((fun x => x.c :: x.D :: F)) ((⟨0, [], none, 0, [], []⟩ : RwG)) (by repeat (first | exact True.intro | refine And.intro rfl ?_)) (by first | exact Go.Sl.Cov.refl _ | (intro p; simp only [List.flatten_cons, List.flatten_nil, List.flatten_append, List.append_nil, List.nil_append, Go.Sl.cnt_append, Go.Sl.cnt_cons, Go.Sl.cnt_nil, List.set_cons_zero, List.set_cons_succ, List.length_nil, List.length_cons, Nat.zero_add, List.append]; omega)) ?_ ?_
  · exact ⟨Nat.zero_le _, rfl, Ls.nil, by simp⟩
  rintro ⟨j, l, al, kl, cl, D⟩ ⟨hj, hlj, hL, hl⟩
  dsimp only at hj hlj hL hl ⊢
  refine Go.Sl.cw_seq ?_
  refine Go.Sl.cw_region ?_
  refine Go.Sl.ow_val rfl rfl (Go.Sl.v_lss rfl rfl) ?_
  refine Go.Sl.ow_nil ?_
  refine Go.Sl.xw_then ?_
  refine Go.Sl.cw_seq ?_
  refine Go.Sl.cw_dec rfl (fun hc24 => ?_) (fun hc24 => ?_)
  refine Go.Sl.cw_skip ?_
  refine Go.Sl.xw_then ?_
  rotate_left
  refine Go.Sl.cw_exit ?_
  refine Go.Sl.xw_then_exit ?_
  refine Go.Sl.xw_round_exit ?_
  refine Go.Sl.xw_block_exit ?_
  refine Go.Sl.xw_then ?_
  rotate_left
  · have hj2 : j < es.length := by omega
    have hVj := hV (cl :: D :: F)
    have hokj := (hV []).ok _ (List.getElem_mem hj2)
    have hoe : (es[j]).m.ok := hokj
    have hcj : ∀ u ∈ (es[j]).m.cells (es[j]).p, u.oneCell' = true := EvM.cells_one
    have hlj4 : ((es[j]).m.cells (es[j]).p).length = 4 := rfl
    have hDj := hD _ (List.getElem_mem hj2)
    have hb := hli _ (List.getElem_mem hj2)
    refine Go.Sl.cw_seq ?_
    refine Go.Sl.cw_block ?_
    refine Go.Sl.cw_seq ?_
    refine Go.Sl.cw_region ?_
    refine Go.Sl.ow_val rfl rfl (Go.Sl.v_move rfl) ?_
    refine Go.Sl.ow_val rfl rfl (Go.Sl.v_indexAddr_vw Try.underlying57 (evTy) rfl rfl (by assumption) rfl (by omega)) ?_
    refine Go.Sl.ow_val rfl rfl (Go.Sl.v_load rfl (Go.Sl.Vw.var (evTy) ((hV _)) (by omega))) ?_
    (refine Go.Sl.ow_alloc rfl rfl Ty.ze62 ?_; intro b7)
    refine Go.Sl.ow_val rfl rfl (Go.Sl.v_assign rfl) ?_
    refine Go.Sl.ow_storeE rfl (evTy) rfl rfl .here (by first | rfl | assumption) (by assumption) ?_
    refine Go.Sl.ow_nil ?_
    refine Go.Sl.xw_then ?_
    refine cw_cov ([(b7, .cells ((es[j]).m.cells (es[j]).p).toArray 62 (0, 0))] :: cl :: D :: [] :: F) (by first | exact Go.Sl.Cov.refl _ | (intro p; simp only [List.flatten_cons, List.flatten_nil, List.flatten_append, List.append_nil, List.nil_append, Go.Sl.cnt_append, Go.Sl.cnt_cons, Go.Sl.cnt_nil, List.set_cons_zero, List.set_cons_succ, List.length_nil, List.length_cons, Nat.zero_add, List.append]; omega)) ?_
    refine Go.Sl.cw_cut2 (ι := ((EvE × Hp))) [(0, _), (1, _), (4, _), (5, _), (7, _), (21, _), (22, _), (23, _)] ⟨rfl, rfl, rfl, rfl, rfl, rfl, rfl, rfl, trivial⟩ ((fun _ => [])) ((fun x => x.1.m.ok ∧ EvDeep B w0 x.1.m x.1.p x.2)) ((fun x => [(b7, .cells (x.1.m.cells x.1.p).toArray 62 (0, 0))] :: cl :: D :: x.2 :: F)) ?_ ?_
    · have hXj := hX F
      have hkj : ∀ (x : UInt8), 0 ≤ (x.toNat : Int) ∧ (x.toNat : Int) ≤ 255 := fun x => by have := x.toNat_lt; omega
      have hbo : ∀ (x : UInt8), enB.ok x := fun x => trivial
      refine Go.Sl.cw_seq ?_
      refine Go.Sl.cw_region ?_
      refine Go.Sl.ow_val rfl rfl (Go.Sl.v_move rfl) ?_
      refine Go.Sl.ow_val rfl rfl (Go.Sl.v_move rfl) ?_
      refine Go.Sl.ow_val rfl rfl (Go.Sl.v_len rfl Try.underlying23 rfl) ?_
      refine Go.Sl.ow_val rfl rfl (Go.Sl.v_lss rfl rfl) ?_
      refine Go.Sl.ow_nil ?_
      refine Go.Sl.xw_then ?_
      refine Go.Sl.cw_dec rfl (fun hc31 => ?_) (fun hc31 => ?_)
      refine Go.Sl.cw_mix [] [5, 6] [0, 1, 2, 3, 4] Ty.mixed rfl rfl rfl rfl (by decide +kernel) ?_
      refine Go.Sl.hw_read rfl rfl rfl (Go.Sl.v_load rfl (Go.Sl.Var.atN Ty.ag62 .here Go.Sl.GetN.all (by first | rfl | assumption))) ?_
      refine Go.Sl.hw_pure rfl rfl (Go.Sl.v_move rfl) rfl ?_
      refine Go.Sl.hw_pure rfl rfl (Go.Sl.v_move rfl) rfl ?_
      refine Go.Sl.hw_pure rfl rfl (Go.Sl.v_indexAddr_vw Try.underlying23 (vbTy) rfl rfl (by assumption) rfl (by omega)) rfl ?_
      refine Go.Sl.hw_read rfl rfl rfl (Go.Sl.v_load rfl (Go.Sl.Vw.var (vbTy) ((hX _)) (by omega))) ?_
      refine Go.Sl.hw_nil ?_
      refine Go.Sl.sw_nil ?_
      (refine Go.Sl.ow_call rfl rfl rfl rfl (small_c (hDj _ Sub.nil) hoe (by omega) (by omega) (hkj _)) ?_; rintro _ _ ⟨x37, rfl, hq37, rfl⟩)
      rotate_left
      refine Go.Sl.cw_skip ?_
      rotate_left
      · have hxo : ∀ u ∈ x37.m.cells x37.p, u.oneCell' = true := EvM.cells_one
        have hx4 : (x37.m.cells x37.p).length = ((es[j]).m.cells (es[j]).p).length := rfl
        refine Go.Sl.ow_storeN rfl rfl rfl Ty.ag62 (by first | rfl | assumption) (by first | assumption | simp) (.there (.there .here)) ((SetN.all hx4)) ?_
        refine Go.Sl.ow_nil ?_
        refine Go.Sl.xw_np ?_
        exact xw_joint ((⟨x37.m, x37.p⟩, x37.cn ++ x37.cd) : EvE × Hp) ⟨hq37.ok, is_deep hq37⟩ (by first | exact Go.Sl.Cov.refl _ | (intro p; simp only [List.flatten_cons, List.flatten_nil, List.flatten_append, List.append_nil, List.nil_append, Go.Sl.cnt_append, Go.Sl.cnt_cons, Go.Sl.cnt_nil, List.set_cons_zero, List.set_cons_succ, List.length_nil, List.length_cons, Nat.zero_add, List.append]; omega)) (by repeat (first | exact True.intro | refine And.intro rfl ?_))
      · exact xw_joint ((es[j], []) : EvE × Hp) ⟨hoe, hDj⟩ (by first | exact Go.Sl.Cov.refl _ | (intro p; simp only [List.flatten_cons, List.flatten_nil, List.flatten_append, List.append_nil, List.nil_append, Go.Sl.cnt_append, Go.Sl.cnt_cons, Go.Sl.cnt_nil, List.set_cons_zero, List.set_cons_succ, List.length_nil, List.length_cons, Nat.zero_add, List.append]; omega)) (by repeat (first | exact True.intro | refine And.intro rfl ?_))
    · rintro ⟨e, E⟩ ⟨heo, hE⟩
      dsimp only at heo hE ⊢
      have hco : ∀ u ∈ e.m.cells e.p, u.oneCell' = true := EvM.cells_one
      have hcl4 : (e.m.cells e.p).length = 4 := rfl
      have heo2 : enEv.ok e := heo
      have hlb : l.length ≤ 60 := by omega
      refine Go.Sl.cw_region ?_
      refine Go.Sl.ow_val rfl rfl (Go.Sl.v_move rfl) ?_
      refine Go.Sl.ow_val rfl rfl (Go.Sl.v_load rfl (Go.Sl.Var.atN Ty.ag62 .here Go.Sl.GetN.all (by first | rfl | assumption))) ?_
      (refine Go.Sl.ow_buildL (es := [(e)]) rfl rfl Try.underlying57 Ty.em57 (evTy) rfl rfl (by first | (simp [*]; done) | (repeat (first | exact List.forall_mem_nil _ | refine List.forall_mem_cons.2 ⟨?_, ?_⟩ | assumption | (show _ ∧ _; omega)))) (by simp only [List.length_cons, List.length_nil]; decide) ?_; intro ao40 c40 hL40)
      (refine Go.Sl.ow_appendL rfl rfl Try.underlying57 Try.underlying57 Ty.em57 (evTy) rfl rfl (by assumption) (by repeat (first | exact Go.Sl.Sel.here | apply Go.Sl.Sel.there)) (Go.Sl.Ls.vw (by assumption) (by repeat (first | exact Go.Sl.Sub.here | exact Go.Sl.Sub.nil | assumption | refine Go.Sl.Sub.there ?_))) (by first | omega | (simp only [List.length_append, List.length_take, List.length_drop, List.length_nil, List.length_cons]; omega)) (by first | omega | (simp only [List.length_append, List.length_take, List.length_drop, List.length_nil, List.length_cons]; omega)) ?_; intro ao41 cap41 c41 hL41)
      refine Go.Sl.ow_val rfl rfl (Go.Sl.v_assign rfl) ?_
      refine Go.Sl.ow_nil ?_
      refine Go.Sl.xw_block ?_
      refine Go.Sl.xw_then ?_
      refine Go.Sl.cw_region ?_
      refine Go.Sl.ow_val rfl rfl (Go.Sl.v_add rfl rfl (Go.Sl.nw_i64 (by omega) (by omega))) ?_
      refine Go.Sl.ow_val rfl rfl (Go.Sl.v_move rfl) ?_
      refine Go.Sl.ow_nil ?_
      exact xw_round (⟨j + 1, l ++ [e], ao41, cap41, c41, D ++ E⟩ : RwG) ⟨by dsimp only; omega, by dsimp only; rw [List.length_append, List.length_singleton]; omega, hL41, fun y hy => by
        rcases List.mem_append.1 hy with hy | hy
        · exact deep_l (hl y hy)
        · simp only [List.mem_cons, List.not_mem_nil, or_false] at hy
          subst hy
          exact deep_r hE⟩ (by dsimp only; omega) (by first | exact Go.Sl.Cov.refl _ | (intro p; simp only [List.flatten_cons, List.flatten_nil, List.flatten_append, List.append_nil, List.nil_append, Go.Sl.cnt_append, Go.Sl.cnt_cons, Go.Sl.cnt_nil, List.set_cons_zero, List.set_cons_succ, List.length_nil, List.length_cons, Nat.zero_add, List.append]; omega)) (by repeat (first | exact True.intro | refine And.intro rfl ?_))
  have hlb : l.length ≤ 60 := by omega
  clear hD hli
  have hms : ∀ m ∈ l.map (·.m), m.ok := fun m hm => by
    obtain ⟨e, he, rfl⟩ := List.mem_map.1 hm
    exact (hL.vw (B := B) (w0 := w0) (G := cl :: F) Sub.here).ok e he
  have hlm : (l.map (·.m)).length = l.length := List.length_map ..
  have hA := fun {G : List Hp} (h1 : Sub cl G) (h2 : Sub D G) => stAll_c (B := B) (w0 := w0) (G := G) (es := l) (hL.vw h1) (by omega) hl h2
  have hwf := runAll_wf StM.zero_wf hms
  have hsz := runAll_sz (l := l.map (·.m)) StM.zero_sz
  obtain ⟨⟨t, n, e⟩, hr⟩ : ∃ r, r = runAll StM.zero (l.map (·.m)) := ⟨_, rfl⟩
  rw [← hr] at hA hwf hsz
  dsimp only at hA hwf hsz
  have hcl : ∀ (s : StM) (p : StP), s.WF → (s.cells p).length = 37 := fun s p h => StM.cells_len h
  have hco : ∀ (s : StM) (p : StP), ∀ u ∈ s.cells p, u.oneCell' = true := fun s p => StM.cells_one
  have hev := runAll_ev (s := StM.zero) (l := l.map (·.m))
  rw [← hr] at hev
  dsimp only at hev
  have hzl : ∀ (s : StM) (p : StP), s.WF → (s.cells p).length = zeroL.length := hcl
  refine Go.Sl.cw_seq ?_
  refine Go.Sl.cw_region ?_
  refine Go.Sl.ow_val rfl rfl (Go.Sl.v_move rfl) ?_
  (refine Go.Sl.ow_call rfl rfl rfl rfl (hA (by repeat (first | exact Go.Sl.Sub.here | exact Go.Sl.Sub.nil | assumption | refine Go.Sl.Sub.there ?_)) (by repeat (first | exact Go.Sl.Sub.here | exact Go.Sl.Sub.nil | assumption | refine Go.Sl.Sub.there ?_))) ?_; rintro _ _ ⟨x45, rfl, hq45, rfl⟩)
  refine Go.Sl.ow_val rfl rfl (Go.Sl.v_move rfl) ?_
  refine Go.Sl.ow_val rfl rfl (Go.Sl.v_extract rfl rfl) ?_
  refine Go.Sl.ow_val rfl rfl (Go.Sl.v_extract rfl rfl) ?_
  refine Go.Sl.ow_val rfl rfl (Go.Sl.v_extract rfl rfl) ?_
  (refine Go.Sl.ow_alloc rfl rfl Ty.ze75 ?_; intro b8)
  obtain ⟨p8, D8⟩ := x45
  obtain ⟨hD8, hl8⟩ := hq45
  dsimp only at hD8 hl8 ⊢
  have g1 := hcl t p8 hwf
  have g2 := hco t p8
  have g3 := hzl t p8 hwf
  refine ow_cov ([(b8, .cells zeroL.toArray 75 (0, 0))] :: D8 :: cl :: D :: F) (by unfold zeroL; exact (by first | exact Go.Sl.Cov.refl _ | (intro p; simp only [List.flatten_cons, List.flatten_nil, List.flatten_append, List.append_nil, List.nil_append, Go.Sl.cnt_append, Go.Sl.cnt_cons, Go.Sl.cnt_nil, List.set_cons_zero, List.set_cons_succ, List.length_nil, List.length_cons, Nat.zero_add, List.append]; omega))) ?_
  refine Go.Sl.ow_storeN rfl rfl rfl Ty.ag75 (by first | rfl | assumption) (by first | assumption | simp) .here ((SetN.all g3)) ?_
  refine Go.Sl.ow_val rfl rfl (Go.Sl.v_assign rfl) ?_
  refine Go.Sl.ow_val rfl rfl (Go.Sl.v_assign rfl) ?_
  refine Go.Sl.ow_nil ?_
  refine Go.Sl.xw_then ?_
  refine Go.Sl.cw_seq ?_
  refine Go.Sl.cw_region ?_
  (refine Go.Sl.ow_call rfl rfl rfl rfl (stNew_c) ?_; rintro _ _ ⟨x49, rfl, hq49, rfl⟩)
  (refine Go.Sl.ow_alloc rfl rfl Ty.ze75 ?_; intro b11)
  obtain ⟨p9, D9⟩ := x49
  obtain ⟨hD9, hl9⟩ := hq49
  dsimp only at hD9 hl9 ⊢
  have k1 := hcl StM.zero p9 StM.zero_wf
  have k2 := hco StM.zero p9
  have k3 := hzl StM.zero p9 StM.zero_wf
  refine ow_cov ([(b11, .cells zeroL.toArray 75 (0, 0))] :: D9 :: [(b8, .cells (t.cells p8).toArray 75 (0, 0))] :: D8 :: cl :: D :: F) (by unfold zeroL; exact (by first | exact Go.Sl.Cov.refl _ | (intro p; simp only [List.flatten_cons, List.flatten_nil, List.flatten_append, List.append_nil, List.nil_append, Go.Sl.cnt_append, Go.Sl.cnt_cons, Go.Sl.cnt_nil, List.set_cons_zero, List.set_cons_succ, List.length_nil, List.length_cons, Nat.zero_add, List.append]; omega))) ?_
  refine Go.Sl.ow_storeN rfl rfl rfl Ty.ag75 (by first | rfl | assumption) (by first | assumption | simp) .here ((SetN.all k3)) ?_
  refine Go.Sl.ow_nil ?_
  refine Go.Sl.xw_then ?_
  refine Go.Sl.cw_seq ?_
  refine Go.Sl.cw_seq ?_
  refine Go.Sl.cw_region ?_
  refine Go.Sl.ow_val rfl rfl (Go.Sl.v_move rfl) ?_
  refine Go.Sl.ow_val rfl rfl (Go.Sl.v_len rfl Try.underlying57 rfl) ?_
  refine Go.Sl.ow_val rfl rfl (Go.Sl.v_move rfl) ?_
  refine Go.Sl.ow_nil ?_
  refine Go.Sl.xw_then ?_
  refine Go.Sl.cw_block ?_
  refine Go.Sl.cw_loop2 (ι := (FoG)) [(5, _), (8, _), (9, _), (10, _), (11, _), (50, _), (51, _)] ⟨rfl, rfl, rfl, rfl, rfl, rfl, rfl, trivial⟩ ((fun x => [(52, .int .i64 x.i)])) ((fun x => x.i ≤ l.length ∧ x.s.WF ∧ x.s.Sz x.i ∧ StDeep x.s x.p x.E ∧ x.p.live ∧ (t, n, e) = ((runAll x.s ((l.drop x.i).map (·.m))).1, (runAll x.s ((l.drop x.i).map (·.m))).2.1 + x.i, (runAll x.s ((l.drop x.i).map (·.m))).2.2))) ((fun x => l.length - x.i)) ((fun x => [(b11, .cells (x.s.cells x.p).toArray 75 (0, 0))] :: x.E :: [(b8, .cells (t.cells p8).toArray 75 (0, 0))] :: D8 :: cl :: D :: F)) ((⟨0, StM.zero, p9, D9⟩ : FoG)) (by repeat (first | exact True.intro | refine And.intro rfl ?_)) (by first | exact Go.Sl.Cov.refl _ | (intro p; simp only [List.flatten_cons, List.flatten_nil, List.flatten_append, List.append_nil, List.nil_append, Go.Sl.cnt_append, Go.Sl.cnt_cons, Go.Sl.cnt_nil, List.set_cons_zero, List.set_cons_succ, List.length_nil, List.length_cons, Nat.zero_add, List.append]; omega)) ?_ ?_
  · exact ⟨Nat.zero_le _, StM.zero_wf, StM.zero_sz, hD9, hl9, by rw [hr]; rfl⟩
  rintro ⟨i, s, q, E⟩ ⟨hi, hw, hz, hE, hq, hrs⟩
  dsimp only at hi hw hz hE hq hrs ⊢
  have m1 := hcl s q hw
  have m2 := hco s q
  refine Go.Sl.cw_seq ?_
  refine Go.Sl.cw_region ?_
  refine Go.Sl.ow_val rfl rfl (Go.Sl.v_lss rfl rfl) ?_
  refine Go.Sl.ow_nil ?_
  refine Go.Sl.xw_then ?_
  refine Go.Sl.cw_seq ?_
  refine Go.Sl.cw_dec rfl (fun hc53 => ?_) (fun hc53 => ?_)
  refine Go.Sl.cw_skip ?_
  refine Go.Sl.xw_then ?_
  rotate_left
  refine Go.Sl.cw_exit ?_
  refine Go.Sl.xw_then_exit ?_
  refine Go.Sl.xw_round_exit ?_
  refine Go.Sl.xw_block_exit ?_
  refine Go.Sl.xw_then ?_
  rotate_left
  · have hi2 : i < l.length := by omega
    have hVl := fun (G : List Hp) (h : Sub cl G) => hL.vw (B := B) (w0 := w0) (G := G) h
    have hoki := (hVl [cl] Sub.here).ok _ (List.getElem_mem hi2)
    have hoe : (l[i]).m.ok := hoki
    have hDi := hl _ (List.getElem_mem hi2)
    have hce : ∀ u ∈ (l[i]).m.cells (l[i]).p, u.oneCell' = true := EvM.cells_one
    have hle : ((l[i]).m.cells (l[i]).p).length = 4 := rfl
    have hdr : l.drop i = l[i] :: l.drop (i + 1) := List.drop_eq_getElem_cons hi2
    rw [hdr, List.map_cons] at hrs
    have hw' := StM.step_wf hw hoe
    refine Go.Sl.cw_seq ?_
    refine Go.Sl.cw_block ?_
    refine Go.Sl.cw_seq ?_
    refine Go.Sl.cw_region ?_
    refine Go.Sl.ow_val rfl rfl (Go.Sl.v_move rfl) ?_
    refine Go.Sl.ow_val rfl rfl (Go.Sl.v_indexAddr_ls Try.underlying57 (evTy) rfl rfl (by assumption) rfl (by omega)) ?_
    refine Go.Sl.ow_val rfl rfl (Go.Sl.v_load rfl (Go.Sl.Vw.var (evTy) ((hVl _ (by repeat (first | exact Go.Sl.Sub.here | exact Go.Sl.Sub.nil | assumption | refine Go.Sl.Sub.there ?_)))) (by omega))) ?_
    (refine Go.Sl.ow_alloc rfl rfl Ty.ze62 ?_; intro b13)
    refine Go.Sl.ow_val rfl rfl (Go.Sl.v_assign rfl) ?_
    refine Go.Sl.ow_storeE rfl (evTy) rfl rfl .here (by first | rfl | assumption) (by assumption) ?_
    refine Go.Sl.ow_nil ?_
    refine Go.Sl.xw_then ?_
    refine Go.Sl.cw_seq ?_
    refine Go.Sl.cw_region ?_
    refine Go.Sl.ow_val rfl rfl (Go.Sl.v_load rfl (Go.Sl.Var.atN Ty.ag75 (.there .here) Go.Sl.GetN.all (by first | rfl | assumption))) ?_
    refine Go.Sl.ow_val rfl rfl (Go.Sl.v_load rfl (Go.Sl.Var.atN Ty.ag62 .here Go.Sl.GetN.all (by first | rfl | assumption))) ?_
    (refine Go.Sl.ow_call rfl rfl rfl rfl (stFoldV_c hE (by repeat (first | exact Go.Sl.Sub.here | exact Go.Sl.Sub.nil | assumption | refine Go.Sl.Sub.there ?_)) hw (hz.mono (by omega)) hoe hDi (by repeat (first | exact Go.Sl.Sub.here | exact Go.Sl.Sub.nil | assumption | refine Go.Sl.Sub.there ?_))) ?_; rintro _ _ ⟨x60, rfl, hq60, rfl⟩)
    refine Go.Sl.ow_val rfl rfl (Go.Sl.v_move rfl) ?_
    refine Go.Sl.ow_val rfl rfl (Go.Sl.v_extract rfl rfl) ?_
    refine Go.Sl.ow_val rfl rfl (Go.Sl.v_extract rfl rfl) ?_
    (refine Go.Sl.ow_alloc rfl rfl Ty.ze75 ?_; intro b14)
    obtain ⟨q6, E6⟩ := x60
    obtain ⟨hE6, hq6⟩ := hq60
    dsimp only at hE6 hq6 ⊢
    have n1 := hcl _ q6 hw'
    have n2 := hco (s.step (l[i]).m).1 q6
    have n3 := hzl _ q6 hw'
    refine ow_cov ([(b14, .cells zeroL.toArray 75 (0, 0))] :: E6 :: [(b13, .cells ((l[i]).m.cells (l[i]).p).toArray 62 (0, 0))] :: [(b11, .cells (s.cells q).toArray 75 (0, 0))] :: E :: [(b8, .cells (t.cells p8).toArray 75 (0, 0))] :: D8 :: cl :: D :: F) (by unfold zeroL; exact (by first | exact Go.Sl.Cov.refl _ | (intro p; simp only [List.flatten_cons, List.flatten_nil, List.flatten_append, List.append_nil, List.nil_append, Go.Sl.cnt_append, Go.Sl.cnt_cons, Go.Sl.cnt_nil, List.set_cons_zero, List.set_cons_succ, List.length_nil, List.length_cons, Nat.zero_add, List.append]; omega))) ?_
    refine Go.Sl.ow_storeN rfl rfl rfl Ty.ag75 (by first | rfl | assumption) (by first | assumption | simp) .here ((SetN.all n3)) ?_
    refine Go.Sl.ow_val rfl rfl (Go.Sl.v_assign rfl) ?_
    refine Go.Sl.ow_nil ?_
    refine Go.Sl.xw_then ?_
    refine Go.Sl.cw_seq ?_
    refine Go.Sl.cw_seq ?_
    refine Go.Sl.cw_region ?_
    refine Go.Sl.ow_val rfl rfl (Go.Sl.v_move rfl) ?_
    refine Go.Sl.ow_val rfl rfl (Go.Sl.v_neq rfl rfl) ?_
    refine Go.Sl.ow_nil ?_
    refine Go.Sl.xw_then ?_
    refine Go.Sl.cw_dec rfl (fun hc64 => ?_) (fun hc64 => ?_)
    rotate_left
    refine Go.Sl.cw_skip ?_
    refine Go.Sl.xw_then ?_
    refine Go.Sl.cw_region ?_
    refine Go.Sl.ow_val rfl rfl (Go.Sl.v_load rfl (Go.Sl.Var.atN Ty.ag75 .here Go.Sl.GetN.all (by first | rfl | assumption))) ?_
    refine Go.Sl.ow_storeN rfl rfl rfl Ty.ag75 (by first | rfl | assumption) (by first | assumption | simp) (.there (.there (.there .here))) (Go.Sl.SetN.all (by first | rfl | assumption | simp_all)) ?_
    refine Go.Sl.ow_nil ?_
    refine Go.Sl.xw_block ?_
    refine Go.Sl.xw_then ?_
    refine Go.Sl.cw_region ?_
    refine Go.Sl.ow_val rfl rfl (Go.Sl.v_add rfl rfl (Go.Sl.nw_i64 (by omega) (by omega))) ?_
    refine Go.Sl.ow_val rfl rfl (Go.Sl.v_move rfl) ?_
    refine Go.Sl.ow_nil ?_
    rotate_left
    · rw [runAll, if_pos hc64] at hrs
      simp only [Prod.mk.injEq, Nat.zero_add] at hrs
      obtain ⟨h1, h2, h3⟩ := hrs
      subst h1 h2 h3
      refine Go.Sl.cw_seq ?_
      refine Go.Sl.cw_region ?_
      refine Go.Sl.ow_val rfl rfl (Go.Sl.v_move rfl) ?_
      refine Go.Sl.ow_val rfl rfl (Go.Sl.v_move rfl) ?_
      refine Go.Sl.ow_val rfl rfl (Go.Sl.v_eql rfl rfl) ?_
      refine Go.Sl.ow_val rfl rfl (Go.Sl.v_move rfl) ?_
      refine Go.Sl.ow_dec 68 rfl (fun hc68 => ?_) (fun hc68 => ?_)
      rotate_left; (exfalso; omega); rotate_right
      refine Go.Sl.ow_val rfl rfl (Go.Sl.v_move rfl) ?_
      refine Go.Sl.ow_val rfl rfl (Go.Sl.v_move rfl) ?_
      refine Go.Sl.ow_val rfl rfl (Go.Sl.v_eql rfl rfl) ?_
      refine Go.Sl.ow_val rfl rfl (Go.Sl.v_pick_true rfl rfl) ?_
      refine Go.Sl.ow_val rfl rfl (Go.Sl.v_move rfl) ?_
      refine Go.Sl.ow_dec 73 rfl (fun hc73 => ?_) (fun hc73 => ?_)
      rotate_left; (exfalso; omega); rotate_right
      refine Go.Sl.ow_val rfl rfl (Go.Sl.v_load rfl (Go.Sl.Var.atN Ty.ag75 (.there (.there (.there (.there (.there .here))))) Go.Sl.GetN.all (by first | rfl | assumption))) ?_
      refine Go.Sl.ow_val rfl rfl (Go.Sl.v_load rfl (Go.Sl.Var.atN Ty.ag75 (.there (.there (.there .here))) Go.Sl.GetN.all (by first | rfl | assumption))) ?_
      refine Go.Sl.ow_val rfl rfl (Go.Sl.v_call rfl rfl (stDiffers_c hD8 hE hl8 hq (by repeat (first | exact Go.Sl.Sub.here | exact Go.Sl.Sub.nil | assumption | refine Go.Sl.Sub.there ?_)) (by repeat (first | exact Go.Sl.Sub.here | exact Go.Sl.Sub.nil | assumption | refine Go.Sl.Sub.there ?_)) hw (hz.mono (by omega)))) ?_
      refine Go.Sl.ow_val rfl rfl (Go.Sl.v_eqlS rfl rfl) ?_
      refine Go.Sl.ow_val rfl rfl (Go.Sl.v_pick_true rfl rfl) ?_
      refine Go.Sl.ow_val rfl rfl (Go.Sl.v_assign rfl) ?_
      refine Go.Sl.ow_nil ?_
      refine Go.Sl.xw_then ?_
      refine Go.Sl.cw_ret ?_
      refine Go.Sl.xw_then_ret ?_
      refine Go.Sl.xw_block_ret ?_
      refine Go.Sl.xw_then_ret ?_
      refine Go.Sl.xw_round_ret ?_
      refine Go.Sl.xw_block_ret ?_
      refine Go.Sl.xw_then_ret ?_
      refine Go.Sl.ret1 rfl (Go.Sl.res_tmp rfl) ?_
      exact done0 (congrArg Value.bool (decide_eq_true rfl)) (by first | exact Go.Sl.Cov.refl _ | (intro p; simp only [List.flatten_cons, List.flatten_nil, List.flatten_append, List.append_nil, List.nil_append, Go.Sl.cnt_append, Go.Sl.cnt_cons, Go.Sl.cnt_nil, List.set_cons_zero, List.set_cons_succ, List.length_nil, List.length_cons, Nat.zero_add, List.append]; omega))
    · rw [runAll, if_neg hc64] at hrs
      exact xw_round (⟨i + 1, (s.step (l[i]).m).1, q6, E6⟩ : FoG) ⟨by dsimp only; omega, hw', StM.step_sz hz, hE6, hq6, by rw [hrs]; dsimp only; rw [Nat.add_assoc, Nat.add_comm 1 i]⟩ (by dsimp only; omega) (by first | exact Go.Sl.Cov.refl _ | (intro p; simp only [List.flatten_cons, List.flatten_nil, List.flatten_append, List.append_nil, List.nil_append, Go.Sl.cnt_append, Go.Sl.cnt_cons, Go.Sl.cnt_nil, List.set_cons_zero, List.set_cons_succ, List.length_nil, List.length_cons, Nat.zero_add, List.append]; omega)) (by repeat (first | exact True.intro | refine And.intro rfl ?_))
  · have hi3 : i = l.length := by omega
    subst hi3
    rw [List.drop_length, List.map_nil, runAll] at hrs
    simp only [Prod.mk.injEq, Nat.zero_add] at hrs
    obtain ⟨h1, h2, h3⟩ := hrs
    subst h1 h2 h3
    refine Go.Sl.cw_seq ?_
    refine Go.Sl.cw_region ?_
    refine Go.Sl.ow_val rfl rfl (Go.Sl.v_move rfl) ?_
    refine Go.Sl.ow_val rfl rfl (Go.Sl.v_move rfl) ?_
    refine Go.Sl.ow_val rfl rfl (Go.Sl.v_len rfl Try.underlying57 rfl) ?_
    refine Go.Sl.ow_val rfl rfl (Go.Sl.v_eql rfl rfl) ?_
    refine Go.Sl.ow_val rfl rfl (Go.Sl.v_move rfl) ?_
    refine Go.Sl.ow_dec 85 rfl (fun hc85 => ?_) (fun hc85 => ?_)
    rotate_left; (exfalso; omega); rotate_right
    refine Go.Sl.ow_val rfl rfl (Go.Sl.v_move rfl) ?_
    refine Go.Sl.ow_val rfl rfl (Go.Sl.v_eql rfl rfl) ?_
    refine Go.Sl.ow_val rfl rfl (Go.Sl.v_pick_true rfl rfl) ?_
    refine Go.Sl.ow_val rfl rfl (Go.Sl.v_move rfl) ?_
    refine Go.Sl.ow_dec 89 rfl (fun hc89 => ?_) (fun hc89 => ?_)
    rotate_left; (exfalso; omega); rotate_right
    refine Go.Sl.ow_val rfl rfl (Go.Sl.v_load rfl (Go.Sl.Var.atN Ty.ag75 (.there (.there .here)) Go.Sl.GetN.all (by first | rfl | assumption))) ?_
    refine Go.Sl.ow_val rfl rfl (Go.Sl.v_load rfl (Go.Sl.Var.atN Ty.ag75 .here Go.Sl.GetN.all (by first | rfl | assumption))) ?_
    refine Go.Sl.ow_val rfl rfl (Go.Sl.v_call rfl rfl (stDiffers_c hD8 hE hl8 hq (by repeat (first | exact Go.Sl.Sub.here | exact Go.Sl.Sub.nil | assumption | refine Go.Sl.Sub.there ?_)) (by repeat (first | exact Go.Sl.Sub.here | exact Go.Sl.Sub.nil | assumption | refine Go.Sl.Sub.there ?_)) hw (hz.mono (by omega)))) ?_
    refine Go.Sl.ow_val rfl rfl (Go.Sl.v_eqlS rfl rfl) ?_
    refine Go.Sl.ow_val rfl rfl (Go.Sl.v_pick_true rfl rfl) ?_
    refine Go.Sl.ow_val rfl rfl (Go.Sl.v_move rfl) ?_
    refine Go.Sl.ow_dec 95 rfl (fun hc95 => ?_) (fun hc95 => ?_)
    refine Go.Sl.ow_val rfl rfl (Go.Sl.v_fieldAddr0 Ty.fd75_13 rfl) ?_
    refine Go.Sl.ow_val rfl rfl (Go.Sl.v_load rfl (Go.Sl.Var.at1 Ty.sc3 (.there (.there .here)) ((get_tail (j := 12) hwf rfl)))) ?_
    refine Go.Sl.ow_val rfl rfl (Go.Sl.v_move rfl) ?_
    refine Go.Sl.ow_val rfl rfl (Go.Sl.v_eql rfl rfl) ?_
    refine Go.Sl.ow_val rfl rfl (Go.Sl.v_pick_true rfl rfl) ?_
    refine Go.Sl.ow_val rfl rfl (Go.Sl.v_assign rfl) ?_
    refine Go.Sl.ow_nil ?_
    refine Go.Sl.xw_then ?_
    refine Go.Sl.cw_ret ?_
    refine Go.Sl.ret1 rfl (Go.Sl.res_tmp rfl) ?_
    rotate_left
    refine Go.Sl.ow_skip rfl rfl ?_
    refine Go.Sl.ow_skip rfl rfl ?_
    refine Go.Sl.ow_skip rfl rfl ?_
    refine Go.Sl.ow_skip rfl rfl ?_
    refine Go.Sl.ow_val rfl rfl (Go.Sl.v_pick_false rfl rfl) ?_
    refine Go.Sl.ow_val rfl rfl (Go.Sl.v_assign rfl) ?_
    refine Go.Sl.ow_nil ?_
    refine Go.Sl.xw_then ?_
    refine Go.Sl.cw_ret ?_
    refine Go.Sl.ret1 rfl (Go.Sl.res_tmp rfl) ?_
    rotate_left
    · have hev2 : t.ev = (l.length : Int) := by
        rw [hev]
        exact Int.zero_add _
      exact done0 (congrArg Value.bool (decide_eq_true hev2)) (by first | exact Go.Sl.Cov.refl _ | (intro p; simp only [List.flatten_cons, List.flatten_nil, List.flatten_append, List.append_nil, List.nil_append, Go.Sl.cnt_append, Go.Sl.cnt_cons, Go.Sl.cnt_nil, List.set_cons_zero, List.set_cons_succ, List.length_nil, List.length_cons, Nat.zero_add, List.append]; omega))
    · exact absurd rfl hc95

theorem walk {H : Type} {enc : TypeId × Value → H} (W : World) (base : Nat) (args : Array Value) (ds : List (DataW H)) (p : List MemPlace)
    (hval : ∀ (j : Nat) t v, Try.f6.params[j]? = some t → args[j]? = some v → Value.okWide Try.prog W .any base t v)
    (hA : DataW.TrodAll enc Try.prog W 0 (fun _ => true) true Try.f6.params.toList args.toList ds p) :
    Calls Try.prog 6 args W fun e w' => e = .returned (.bool true) ∧ Below W.heap.size W w' := by
  rw [Try.params6] at hA hval
  obtain ⟨v0, vs0, d0, ds0, p0, q0, hargs, rfl, rfl, h0, r0⟩ := trodAll_cons hA
  obtain ⟨v1, vs1, d1, ds1, p1, q1, rfl, rfl, rfl, h1, r1⟩ := trodAll_cons r0
  obtain ⟨rfl, rfl, rfl⟩ := trodAll_nil r1
  obtain rfl : args = #[v0, v1] := by cases args; simp_all
  obtain ⟨es, ao, ca, rfl, hn, hV, hD⟩ := open_events (hval 0 57 v0 rfl rfl) h0
  obtain ⟨xs, bo, cb, rfl, hx, _, hX⟩ := open_bytes (hval 1 23 v1 rfl rfl) h1
  refine (law hn hx hV hX hD []).call

theorem own : ownKnob Try.prog.godebug = none := by kernel_rfl
theorem laidOut : laidOutB Try.prog = true := by kernel_rfl
theorem reads : ∀ t ∈ Try.f6.params.toList, Try.prog.readableRec t = true ∧ t < Try.prog.types.size := by
  rw [Try.params6]
  intro t ht
  simp only [List.mem_cons, List.not_mem_nil, or_false] at ht
  rcases ht with rfl | rfl
  · exact ⟨by kernel_rfl, of_decide_eq_true (by kernel_rfl)⟩
  · exact ⟨by kernel_rfl, of_decide_eq_true (by kernel_rfl)⟩

set_option maxRecDepth 100000 in
theorem lifted (os : Os) (started : os.Started) (H : Type) (enc : TypeId × Value → H) :
    ReturnsInHanded {} Try.checked os 6 .any (Rows.replayAllSpec.pre6 enc Try.prog Try.f6 Rows.replayAllRow.domain false) (Rows.replayAllSpec.post enc Try.prog Try.f6 false true false false) := by
  refine returnsInHanded_of_change (C := Try.checked) own started (by kernel_rfl) Try.func6
    (ChangeSpec.witness6 (enc := enc) (C := Try.checked) false ⟨#[], #[.slice none 0 0, .slice none 0 0], []⟩ 8 (by kernel_rfl) (by kernel_rfl) (by kernel_rfl) (by kernel_rfl)) ?_
  intro W base args ds gs before hval hW _ _
  have hW' := hW
  obtain ⟨p, q, hA0, hV, rfl, _, _⟩ := hW
  obtain ⟨rfl, rfl⟩ := trodVars_none hV
  have hA : DataW.TrodAll enc Try.prog W 0 (fun _ => true) true Try.f6.params.toList args.toList ds p := hA0
  have hlen := trodAll_len hA
  refine (walk W base args ds p hval hA).mono fun e W' ⟨he, bel⟩ => ?_
  subst he
  rw [Try.params6] at hlen
  match ds, hlen.2, hA, hW' with
  | [d0, d1], _, hA, hW' => exact ⟨_, rfl, _, _, _, [], _, [], hW', trodAll_mk1 (shut_bool Try.underlying4 _), trodAll_stays laidOut bel reads hA, rfl, bel.frame _, fun h => by cases h⟩

theorem over : Rows.replayAllRow.holds Try.pinned (OpenSpec.ofChange Rows.replayAllSpec) :=
  OpenClaim.holds_of_wide 6 Try.f6 rfl rfl rfl rfl rfl rfl rfl ⟨rfl, rfl, rfl, rfl, rfl⟩ rfl rfl rfl rfl rfl (by kernel_rfl) Try.func6 (by kernel_rfl)
    (of_decide_eq_true (by kernel_rfl)) (by unfold Func.isWrapper; first | (rw [if_pos (by decide +kernel)]; kernel_rfl) | (rw [if_neg (by decide +kernel)]; exact ⟨rfl, rfl⟩))
    (fun os started H enc _ => lifted os started H enc)

theorem proved : Rows.ReplayAllSaid := over

end Go.Proofs.Ytckdhelnafjddaa.lawReplayAll
