/- Replay in memory: what is known behind an event, behind events. Conditions: numbers fit their types. -/
import Derived.Test.YtckdhelnafjddaaRpG
namespace Go.Proofs.Ytckdhelnafjddaa
open Go Go.Sl Go.Proofs Go.RowKit Go.ChangeShapes Go.WideShapes Go.ChangeAt
set_option maxRecDepth 20000
set_option linter.unusedVariables false
set_option linter.unusedSimpArgs false

theorem spFoldO_c {B : Nat} {w0 : World} {G : List Hp} {R : Hp → List Hp} {pre post : List Value} {T : TypeId} {x : SpM} {b o : Nat} {c D : Hp} {e : EvM} {p : EvP} (ho : o = pre.length) (hsel : Sel G c R) (hO : SpAt pre post T x b c) (hw : x.WF) (hb : x.sent.length ≤ 1000000) (he : e.ok) (hc : e.chk = 0) (hk : 2 ≤ e.k ∧ e.k ≤ 7) (hD : EvDeep B w0 e p D) (hs : Sub D (R [])) :
    Go.Sl.Fn Try.prog 74 #[.pointer (some ⟨b, o, none⟩), .agg (e.cells p).toArray] B w0 G fun u G' => ∃ c' : Hp, u = .int .i64 (x.step e).2 ∧ SpAt pre post T (x.step e).1 b c' ∧ G' = R c' := by
  subst ho
  exact spFold_c hsel hO hw hb he hc hk hD hs
theorem manyK_pos2 {k : Int} {n : Nat} (h : 2 ≤ k ∧ k ≤ 7) (hn : (n : Int) = manyK k.toNat) : 1 ≤ n := by
  obtain ⟨m, rfl⟩ := Int.eq_ofNat_of_zero_le (show 0 ≤ k by omega)
  have hm : 2 ≤ m ∧ m ≤ 7 := by omega
  have key : ∀ j : Fin 8, 2 ≤ j.val → 1 ≤ manyK j.val := by decide
  have h1 := key ⟨m, by omega⟩ hm.1
  have h2 : (n : Int) = manyK m := hn
  have h3 : 1 ≤ manyK m := h1
  omega
theorem StM.store_ev {s : StM} {e : EvM} : (s.store e).ev = s.ev := by
  unfold StM.store
  split <;> rfl
set_option maxHeartbeats 16000000 in
theorem stFold_c {B : Nat} {w0 : World} {G : List Hp} {R : Hp → List Hp} {s : StM} {b : Nat} {c De : Hp} {e : EvM} {p : EvP} (hsel : Sel G c R) (hO : StAt s b c) (hw : s.WF) (hz : s.Sz 900000) (he : e.ok) (hD : EvDeep B w0 e p De) (hs : Sub De (R [])) :
    Go.Sl.Fn Try.prog 53 #[.pointer (some ⟨b, 0, none⟩), .agg (e.cells p).toArray] B w0 G fun u G' => ∃ c' : Hp, u = .int .i64 (s.step e).2 ∧ StAt (s.step e).1 b c' ∧ G' = R c' := by
  refine Fn.sel0 hsel fun F hR hF => ?_
  have hsF := Sub.rest hs hR
  have hOO := hO

  obtain ⟨ps, D0, rfl, ⟨a0, d0, a1, d1, a2, d2, k1, k2, k3, k4, k5, rfl, hd⟩, hlv⟩ := hO
  obtain ⟨p0, p1, p2, pcr, pst, pow, pot, ppa⟩ := ps
  obtain ⟨⟨n1, h1⟩, ⟨n2, h2⟩, ⟨n3, h3⟩, ⟨n4, h4⟩, ⟨n5, h5⟩⟩ := hlv
  dsimp only at h1 h2 h3 h4 h5
  subst h1 h2 h3 h4 h5
  obtain ⟨m0, m1, m2, m3, m4, m5, m6, m7, hm⟩ := list8i hw.mt.1

  have hc1 : ∀ u ∈ e.cells p, u.oneCell' = true := EvM.cells_one
  have hc4 : (e.cells p).length = 4 := rfl
  have hev := hz.ev
  refine fn_enter Try.func53 rfl (by kernel_rfl) Try.ntmps53 (by simp) ?_
  refine cw_seq ?_
  refine cw_region ?_
  (refine ow_box rfl rfl rfl rfl ?_; intro b3)
  refine ow_val rfl rfl (v_assign rfl) ?_
  refine ow_nil ?_
  refine xw_then ?_
  refine cw_seq ?_
  refine cw_seq ?_
  refine cw_region ?_
  refine ow_val rfl rfl (v_load rfl (Var.atN Ty.ag62 .here GetN.all (by first | rfl | assumption))) ?_
  refine ow_val rfl rfl (v_call rfl rfl (evCheck_c (hD _ (by repeat (first | exact Sub.here | exact Sub.nil | assumption | refine Sub.there ?_))) he)) ?_
  refine ow_val rfl rfl (v_assign rfl) ?_
  refine ow_nil ?_
  refine xw_then ?_
  refine cw_seq ?_
  refine cw_region ?_
  refine ow_val rfl rfl (v_move rfl) ?_
  refine ow_val rfl rfl (v_neq rfl rfl) ?_
  refine ow_nil ?_
  refine xw_then ?_
  refine cw_dec rfl (fun hc10 => ?_) (fun hc10 => ?_)
  refine cw_seq ?_
  refine cw_region ?_
  refine ow_val rfl rfl (v_move rfl) ?_
  refine ow_val rfl rfl (v_assign rfl) ?_
  refine ow_nil ?_
  refine xw_then ?_
  refine cw_ret ?_
  refine xw_then_ret ?_
  refine ret1 rfl (res_tmp rfl) ?_
  rotate_left
  refine cw_skip ?_
  refine xw_then ?_
  rotate_left
  · have e1 : s.step e = (s, e.chk) := by rw [StM.step, if_pos hc10]
    rw [e1]
    exact ⟨_, rfl, hOO, (by first | exact Cov.refl _ | (intro p; simp only [List.flatten_cons, List.flatten_nil, List.flatten_append, List.append_nil, List.nil_append, cnt_append, cnt_cons, cnt_nil, List.set_cons_zero, List.set_cons_succ, List.length_nil, List.length_cons, Nat.zero_add, List.append]; omega))⟩
  have hck : e.chk = 0 := Decidable.not_not.1 hc10
  obtain ⟨hke, _, hlen, hdl, _, hle⟩ := EvM.chk_ok hck
  refine cw_flat ([(b3, .cells (e.cells p).toArray 62 (0, 0))] :: [(b, .cells (s.cells ⟨p0, p1, p2, some n1, some n2, some n3, some n4, some n5⟩).toArray 75 (0, 0))] :: a0 :: d0 :: a1 :: d1 :: a2 :: d2 :: k1 :: k2 :: k3 :: k4 :: k5 :: F) (.of_eq (by simp)) ?_
  unfold EvM.cells
  rw [cells_lit hm]
  dsimp only
  refine cw_seq ?_
  refine cw_seq ?_
  refine cw_region ?_
  refine ow_val rfl rfl (v_move rfl) ?_
  refine ow_val rfl rfl (v_nilCheck rfl) ?_
  refine ow_val rfl rfl (v_fieldAddr0 Ty.fd75_12 rfl) ?_
  refine ow_val rfl rfl (v_load rfl (Var.at1 Ty.sc4 (.there .here) (GetN.lit rfl))) ?_
  refine ow_nil ?_
  refine xw_then ?_
  refine cw_bool rfl (fun hc15 => ?_) (fun hc15 => ?_)
  refine cw_seq ?_
  refine cw_region ?_
  refine ow_val rfl rfl (v_assign rfl) ?_
  refine ow_nil ?_
  refine xw_then ?_
  refine cw_ret ?_
  refine xw_then_ret ?_
  refine ret1 rfl (res_tmp rfl) ?_
  rotate_left
  refine cw_skip ?_
  refine xw_then ?_
  rotate_left

  · have e1 : s.step e = (s, 11) := by rw [StM.step, if_neg (by rw [hck]; decide), if_pos hc15]
    rw [e1]
    refine ⟨[(b, .cells (s.cells ⟨p0, p1, p2, some n1, some n2, some n3, some n4, some n5⟩).toArray 75 (0, 0))] ++ (a0 ++ (d0 ++ (a1 ++ (d1 ++ (a2 ++ (d2 ++ (k1 ++ (k2 ++ (k3 ++ (k4 ++ (k5))))))))))), rfl, ⟨⟨p0, p1, p2, some n1, some n2, some n3, some n4, some n5⟩, _, rfl, ⟨a0, d0, a1, d1, a2, d2, k1, k2, k3, k4, k5, rfl, ⟨hd.s0, hd.s1, hd.s2, hd.cr, hd.st, hd.own, hd.oth, hd.pa⟩⟩, ⟨⟨n1, rfl⟩, ⟨n2, rfl⟩, ⟨n3, rfl⟩, ⟨n4, rfl⟩, ⟨n5, rfl⟩⟩⟩, ?_⟩
    rw [cells_lit hm]
    exact (by first | exact Cov.refl _ | (intro p; simp only [List.flatten_cons, List.flatten_nil, List.flatten_append, List.append_nil, List.nil_append, cnt_append, cnt_cons, cnt_nil, List.set_cons_zero, List.set_cons_succ, List.length_nil, List.length_cons, Nat.zero_add, List.append]; omega))
  have hcut : ¬ s.cut = true := by rw [hc15]; decide
  refine cw_cut2 (ι := ((StM × Hp))) [(0, _)] ⟨rfl, trivial⟩ ((fun _ => [])) ((fun x => x.1.ev = s.ev ∧ x.1.WF ∧ StAt x.1 b x.2 ∧ s.step e = ({ x.1 with ev := s.ev + 1 }, 0))) ((fun x => [(b3, .cells [Value.int .u8 e.k, .int .u64 e.t, .slice p.na e.n.length p.nc, .slice p.da e.d.length p.dc].toArray 62 (0, 0))] :: x.2 :: F)) ?_ ?_
  · by_cases hk27 : 2 ≤ e.k ∧ e.k ≤ 7
    · have hn1 := manyK_pos2 hk27 hlen
      have e0 := EvM.at_get (e := e) (i := 0) (by omega)
      have q0 := EvM.at_in he 0
      unfold inQ at q0
      refine cw_seq ?_
      refine cw_region ?_
      refine ow_val rfl rfl (v_fieldAddr0 Ty.fd62_0 rfl) ?_
      refine ow_val rfl rfl (v_load rfl (Var.at1 Ty.sc59 .here (GetN.lit rfl))) ?_
      refine ow_val rfl rfl (v_geq rfl rfl) ?_
      refine ow_val rfl rfl (v_move rfl) ?_
      refine ow_dec 19 rfl (fun hc19 => ?_) (fun hc19 => ?_)
      rotate_left; (exfalso; omega); rotate_right
      refine ow_val rfl rfl (v_fieldAddr0 Ty.fd62_0 rfl) ?_
      refine ow_val rfl rfl (v_load rfl (Var.at1 Ty.sc59 .here (GetN.lit rfl))) ?_
      refine ow_val rfl rfl (v_leq rfl rfl) ?_
      refine ow_val rfl rfl (v_pick_true rfl rfl) ?_
      refine ow_nil ?_
      refine xw_then ?_
      refine cw_dec rfl (fun hc23 => ?_) (fun hc23 => ?_)
      rotate_left; (exfalso; omega); rotate_right
      refine cw_seq ?_
      refine cw_seq ?_
      refine cw_region ?_
      refine ow_val rfl rfl (v_fieldAddr0 Ty.fd62_2 rfl) ?_
      refine ow_val rfl rfl (v_load rfl (Var.at1 Ty.sc60 .here (GetN.lit rfl))) ?_
      refine ow_val rfl rfl (v_indexAddr_vw (i := 0) Try.underlying60 (qTy) rfl rfl ((hD _ (by repeat (first | exact Sub.here | exact Sub.nil | assumption | refine Sub.there ?_))).n) rfl (by omega)) ?_
      refine ow_val rfl rfl (v_load rfl (Go.Sl.Vw.var (qTy) ((hD _ (by repeat (first | exact Sub.here | exact Sub.nil | assumption | refine Sub.there ?_))).n) (by omega))) ?_
      refine ow_val rfl rfl (v_geq rfl rfl) ?_
      refine ow_nil ?_
      refine xw_then ?_
      refine cw_dec rfl (fun hc28 => ?_) (fun hc28 => ?_)
      refine cw_seq ?_
      refine cw_region ?_
      refine ow_val rfl rfl (v_assign rfl) ?_
      refine ow_nil ?_
      refine xw_then ?_
      refine cw_ret ?_
      refine xw_then_ret ?_
      refine xw_joint_ret ?_
      refine ret1 rfl (res_tmp rfl) ?_
      rotate_left
      refine cw_skip ?_
      refine xw_then ?_
      rotate_left
      · have h3 : 3 ≤ e.at 0 := by rw [← e0]; exact hc28
        have e1 : s.step e = (s, 2) := by rw [StM.step, if_neg (by rw [hck]; decide), if_neg hcut, if_pos hk27, if_pos h3]
        rw [e1]
        refine ⟨[(b, .cells (s.cells ⟨p0, p1, p2, some n1, some n2, some n3, some n4, some n5⟩).toArray 75 (0, 0))] ++ (a0 ++ (d0 ++ (a1 ++ (d1 ++ (a2 ++ (d2 ++ (k1 ++ (k2 ++ (k3 ++ (k4 ++ (k5))))))))))), rfl, ⟨⟨p0, p1, p2, some n1, some n2, some n3, some n4, some n5⟩, _, rfl, ⟨a0, d0, a1, d1, a2, d2, k1, k2, k3, k4, k5, rfl, ⟨hd.s0, hd.s1, hd.s2, hd.cr, hd.st, hd.own, hd.oth, hd.pa⟩⟩, ⟨⟨n1, rfl⟩, ⟨n2, rfl⟩, ⟨n3, rfl⟩, ⟨n4, rfl⟩, ⟨n5, rfl⟩⟩⟩, ?_⟩
        rw [cells_lit hm]
        exact (by first | exact Cov.refl _ | (intro p; simp only [List.flatten_cons, List.flatten_nil, List.flatten_append, List.append_nil, List.nil_append, cnt_append, cnt_cons, cnt_nil, List.set_cons_zero, List.set_cons_succ, List.length_nil, List.length_cons, Nat.zero_add, List.append]; omega))
      have h3 : ¬ 3 ≤ e.at 0 := by rw [← e0]; exact hc28
      have hi3 : e.at 0 = 0 ∨ e.at 0 = 1 ∨ e.at 0 = 2 := by omega
      rcases hi3 with h0 | h0 | h0
      · have hen : e.n[0] = 0 := by rw [e0, h0]
        have hsp : s.sp (e.at 0).toNat = s.s0 := by rw [h0]; rfl
        refine cw_cov ([(b3, .cells [Value.int .u8 e.k, .int .u64 e.t, .slice p.na e.n.length p.nc, .slice p.da e.d.length p.dc].toArray 62 (0, 0))] :: ([(b, .cells ([Value.int .u64 s.ph] ++ (s.s0.cells p0 ++ [Value.int .u64 s.s1.nx, .slice p1.sa s.s1.sent.length p1.sc, .slice p1.ca s.s1.came.length p1.cc, .int .u64 s.s1.bl, .bool s.s1.dr, .int .u64 s.s2.nx, .slice p2.sa s.s2.sent.length p2.sc, .slice p2.ca s.s2.came.length p2.cc, .int .u64 s.s2.bl, .bool s.s2.dr, .int .u64 m0, .int .u64 m1, .int .u64 m2, .int .u64 m3, .int .u64 m4, .int .u64 m5, .int .u64 m6, .int .u64 m7, .map (some n1), .map (some n2), .map (some n3), .map (some n4), .int .u64 s.us, .map (some n5), .int .u64 s.tu, .int .u64 s.c0, .int .u64 s.c1, .int .u64 s.c2, .bool s.cl, .bool s.cut, .int .i64 s.ev])).toArray 75 (0, 0))] ++ (a0 ++ d0)) :: a1 :: d1 :: a2 :: d2 :: k1 :: k2 :: k3 :: k4 :: k5 :: F) (by rw [show [Value.int .u64 s.ph] ++ (s.s0.cells p0 ++ [Value.int .u64 s.s1.nx, .slice p1.sa s.s1.sent.length p1.sc, .slice p1.ca s.s1.came.length p1.cc, .int .u64 s.s1.bl, .bool s.s1.dr, .int .u64 s.s2.nx, .slice p2.sa s.s2.sent.length p2.sc, .slice p2.ca s.s2.came.length p2.cc, .int .u64 s.s2.bl, .bool s.s2.dr, .int .u64 m0, .int .u64 m1, .int .u64 m2, .int .u64 m3, .int .u64 m4, .int .u64 m5, .int .u64 m6, .int .u64 m7, .map (some n1), .map (some n2), .map (some n3), .map (some n4), .int .u64 s.us, .map (some n5), .int .u64 s.tu, .int .u64 s.c0, .int .u64 s.c1, .int .u64 s.c2, .bool s.cl, .bool s.cut, .int .i64 s.ev]) = [Value.int .u64 s.ph, .int .u64 s.s0.nx, .slice p0.sa s.s0.sent.length p0.sc, .slice p0.ca s.s0.came.length p0.cc, .int .u64 s.s0.bl, .bool s.s0.dr, .int .u64 s.s1.nx, .slice p1.sa s.s1.sent.length p1.sc, .slice p1.ca s.s1.came.length p1.cc, .int .u64 s.s1.bl, .bool s.s1.dr, .int .u64 s.s2.nx, .slice p2.sa s.s2.sent.length p2.sc, .slice p2.ca s.s2.came.length p2.cc, .int .u64 s.s2.bl, .bool s.s2.dr, .int .u64 m0, .int .u64 m1, .int .u64 m2, .int .u64 m3, .int .u64 m4, .int .u64 m5, .int .u64 m6, .int .u64 m7, .map (some n1), .map (some n2), .map (some n3), .map (some n4), .int .u64 s.us, .map (some n5), .int .u64 s.tu, .int .u64 s.c0, .int .u64 s.c1, .int .u64 s.c2, .bool s.cl, .bool s.cut, .int .i64 s.ev] from rfl]; exact (by first | exact Cov.refl _ | (intro p; simp only [List.flatten_cons, List.flatten_nil, List.flatten_append, List.append_nil, List.nil_append, cnt_append, cnt_cons, cnt_nil, List.set_cons_zero, List.set_cons_succ, List.length_nil, List.length_cons, Nat.zero_add, List.append]; omega))) ?_
        have hOi : SpAt [Value.int .u64 s.ph] [Value.int .u64 s.s1.nx, .slice p1.sa s.s1.sent.length p1.sc, .slice p1.ca s.s1.came.length p1.cc, .int .u64 s.s1.bl, .bool s.s1.dr, .int .u64 s.s2.nx, .slice p2.sa s.s2.sent.length p2.sc, .slice p2.ca s.s2.came.length p2.cc, .int .u64 s.s2.bl, .bool s.s2.dr, .int .u64 m0, .int .u64 m1, .int .u64 m2, .int .u64 m3, .int .u64 m4, .int .u64 m5, .int .u64 m6, .int .u64 m7, .map (some n1), .map (some n2), .map (some n3), .map (some n4), .int .u64 s.us, .map (some n5), .int .u64 s.tu, .int .u64 s.c0, .int .u64 s.c1, .int .u64 s.c2, .bool s.cl, .bool s.cut, .int .i64 s.ev] 75 s.s0 b ([(b, .cells ([Value.int .u64 s.ph] ++ (s.s0.cells p0 ++ [Value.int .u64 s.s1.nx, .slice p1.sa s.s1.sent.length p1.sc, .slice p1.ca s.s1.came.length p1.cc, .int .u64 s.s1.bl, .bool s.s1.dr, .int .u64 s.s2.nx, .slice p2.sa s.s2.sent.length p2.sc, .slice p2.ca s.s2.came.length p2.cc, .int .u64 s.s2.bl, .bool s.s2.dr, .int .u64 m0, .int .u64 m1, .int .u64 m2, .int .u64 m3, .int .u64 m4, .int .u64 m5, .int .u64 m6, .int .u64 m7, .map (some n1), .map (some n2), .map (some n3), .map (some n4), .int .u64 s.us, .map (some n5), .int .u64 s.tu, .int .u64 s.c0, .int .u64 s.c1, .int .u64 s.c2, .bool s.cl, .bool s.cut, .int .i64 s.ev])).toArray 75 (0, 0))] ++ (a0 ++ d0)) := ⟨p0, a0, d0, rfl, hd.s0.1, hd.s0.2⟩
        have hzi := hz.s0
        refine cw_seq ?_
        refine cw_mix [] [9, 10] [0, 1, 2, 3, 4, 5, 6, 7, 8] Ty.mixed rfl rfl rfl rfl (by decide +kernel) ?_
        refine hw_pure rfl rfl (v_move rfl) rfl ?_
        refine hw_pure rfl rfl (v_fieldAddr0 Ty.fd62_2 rfl) rfl ?_
        refine hw_read rfl rfl rfl (v_load rfl (Var.at1 Ty.sc60 .here (GetN.lit rfl))) ?_
        refine hw_pure rfl rfl (v_indexAddr_vw (i := 0) Try.underlying60 (qTy) rfl rfl ((hD _ (by repeat (first | exact Sub.here | exact Sub.nil | assumption | refine Sub.there ?_))).n) rfl (by omega)) rfl ?_
        refine hw_read rfl rfl rfl (v_load rfl (Go.Sl.Vw.var (qTy) ((hD _ (by repeat (first | exact Sub.here | exact Sub.nil | assumption | refine Sub.there ?_))).n) (by omega))) ?_
        refine hw_pure rfl rfl (v_nilCheck rfl) rfl ?_
        refine hw_pure rfl rfl (v_fieldAddr0 Ty.fd75_1 rfl) rfl ?_
        refine hw_pure rfl rfl (v_indexAddrA Try.underlying67 Ty.el67 rfl rfl (Int.toNat_of_nonneg (by omega)).symm (by omega)) rfl ?_
        refine hw_read rfl rfl rfl (v_load rfl (Var.atN Ty.ag62 .here GetN.all (by first | rfl | assumption))) ?_
        refine hw_nil ?_
        refine sw_nil ?_
        (refine ow_call rfl rfl rfl rfl (spFoldO_c (o := 1 + e.n[0].toNat * 5) (by rw [hen]; rfl) (by repeat (first | exact Sel.here | apply Sel.there)) hOi hw.s0 (by omega) he hck hk27 hD (by repeat (first | exact Sub.here | exact Sub.nil | assumption | refine Sub.there ?_))) ?_; rintro _ _ ⟨x38, rfl, hq38, rfl⟩)
        refine ow_val rfl rfl (v_assign rfl) ?_
        refine ow_nil ?_
        refine xw_np ?_
        refine xw_then ?_
        obtain ⟨q', cs, cc, rfl, hS', hC'⟩ := hq38
        refine cw_seq ?_
        refine cw_region ?_
        refine ow_val rfl rfl (v_move rfl) ?_
        refine ow_val rfl rfl (v_neq rfl rfl) ?_
        refine ow_nil ?_
        refine xw_then ?_
        refine cw_dec rfl (fun hc40 => ?_) (fun hc40 => ?_)
        refine cw_seq ?_
        refine cw_region ?_
        refine ow_val rfl rfl (v_move rfl) ?_
        refine ow_val rfl rfl (v_assign rfl) ?_
        refine ow_nil ?_
        refine xw_then ?_
        refine cw_ret ?_
        refine xw_joint_ret ?_
        refine ret1 rfl (res_tmp rfl) ?_
        rotate_left
        refine cw_skip ?_
        rotate_left
        · have hne : ((s.sp (e.at 0).toNat).step e).2 ≠ 0 := by rw [hsp]; exact hc40
          have e1 : s.step e = (s, (s.s0.step e).2) := by rw [StM.step, if_neg (by rw [hck]; decide), if_neg hcut, if_pos hk27, if_neg h3, if_pos hne, hsp]
          have e2 := SpM.step_none (x := s.s0) (e := e) hc40
          rw [e1]
          rw [e2] at hS' hC'
          have hobj : [Value.int .u64 s.ph] ++ ((s.s0.step e).1.cells q' ++ [Value.int .u64 s.s1.nx, .slice p1.sa s.s1.sent.length p1.sc, .slice p1.ca s.s1.came.length p1.cc, .int .u64 s.s1.bl, .bool s.s1.dr, .int .u64 s.s2.nx, .slice p2.sa s.s2.sent.length p2.sc, .slice p2.ca s.s2.came.length p2.cc, .int .u64 s.s2.bl, .bool s.s2.dr, .int .u64 m0, .int .u64 m1, .int .u64 m2, .int .u64 m3, .int .u64 m4, .int .u64 m5, .int .u64 m6, .int .u64 m7, .map (some n1), .map (some n2), .map (some n3), .map (some n4), .int .u64 s.us, .map (some n5), .int .u64 s.tu, .int .u64 s.c0, .int .u64 s.c1, .int .u64 s.c2, .bool s.cl, .bool s.cut, .int .i64 s.ev]) = s.cells ⟨q', p1, p2, some n1, some n2, some n3, some n4, some n5⟩ := by rw [e2, cells_lit hm]; rfl
          rw [hobj]
          exact ⟨[(b, .cells (s.cells ⟨q', p1, p2, some n1, some n2, some n3, some n4, some n5⟩).toArray 75 (0, 0))] ++ (cs ++ (cc ++ (a1 ++ (d1 ++ (a2 ++ (d2 ++ (k1 ++ (k2 ++ (k3 ++ (k4 ++ (k5))))))))))), rfl, ⟨⟨q', p1, p2, some n1, some n2, some n3, some n4, some n5⟩, _, rfl, ⟨cs, cc, a1, d1, a2, d2, k1, k2, k3, k4, k5, rfl, ⟨⟨hS', hC'⟩, hd.s1, hd.s2, hd.cr, hd.st, hd.own, hd.oth, hd.pa⟩⟩, ⟨⟨n1, rfl⟩, ⟨n2, rfl⟩, ⟨n3, rfl⟩, ⟨n4, rfl⟩, ⟨n5, rfl⟩⟩⟩, (by first | exact Cov.refl _ | (intro p; simp only [List.flatten_cons, List.flatten_nil, List.flatten_append, List.append_nil, List.nil_append, cnt_append, cnt_cons, cnt_nil, List.set_cons_zero, List.set_cons_succ, List.length_nil, List.length_cons, Nat.zero_add, List.append]; omega))⟩
        · have hne : ¬ ((s.sp (e.at 0).toNat).step e).2 ≠ 0 := by rw [hsp]; exact hc40
          have e1 : s.step e = ({ s.setSp 0 (s.s0.step e).1 with ev := s.ev + 1 }, 0) := by rw [StM.step, if_neg (by rw [hck]; decide), if_neg hcut, if_pos hk27, if_neg h3, if_neg hne, hsp, h0]; rfl
          have hobj : [Value.int .u64 s.ph] ++ ((s.s0.step e).1.cells q' ++ [Value.int .u64 s.s1.nx, .slice p1.sa s.s1.sent.length p1.sc, .slice p1.ca s.s1.came.length p1.cc, .int .u64 s.s1.bl, .bool s.s1.dr, .int .u64 s.s2.nx, .slice p2.sa s.s2.sent.length p2.sc, .slice p2.ca s.s2.came.length p2.cc, .int .u64 s.s2.bl, .bool s.s2.dr, .int .u64 m0, .int .u64 m1, .int .u64 m2, .int .u64 m3, .int .u64 m4, .int .u64 m5, .int .u64 m6, .int .u64 m7, .map (some n1), .map (some n2), .map (some n3), .map (some n4), .int .u64 s.us, .map (some n5), .int .u64 s.tu, .int .u64 s.c0, .int .u64 s.c1, .int .u64 s.c2, .bool s.cl, .bool s.cut, .int .i64 s.ev]) = StM.cells (s.setSp 0 (s.s0.step e).1) ⟨q', p1, p2, some n1, some n2, some n3, some n4, some n5⟩ := by rw [cells_lit (s := s.setSp 0 (s.s0.step e).1) hm]; rfl
          rw [hobj]
          exact xw_joint ((s.setSp 0 (s.s0.step e).1, [(b, .cells (StM.cells (s.setSp 0 (s.s0.step e).1) ⟨q', p1, p2, some n1, some n2, some n3, some n4, some n5⟩).toArray 75 (0, 0))] ++ (cs ++ (cc ++ (a1 ++ (d1 ++ (a2 ++ (d2 ++ (k1 ++ (k2 ++ (k3 ++ (k4 ++ (k5)))))))))))) : StM × Hp) ⟨rfl, StM.setSp_wf hw (SpM.step_wf hw.s0 he hck) 0, ⟨⟨q', p1, p2, some n1, some n2, some n3, some n4, some n5⟩, _, rfl, ⟨cs, cc, a1, d1, a2, d2, k1, k2, k3, k4, k5, rfl, ⟨⟨hS', hC'⟩, hd.s1, hd.s2, hd.cr, hd.st, hd.own, hd.oth, hd.pa⟩⟩, ⟨⟨n1, rfl⟩, ⟨n2, rfl⟩, ⟨n3, rfl⟩, ⟨n4, rfl⟩, ⟨n5, rfl⟩⟩⟩, e1⟩ (by first | exact Cov.refl _ | (intro p; simp only [List.flatten_cons, List.flatten_nil, List.flatten_append, List.append_nil, List.nil_append, cnt_append, cnt_cons, cnt_nil, List.set_cons_zero, List.set_cons_succ, List.length_nil, List.length_cons, Nat.zero_add, List.append]; omega)) (by repeat (first | exact True.intro | refine And.intro rfl ?_))
      · have hen : e.n[0] = 1 := by rw [e0, h0]
        have hsp : s.sp (e.at 0).toNat = s.s1 := by rw [h0]; rfl
        refine cw_cov ([(b3, .cells [Value.int .u8 e.k, .int .u64 e.t, .slice p.na e.n.length p.nc, .slice p.da e.d.length p.dc].toArray 62 (0, 0))] :: ([(b, .cells ([Value.int .u64 s.ph, .int .u64 s.s0.nx, .slice p0.sa s.s0.sent.length p0.sc, .slice p0.ca s.s0.came.length p0.cc, .int .u64 s.s0.bl, .bool s.s0.dr] ++ (s.s1.cells p1 ++ [Value.int .u64 s.s2.nx, .slice p2.sa s.s2.sent.length p2.sc, .slice p2.ca s.s2.came.length p2.cc, .int .u64 s.s2.bl, .bool s.s2.dr, .int .u64 m0, .int .u64 m1, .int .u64 m2, .int .u64 m3, .int .u64 m4, .int .u64 m5, .int .u64 m6, .int .u64 m7, .map (some n1), .map (some n2), .map (some n3), .map (some n4), .int .u64 s.us, .map (some n5), .int .u64 s.tu, .int .u64 s.c0, .int .u64 s.c1, .int .u64 s.c2, .bool s.cl, .bool s.cut, .int .i64 s.ev])).toArray 75 (0, 0))] ++ (a1 ++ d1)) :: a0 :: d0 :: a2 :: d2 :: k1 :: k2 :: k3 :: k4 :: k5 :: F) (by rw [show [Value.int .u64 s.ph, .int .u64 s.s0.nx, .slice p0.sa s.s0.sent.length p0.sc, .slice p0.ca s.s0.came.length p0.cc, .int .u64 s.s0.bl, .bool s.s0.dr] ++ (s.s1.cells p1 ++ [Value.int .u64 s.s2.nx, .slice p2.sa s.s2.sent.length p2.sc, .slice p2.ca s.s2.came.length p2.cc, .int .u64 s.s2.bl, .bool s.s2.dr, .int .u64 m0, .int .u64 m1, .int .u64 m2, .int .u64 m3, .int .u64 m4, .int .u64 m5, .int .u64 m6, .int .u64 m7, .map (some n1), .map (some n2), .map (some n3), .map (some n4), .int .u64 s.us, .map (some n5), .int .u64 s.tu, .int .u64 s.c0, .int .u64 s.c1, .int .u64 s.c2, .bool s.cl, .bool s.cut, .int .i64 s.ev]) = [Value.int .u64 s.ph, .int .u64 s.s0.nx, .slice p0.sa s.s0.sent.length p0.sc, .slice p0.ca s.s0.came.length p0.cc, .int .u64 s.s0.bl, .bool s.s0.dr, .int .u64 s.s1.nx, .slice p1.sa s.s1.sent.length p1.sc, .slice p1.ca s.s1.came.length p1.cc, .int .u64 s.s1.bl, .bool s.s1.dr, .int .u64 s.s2.nx, .slice p2.sa s.s2.sent.length p2.sc, .slice p2.ca s.s2.came.length p2.cc, .int .u64 s.s2.bl, .bool s.s2.dr, .int .u64 m0, .int .u64 m1, .int .u64 m2, .int .u64 m3, .int .u64 m4, .int .u64 m5, .int .u64 m6, .int .u64 m7, .map (some n1), .map (some n2), .map (some n3), .map (some n4), .int .u64 s.us, .map (some n5), .int .u64 s.tu, .int .u64 s.c0, .int .u64 s.c1, .int .u64 s.c2, .bool s.cl, .bool s.cut, .int .i64 s.ev] from rfl]; exact (by first | exact Cov.refl _ | (intro p; simp only [List.flatten_cons, List.flatten_nil, List.flatten_append, List.append_nil, List.nil_append, cnt_append, cnt_cons, cnt_nil, List.set_cons_zero, List.set_cons_succ, List.length_nil, List.length_cons, Nat.zero_add, List.append]; omega))) ?_
        have hOi : SpAt [Value.int .u64 s.ph, .int .u64 s.s0.nx, .slice p0.sa s.s0.sent.length p0.sc, .slice p0.ca s.s0.came.length p0.cc, .int .u64 s.s0.bl, .bool s.s0.dr] [Value.int .u64 s.s2.nx, .slice p2.sa s.s2.sent.length p2.sc, .slice p2.ca s.s2.came.length p2.cc, .int .u64 s.s2.bl, .bool s.s2.dr, .int .u64 m0, .int .u64 m1, .int .u64 m2, .int .u64 m3, .int .u64 m4, .int .u64 m5, .int .u64 m6, .int .u64 m7, .map (some n1), .map (some n2), .map (some n3), .map (some n4), .int .u64 s.us, .map (some n5), .int .u64 s.tu, .int .u64 s.c0, .int .u64 s.c1, .int .u64 s.c2, .bool s.cl, .bool s.cut, .int .i64 s.ev] 75 s.s1 b ([(b, .cells ([Value.int .u64 s.ph, .int .u64 s.s0.nx, .slice p0.sa s.s0.sent.length p0.sc, .slice p0.ca s.s0.came.length p0.cc, .int .u64 s.s0.bl, .bool s.s0.dr] ++ (s.s1.cells p1 ++ [Value.int .u64 s.s2.nx, .slice p2.sa s.s2.sent.length p2.sc, .slice p2.ca s.s2.came.length p2.cc, .int .u64 s.s2.bl, .bool s.s2.dr, .int .u64 m0, .int .u64 m1, .int .u64 m2, .int .u64 m3, .int .u64 m4, .int .u64 m5, .int .u64 m6, .int .u64 m7, .map (some n1), .map (some n2), .map (some n3), .map (some n4), .int .u64 s.us, .map (some n5), .int .u64 s.tu, .int .u64 s.c0, .int .u64 s.c1, .int .u64 s.c2, .bool s.cl, .bool s.cut, .int .i64 s.ev])).toArray 75 (0, 0))] ++ (a1 ++ d1)) := ⟨p1, a1, d1, rfl, hd.s1.1, hd.s1.2⟩
        have hzi := hz.s1
        refine cw_seq ?_
        refine cw_mix [] [9, 10] [0, 1, 2, 3, 4, 5, 6, 7, 8] Ty.mixed rfl rfl rfl rfl (by decide +kernel) ?_
        refine hw_pure rfl rfl (v_move rfl) rfl ?_
        refine hw_pure rfl rfl (v_fieldAddr0 Ty.fd62_2 rfl) rfl ?_
        refine hw_read rfl rfl rfl (v_load rfl (Var.at1 Ty.sc60 .here (GetN.lit rfl))) ?_
        refine hw_pure rfl rfl (v_indexAddr_vw (i := 0) Try.underlying60 (qTy) rfl rfl ((hD _ (by repeat (first | exact Sub.here | exact Sub.nil | assumption | refine Sub.there ?_))).n) rfl (by omega)) rfl ?_
        refine hw_read rfl rfl rfl (v_load rfl (Go.Sl.Vw.var (qTy) ((hD _ (by repeat (first | exact Sub.here | exact Sub.nil | assumption | refine Sub.there ?_))).n) (by omega))) ?_
        refine hw_pure rfl rfl (v_nilCheck rfl) rfl ?_
        refine hw_pure rfl rfl (v_fieldAddr0 Ty.fd75_1 rfl) rfl ?_
        refine hw_pure rfl rfl (v_indexAddrA Try.underlying67 Ty.el67 rfl rfl (Int.toNat_of_nonneg (by omega)).symm (by omega)) rfl ?_
        refine hw_read rfl rfl rfl (v_load rfl (Var.atN Ty.ag62 .here GetN.all (by first | rfl | assumption))) ?_
        refine hw_nil ?_
        refine sw_nil ?_
        (refine ow_call rfl rfl rfl rfl (spFoldO_c (o := 1 + e.n[0].toNat * 5) (by rw [hen]; rfl) (by repeat (first | exact Sel.here | apply Sel.there)) hOi hw.s1 (by omega) he hck hk27 hD (by repeat (first | exact Sub.here | exact Sub.nil | assumption | refine Sub.there ?_))) ?_; rintro _ _ ⟨x38, rfl, hq38, rfl⟩)
        refine ow_val rfl rfl (v_assign rfl) ?_
        refine ow_nil ?_
        refine xw_np ?_
        refine xw_then ?_
        obtain ⟨q', cs, cc, rfl, hS', hC'⟩ := hq38
        refine cw_seq ?_
        refine cw_region ?_
        refine ow_val rfl rfl (v_move rfl) ?_
        refine ow_val rfl rfl (v_neq rfl rfl) ?_
        refine ow_nil ?_
        refine xw_then ?_
        refine cw_dec rfl (fun hc40 => ?_) (fun hc40 => ?_)
        refine cw_seq ?_
        refine cw_region ?_
        refine ow_val rfl rfl (v_move rfl) ?_
        refine ow_val rfl rfl (v_assign rfl) ?_
        refine ow_nil ?_
        refine xw_then ?_
        refine cw_ret ?_
        refine xw_joint_ret ?_
        refine ret1 rfl (res_tmp rfl) ?_
        rotate_left
        refine cw_skip ?_
        rotate_left
        · have hne : ((s.sp (e.at 0).toNat).step e).2 ≠ 0 := by rw [hsp]; exact hc40
          have e1 : s.step e = (s, (s.s1.step e).2) := by rw [StM.step, if_neg (by rw [hck]; decide), if_neg hcut, if_pos hk27, if_neg h3, if_pos hne, hsp]
          have e2 := SpM.step_none (x := s.s1) (e := e) hc40
          rw [e1]
          rw [e2] at hS' hC'
          have hobj : [Value.int .u64 s.ph, .int .u64 s.s0.nx, .slice p0.sa s.s0.sent.length p0.sc, .slice p0.ca s.s0.came.length p0.cc, .int .u64 s.s0.bl, .bool s.s0.dr] ++ ((s.s1.step e).1.cells q' ++ [Value.int .u64 s.s2.nx, .slice p2.sa s.s2.sent.length p2.sc, .slice p2.ca s.s2.came.length p2.cc, .int .u64 s.s2.bl, .bool s.s2.dr, .int .u64 m0, .int .u64 m1, .int .u64 m2, .int .u64 m3, .int .u64 m4, .int .u64 m5, .int .u64 m6, .int .u64 m7, .map (some n1), .map (some n2), .map (some n3), .map (some n4), .int .u64 s.us, .map (some n5), .int .u64 s.tu, .int .u64 s.c0, .int .u64 s.c1, .int .u64 s.c2, .bool s.cl, .bool s.cut, .int .i64 s.ev]) = s.cells ⟨p0, q', p2, some n1, some n2, some n3, some n4, some n5⟩ := by rw [e2, cells_lit hm]; rfl
          rw [hobj]
          exact ⟨[(b, .cells (s.cells ⟨p0, q', p2, some n1, some n2, some n3, some n4, some n5⟩).toArray 75 (0, 0))] ++ (a0 ++ (d0 ++ (cs ++ (cc ++ (a2 ++ (d2 ++ (k1 ++ (k2 ++ (k3 ++ (k4 ++ (k5))))))))))), rfl, ⟨⟨p0, q', p2, some n1, some n2, some n3, some n4, some n5⟩, _, rfl, ⟨a0, d0, cs, cc, a2, d2, k1, k2, k3, k4, k5, rfl, ⟨hd.s0, ⟨hS', hC'⟩, hd.s2, hd.cr, hd.st, hd.own, hd.oth, hd.pa⟩⟩, ⟨⟨n1, rfl⟩, ⟨n2, rfl⟩, ⟨n3, rfl⟩, ⟨n4, rfl⟩, ⟨n5, rfl⟩⟩⟩, (by first | exact Cov.refl _ | (intro p; simp only [List.flatten_cons, List.flatten_nil, List.flatten_append, List.append_nil, List.nil_append, cnt_append, cnt_cons, cnt_nil, List.set_cons_zero, List.set_cons_succ, List.length_nil, List.length_cons, Nat.zero_add, List.append]; omega))⟩
        · have hne : ¬ ((s.sp (e.at 0).toNat).step e).2 ≠ 0 := by rw [hsp]; exact hc40
          have e1 : s.step e = ({ s.setSp 1 (s.s1.step e).1 with ev := s.ev + 1 }, 0) := by rw [StM.step, if_neg (by rw [hck]; decide), if_neg hcut, if_pos hk27, if_neg h3, if_neg hne, hsp, h0]; rfl
          have hobj : [Value.int .u64 s.ph, .int .u64 s.s0.nx, .slice p0.sa s.s0.sent.length p0.sc, .slice p0.ca s.s0.came.length p0.cc, .int .u64 s.s0.bl, .bool s.s0.dr] ++ ((s.s1.step e).1.cells q' ++ [Value.int .u64 s.s2.nx, .slice p2.sa s.s2.sent.length p2.sc, .slice p2.ca s.s2.came.length p2.cc, .int .u64 s.s2.bl, .bool s.s2.dr, .int .u64 m0, .int .u64 m1, .int .u64 m2, .int .u64 m3, .int .u64 m4, .int .u64 m5, .int .u64 m6, .int .u64 m7, .map (some n1), .map (some n2), .map (some n3), .map (some n4), .int .u64 s.us, .map (some n5), .int .u64 s.tu, .int .u64 s.c0, .int .u64 s.c1, .int .u64 s.c2, .bool s.cl, .bool s.cut, .int .i64 s.ev]) = StM.cells (s.setSp 1 (s.s1.step e).1) ⟨p0, q', p2, some n1, some n2, some n3, some n4, some n5⟩ := by rw [cells_lit (s := s.setSp 1 (s.s1.step e).1) hm]; rfl
          rw [hobj]
          exact xw_joint ((s.setSp 1 (s.s1.step e).1, [(b, .cells (StM.cells (s.setSp 1 (s.s1.step e).1) ⟨p0, q', p2, some n1, some n2, some n3, some n4, some n5⟩).toArray 75 (0, 0))] ++ (a0 ++ (d0 ++ (cs ++ (cc ++ (a2 ++ (d2 ++ (k1 ++ (k2 ++ (k3 ++ (k4 ++ (k5)))))))))))) : StM × Hp) ⟨rfl, StM.setSp_wf hw (SpM.step_wf hw.s1 he hck) 1, ⟨⟨p0, q', p2, some n1, some n2, some n3, some n4, some n5⟩, _, rfl, ⟨a0, d0, cs, cc, a2, d2, k1, k2, k3, k4, k5, rfl, ⟨hd.s0, ⟨hS', hC'⟩, hd.s2, hd.cr, hd.st, hd.own, hd.oth, hd.pa⟩⟩, ⟨⟨n1, rfl⟩, ⟨n2, rfl⟩, ⟨n3, rfl⟩, ⟨n4, rfl⟩, ⟨n5, rfl⟩⟩⟩, e1⟩ (by first | exact Cov.refl _ | (intro p; simp only [List.flatten_cons, List.flatten_nil, List.flatten_append, List.append_nil, List.nil_append, cnt_append, cnt_cons, cnt_nil, List.set_cons_zero, List.set_cons_succ, List.length_nil, List.length_cons, Nat.zero_add, List.append]; omega)) (by repeat (first | exact True.intro | refine And.intro rfl ?_))
      · have hen : e.n[0] = 2 := by rw [e0, h0]
        have hsp : s.sp (e.at 0).toNat = s.s2 := by rw [h0]; rfl
        refine cw_cov ([(b3, .cells [Value.int .u8 e.k, .int .u64 e.t, .slice p.na e.n.length p.nc, .slice p.da e.d.length p.dc].toArray 62 (0, 0))] :: ([(b, .cells ([Value.int .u64 s.ph, .int .u64 s.s0.nx, .slice p0.sa s.s0.sent.length p0.sc, .slice p0.ca s.s0.came.length p0.cc, .int .u64 s.s0.bl, .bool s.s0.dr, .int .u64 s.s1.nx, .slice p1.sa s.s1.sent.length p1.sc, .slice p1.ca s.s1.came.length p1.cc, .int .u64 s.s1.bl, .bool s.s1.dr] ++ (s.s2.cells p2 ++ [Value.int .u64 m0, .int .u64 m1, .int .u64 m2, .int .u64 m3, .int .u64 m4, .int .u64 m5, .int .u64 m6, .int .u64 m7, .map (some n1), .map (some n2), .map (some n3), .map (some n4), .int .u64 s.us, .map (some n5), .int .u64 s.tu, .int .u64 s.c0, .int .u64 s.c1, .int .u64 s.c2, .bool s.cl, .bool s.cut, .int .i64 s.ev])).toArray 75 (0, 0))] ++ (a2 ++ d2)) :: a0 :: d0 :: a1 :: d1 :: k1 :: k2 :: k3 :: k4 :: k5 :: F) (by rw [show [Value.int .u64 s.ph, .int .u64 s.s0.nx, .slice p0.sa s.s0.sent.length p0.sc, .slice p0.ca s.s0.came.length p0.cc, .int .u64 s.s0.bl, .bool s.s0.dr, .int .u64 s.s1.nx, .slice p1.sa s.s1.sent.length p1.sc, .slice p1.ca s.s1.came.length p1.cc, .int .u64 s.s1.bl, .bool s.s1.dr] ++ (s.s2.cells p2 ++ [Value.int .u64 m0, .int .u64 m1, .int .u64 m2, .int .u64 m3, .int .u64 m4, .int .u64 m5, .int .u64 m6, .int .u64 m7, .map (some n1), .map (some n2), .map (some n3), .map (some n4), .int .u64 s.us, .map (some n5), .int .u64 s.tu, .int .u64 s.c0, .int .u64 s.c1, .int .u64 s.c2, .bool s.cl, .bool s.cut, .int .i64 s.ev]) = [Value.int .u64 s.ph, .int .u64 s.s0.nx, .slice p0.sa s.s0.sent.length p0.sc, .slice p0.ca s.s0.came.length p0.cc, .int .u64 s.s0.bl, .bool s.s0.dr, .int .u64 s.s1.nx, .slice p1.sa s.s1.sent.length p1.sc, .slice p1.ca s.s1.came.length p1.cc, .int .u64 s.s1.bl, .bool s.s1.dr, .int .u64 s.s2.nx, .slice p2.sa s.s2.sent.length p2.sc, .slice p2.ca s.s2.came.length p2.cc, .int .u64 s.s2.bl, .bool s.s2.dr, .int .u64 m0, .int .u64 m1, .int .u64 m2, .int .u64 m3, .int .u64 m4, .int .u64 m5, .int .u64 m6, .int .u64 m7, .map (some n1), .map (some n2), .map (some n3), .map (some n4), .int .u64 s.us, .map (some n5), .int .u64 s.tu, .int .u64 s.c0, .int .u64 s.c1, .int .u64 s.c2, .bool s.cl, .bool s.cut, .int .i64 s.ev] from rfl]; exact (by first | exact Cov.refl _ | (intro p; simp only [List.flatten_cons, List.flatten_nil, List.flatten_append, List.append_nil, List.nil_append, cnt_append, cnt_cons, cnt_nil, List.set_cons_zero, List.set_cons_succ, List.length_nil, List.length_cons, Nat.zero_add, List.append]; omega))) ?_
        have hOi : SpAt [Value.int .u64 s.ph, .int .u64 s.s0.nx, .slice p0.sa s.s0.sent.length p0.sc, .slice p0.ca s.s0.came.length p0.cc, .int .u64 s.s0.bl, .bool s.s0.dr, .int .u64 s.s1.nx, .slice p1.sa s.s1.sent.length p1.sc, .slice p1.ca s.s1.came.length p1.cc, .int .u64 s.s1.bl, .bool s.s1.dr] [Value.int .u64 m0, .int .u64 m1, .int .u64 m2, .int .u64 m3, .int .u64 m4, .int .u64 m5, .int .u64 m6, .int .u64 m7, .map (some n1), .map (some n2), .map (some n3), .map (some n4), .int .u64 s.us, .map (some n5), .int .u64 s.tu, .int .u64 s.c0, .int .u64 s.c1, .int .u64 s.c2, .bool s.cl, .bool s.cut, .int .i64 s.ev] 75 s.s2 b ([(b, .cells ([Value.int .u64 s.ph, .int .u64 s.s0.nx, .slice p0.sa s.s0.sent.length p0.sc, .slice p0.ca s.s0.came.length p0.cc, .int .u64 s.s0.bl, .bool s.s0.dr, .int .u64 s.s1.nx, .slice p1.sa s.s1.sent.length p1.sc, .slice p1.ca s.s1.came.length p1.cc, .int .u64 s.s1.bl, .bool s.s1.dr] ++ (s.s2.cells p2 ++ [Value.int .u64 m0, .int .u64 m1, .int .u64 m2, .int .u64 m3, .int .u64 m4, .int .u64 m5, .int .u64 m6, .int .u64 m7, .map (some n1), .map (some n2), .map (some n3), .map (some n4), .int .u64 s.us, .map (some n5), .int .u64 s.tu, .int .u64 s.c0, .int .u64 s.c1, .int .u64 s.c2, .bool s.cl, .bool s.cut, .int .i64 s.ev])).toArray 75 (0, 0))] ++ (a2 ++ d2)) := ⟨p2, a2, d2, rfl, hd.s2.1, hd.s2.2⟩
        have hzi := hz.s2
        refine cw_seq ?_
        refine cw_mix [] [9, 10] [0, 1, 2, 3, 4, 5, 6, 7, 8] Ty.mixed rfl rfl rfl rfl (by decide +kernel) ?_
        refine hw_pure rfl rfl (v_move rfl) rfl ?_
        refine hw_pure rfl rfl (v_fieldAddr0 Ty.fd62_2 rfl) rfl ?_
        refine hw_read rfl rfl rfl (v_load rfl (Var.at1 Ty.sc60 .here (GetN.lit rfl))) ?_
        refine hw_pure rfl rfl (v_indexAddr_vw (i := 0) Try.underlying60 (qTy) rfl rfl ((hD _ (by repeat (first | exact Sub.here | exact Sub.nil | assumption | refine Sub.there ?_))).n) rfl (by omega)) rfl ?_
        refine hw_read rfl rfl rfl (v_load rfl (Go.Sl.Vw.var (qTy) ((hD _ (by repeat (first | exact Sub.here | exact Sub.nil | assumption | refine Sub.there ?_))).n) (by omega))) ?_
        refine hw_pure rfl rfl (v_nilCheck rfl) rfl ?_
        refine hw_pure rfl rfl (v_fieldAddr0 Ty.fd75_1 rfl) rfl ?_
        refine hw_pure rfl rfl (v_indexAddrA Try.underlying67 Ty.el67 rfl rfl (Int.toNat_of_nonneg (by omega)).symm (by omega)) rfl ?_
        refine hw_read rfl rfl rfl (v_load rfl (Var.atN Ty.ag62 .here GetN.all (by first | rfl | assumption))) ?_
        refine hw_nil ?_
        refine sw_nil ?_
        (refine ow_call rfl rfl rfl rfl (spFoldO_c (o := 1 + e.n[0].toNat * 5) (by rw [hen]; rfl) (by repeat (first | exact Sel.here | apply Sel.there)) hOi hw.s2 (by omega) he hck hk27 hD (by repeat (first | exact Sub.here | exact Sub.nil | assumption | refine Sub.there ?_))) ?_; rintro _ _ ⟨x38, rfl, hq38, rfl⟩)
        refine ow_val rfl rfl (v_assign rfl) ?_
        refine ow_nil ?_
        refine xw_np ?_
        refine xw_then ?_
        obtain ⟨q', cs, cc, rfl, hS', hC'⟩ := hq38
        refine cw_seq ?_
        refine cw_region ?_
        refine ow_val rfl rfl (v_move rfl) ?_
        refine ow_val rfl rfl (v_neq rfl rfl) ?_
        refine ow_nil ?_
        refine xw_then ?_
        refine cw_dec rfl (fun hc40 => ?_) (fun hc40 => ?_)
        refine cw_seq ?_
        refine cw_region ?_
        refine ow_val rfl rfl (v_move rfl) ?_
        refine ow_val rfl rfl (v_assign rfl) ?_
        refine ow_nil ?_
        refine xw_then ?_
        refine cw_ret ?_
        refine xw_joint_ret ?_
        refine ret1 rfl (res_tmp rfl) ?_
        rotate_left
        refine cw_skip ?_
        rotate_left
        · have hne : ((s.sp (e.at 0).toNat).step e).2 ≠ 0 := by rw [hsp]; exact hc40
          have e1 : s.step e = (s, (s.s2.step e).2) := by rw [StM.step, if_neg (by rw [hck]; decide), if_neg hcut, if_pos hk27, if_neg h3, if_pos hne, hsp]
          have e2 := SpM.step_none (x := s.s2) (e := e) hc40
          rw [e1]
          rw [e2] at hS' hC'
          have hobj : [Value.int .u64 s.ph, .int .u64 s.s0.nx, .slice p0.sa s.s0.sent.length p0.sc, .slice p0.ca s.s0.came.length p0.cc, .int .u64 s.s0.bl, .bool s.s0.dr, .int .u64 s.s1.nx, .slice p1.sa s.s1.sent.length p1.sc, .slice p1.ca s.s1.came.length p1.cc, .int .u64 s.s1.bl, .bool s.s1.dr] ++ ((s.s2.step e).1.cells q' ++ [Value.int .u64 m0, .int .u64 m1, .int .u64 m2, .int .u64 m3, .int .u64 m4, .int .u64 m5, .int .u64 m6, .int .u64 m7, .map (some n1), .map (some n2), .map (some n3), .map (some n4), .int .u64 s.us, .map (some n5), .int .u64 s.tu, .int .u64 s.c0, .int .u64 s.c1, .int .u64 s.c2, .bool s.cl, .bool s.cut, .int .i64 s.ev]) = s.cells ⟨p0, p1, q', some n1, some n2, some n3, some n4, some n5⟩ := by rw [e2, cells_lit hm]; rfl
          rw [hobj]
          exact ⟨[(b, .cells (s.cells ⟨p0, p1, q', some n1, some n2, some n3, some n4, some n5⟩).toArray 75 (0, 0))] ++ (a0 ++ (d0 ++ (a1 ++ (d1 ++ (cs ++ (cc ++ (k1 ++ (k2 ++ (k3 ++ (k4 ++ (k5))))))))))), rfl, ⟨⟨p0, p1, q', some n1, some n2, some n3, some n4, some n5⟩, _, rfl, ⟨a0, d0, a1, d1, cs, cc, k1, k2, k3, k4, k5, rfl, ⟨hd.s0, hd.s1, ⟨hS', hC'⟩, hd.cr, hd.st, hd.own, hd.oth, hd.pa⟩⟩, ⟨⟨n1, rfl⟩, ⟨n2, rfl⟩, ⟨n3, rfl⟩, ⟨n4, rfl⟩, ⟨n5, rfl⟩⟩⟩, (by first | exact Cov.refl _ | (intro p; simp only [List.flatten_cons, List.flatten_nil, List.flatten_append, List.append_nil, List.nil_append, cnt_append, cnt_cons, cnt_nil, List.set_cons_zero, List.set_cons_succ, List.length_nil, List.length_cons, Nat.zero_add, List.append]; omega))⟩
        · have hne : ¬ ((s.sp (e.at 0).toNat).step e).2 ≠ 0 := by rw [hsp]; exact hc40
          have e1 : s.step e = ({ s.setSp 2 (s.s2.step e).1 with ev := s.ev + 1 }, 0) := by rw [StM.step, if_neg (by rw [hck]; decide), if_neg hcut, if_pos hk27, if_neg h3, if_neg hne, hsp, h0]; rfl
          have hobj : [Value.int .u64 s.ph, .int .u64 s.s0.nx, .slice p0.sa s.s0.sent.length p0.sc, .slice p0.ca s.s0.came.length p0.cc, .int .u64 s.s0.bl, .bool s.s0.dr, .int .u64 s.s1.nx, .slice p1.sa s.s1.sent.length p1.sc, .slice p1.ca s.s1.came.length p1.cc, .int .u64 s.s1.bl, .bool s.s1.dr] ++ ((s.s2.step e).1.cells q' ++ [Value.int .u64 m0, .int .u64 m1, .int .u64 m2, .int .u64 m3, .int .u64 m4, .int .u64 m5, .int .u64 m6, .int .u64 m7, .map (some n1), .map (some n2), .map (some n3), .map (some n4), .int .u64 s.us, .map (some n5), .int .u64 s.tu, .int .u64 s.c0, .int .u64 s.c1, .int .u64 s.c2, .bool s.cl, .bool s.cut, .int .i64 s.ev]) = StM.cells (s.setSp 2 (s.s2.step e).1) ⟨p0, p1, q', some n1, some n2, some n3, some n4, some n5⟩ := by rw [cells_lit (s := s.setSp 2 (s.s2.step e).1) hm]; rfl
          rw [hobj]
          exact xw_joint ((s.setSp 2 (s.s2.step e).1, [(b, .cells (StM.cells (s.setSp 2 (s.s2.step e).1) ⟨p0, p1, q', some n1, some n2, some n3, some n4, some n5⟩).toArray 75 (0, 0))] ++ (a0 ++ (d0 ++ (a1 ++ (d1 ++ (cs ++ (cc ++ (k1 ++ (k2 ++ (k3 ++ (k4 ++ (k5)))))))))))) : StM × Hp) ⟨rfl, StM.setSp_wf hw (SpM.step_wf hw.s2 he hck) 2, ⟨⟨p0, p1, q', some n1, some n2, some n3, some n4, some n5⟩, _, rfl, ⟨a0, d0, a1, d1, cs, cc, k1, k2, k3, k4, k5, rfl, ⟨hd.s0, hd.s1, ⟨hS', hC'⟩, hd.cr, hd.st, hd.own, hd.oth, hd.pa⟩⟩, ⟨⟨n1, rfl⟩, ⟨n2, rfl⟩, ⟨n3, rfl⟩, ⟨n4, rfl⟩, ⟨n5, rfl⟩⟩⟩, e1⟩ (by first | exact Cov.refl _ | (intro p; simp only [List.flatten_cons, List.flatten_nil, List.flatten_append, List.append_nil, List.nil_append, cnt_append, cnt_cons, cnt_nil, List.set_cons_zero, List.set_cons_succ, List.length_nil, List.length_cons, Nat.zero_add, List.append]; omega)) (by repeat (first | exact True.intro | refine And.intro rfl ?_))
    · have hO2 : StAt s b ([(b, .cells (s.cells ⟨p0, p1, p2, some n1, some n2, some n3, some n4, some n5⟩).toArray 75 (0, 0))] ++ (a0 ++ (d0 ++ (a1 ++ (d1 ++ (a2 ++ (d2 ++ (k1 ++ (k2 ++ (k3 ++ (k4 ++ (k5)))))))))))) := ⟨⟨p0, p1, p2, some n1, some n2, some n3, some n4, some n5⟩, _, rfl, ⟨a0, d0, a1, d1, a2, d2, k1, k2, k3, k4, k5, rfl, ⟨hd.s0, hd.s1, hd.s2, hd.cr, hd.st, hd.own, hd.oth, hd.pa⟩⟩, ⟨⟨n1, rfl⟩, ⟨n2, rfl⟩, ⟨n3, rfl⟩, ⟨n4, rfl⟩, ⟨n5, rfl⟩⟩⟩
      refine cw_cov ([(b3, .cells [Value.int .u8 e.k, .int .u64 e.t, .slice p.na e.n.length p.nc, .slice p.da e.d.length p.dc].toArray 62 (0, 0))] :: ([(b, .cells (s.cells ⟨p0, p1, p2, some n1, some n2, some n3, some n4, some n5⟩).toArray 75 (0, 0))] ++ (a0 ++ (d0 ++ (a1 ++ (d1 ++ (a2 ++ (d2 ++ (k1 ++ (k2 ++ (k3 ++ (k4 ++ (k5)))))))))))) :: F) (by rw [cells_lit hm]; exact (by first | exact Cov.refl _ | (intro p; simp only [List.flatten_cons, List.flatten_nil, List.flatten_append, List.append_nil, List.nil_append, cnt_append, cnt_cons, cnt_nil, List.set_cons_zero, List.set_cons_succ, List.length_nil, List.length_cons, Nat.zero_add, List.append]; omega))) ?_
      have e1 : s.step e = ({ s.store e with ev := s.ev + 1 }, 0) := by rw [StM.step, if_neg (by rw [hck]; decide), if_neg hcut, if_neg hk27]
      refine cw_seq ?_
      refine cw_region ?_
      refine ow_val rfl rfl (v_fieldAddr0 Ty.fd62_0 rfl) ?_
      refine ow_val rfl rfl (v_load rfl (Var.at1 Ty.sc59 .here (GetN.lit rfl))) ?_
      refine ow_val rfl rfl (v_geq rfl rfl) ?_
      refine ow_val rfl rfl (v_move rfl) ?_
      refine ow_dec 19 rfl (fun hc19 => ?_) (fun hc19 => ?_)
      refine ow_val rfl rfl (v_fieldAddr0 Ty.fd62_0 rfl) ?_
      refine ow_val rfl rfl (v_load rfl (Var.at1 Ty.sc59 .here (GetN.lit rfl))) ?_
      refine ow_val rfl rfl (v_leq rfl rfl) ?_
      refine ow_val rfl rfl (v_pick_true rfl rfl) ?_
      refine ow_nil ?_
      refine xw_then ?_
      refine cw_dec rfl (fun hc23 => ?_) (fun hc23 => ?_)
      (exfalso; omega)
      refine cw_region ?_
      refine ow_val rfl rfl (v_move rfl) ?_
      refine ow_val rfl rfl (v_load rfl (Var.atN Ty.ag62 .here GetN.all (by first | rfl | assumption))) ?_
      (refine ow_call rfl rfl rfl rfl (stStore_c (by repeat (first | exact Sel.here | apply Sel.there)) hO2 hw he hck hk27 hD (by repeat (first | exact Sub.here | exact Sub.nil | assumption | refine Sub.there ?_))) ?_; rintro _ _ ⟨x44, rfl, hq44, rfl⟩)
      refine ow_nil ?_
      rotate_left
      refine ow_skip rfl rfl ?_
      refine ow_skip rfl rfl ?_
      refine ow_skip rfl rfl ?_
      refine ow_val rfl rfl (v_pick_false rfl rfl) ?_
      refine ow_nil ?_
      refine xw_then ?_
      refine cw_false rfl ?_
      refine cw_region ?_
      refine ow_val rfl rfl (v_move rfl) ?_
      refine ow_val rfl rfl (v_load rfl (Var.atN Ty.ag62 .here GetN.all (by first | rfl | assumption))) ?_
      (refine ow_call rfl rfl rfl rfl (stStore_c (by repeat (first | exact Sel.here | apply Sel.there)) hO2 hw he hck hk27 hD (by repeat (first | exact Sub.here | exact Sub.nil | assumption | refine Sub.there ?_))) ?_; rintro _ _ ⟨x44, rfl, hq44, rfl⟩)
      refine ow_nil ?_
      rotate_left
      · exact xw_joint ((s.store e, x44) : StM × Hp) ⟨StM.store_ev, StM.store_wf hw he hck, hq44, e1⟩ (by first | exact Cov.refl _ | (intro p; simp only [List.flatten_cons, List.flatten_nil, List.flatten_append, List.append_nil, List.nil_append, cnt_append, cnt_cons, cnt_nil, List.set_cons_zero, List.set_cons_succ, List.length_nil, List.length_cons, Nat.zero_add, List.append]; omega)) (by repeat (first | exact True.intro | refine And.intro rfl ?_))
      · exact xw_joint ((s.store e, x44) : StM × Hp) ⟨StM.store_ev, StM.store_wf hw he hck, hq44, e1⟩ (by first | exact Cov.refl _ | (intro p; simp only [List.flatten_cons, List.flatten_nil, List.flatten_append, List.append_nil, List.nil_append, cnt_append, cnt_cons, cnt_nil, List.set_cons_zero, List.set_cons_succ, List.length_nil, List.length_cons, Nat.zero_add, List.append]; omega)) (by repeat (first | exact True.intro | refine And.intro rfl ?_))
  rintro ⟨s', c'⟩ ⟨hev', hw', hO', hst'⟩
  dsimp only at hev' hw' hO' hst' ⊢
  rw [hst']
  clear hm hd hOO
  obtain ⟨pt, D1, rfl, ⟨u0, v0, u1, v1, u2, v2, l1, l2, l3, l4, l5, rfl, hd'⟩, hlv'⟩ := hO'
  obtain ⟨m0', m1', m2', m3', m4', m5', m6', m7', hm'⟩ := list8i hw'.mt.1
  refine cw_flat ([(b3, .cells [Value.int .u8 e.k, .int .u64 e.t, .slice p.na e.n.length p.nc, .slice p.da e.d.length p.dc].toArray 62 (0, 0))] :: [(b, .cells (s'.cells pt).toArray 75 (0, 0))] :: u0 :: v0 :: u1 :: v1 :: u2 :: v2 :: l1 :: l2 :: l3 :: l4 :: l5 :: F) (.of_eq (by simp)) ?_
  rw [cells_lit hm']
  have hevb : 0 ≤ s'.ev ∧ s'.ev ≤ 900000 := by rw [hev']; exact hev
  refine cw_seq ?_
  refine cw_region ?_
  refine ow_val rfl rfl (v_move rfl) ?_
  refine ow_val rfl rfl (v_nilCheck rfl) ?_
  refine ow_val rfl rfl (v_fieldAddr0 Ty.fd75_13 rfl) ?_
  refine ow_val rfl rfl (v_load rfl (Var.at1 Ty.sc3 (.there .here) (GetN.lit rfl))) ?_
  refine ow_val rfl rfl (v_add rfl rfl (nw_i64 (by omega) (by omega))) ?_
  refine ow_val rfl rfl (v_nilCheck rfl) ?_
  refine ow_val rfl rfl (v_fieldAddr0 Ty.fd75_13 rfl) ?_
  refine ow_store1 rfl rfl rfl rfl Ty.sc3 (.there .here) (SetN.one (by first | decide | exact Nat.le_of_ble_eq_true rfl)) ?_
  refine ow_nil ?_
  refine xw_then ?_
  refine cw_seq ?_
  refine cw_region ?_
  refine ow_val rfl rfl (v_assign rfl) ?_
  refine ow_nil ?_
  refine xw_then ?_
  refine cw_ret ?_
  refine ret1 rfl (res_tmp rfl) ?_
  refine ⟨[(b, .cells (StM.cells { s' with ev := s.ev + 1 } pt).toArray 75 (0, 0))] ++ (u0 ++ (v0 ++ (u1 ++ (v1 ++ (u2 ++ (v2 ++ (l1 ++ (l2 ++ (l3 ++ (l4 ++ l5)))))))))), rfl, ⟨pt, _, rfl, ⟨u0, v0, u1, v1, u2, v2, l1, l2, l3, l4, l5, rfl, ⟨hd'.s0, hd'.s1, hd'.s2, hd'.cr, hd'.st, hd'.own, hd'.oth, hd'.pa⟩⟩, hlv'⟩, ?_⟩
  rw [cells_lit (s := { s' with ev := s.ev + 1 }) hm', ← hev']
  dsimp only [List.set]
  exact (by first | exact Cov.refl _ | (intro p; simp only [List.flatten_cons, List.flatten_nil, List.flatten_append, List.append_nil, List.nil_append, cnt_append, cnt_cons, cnt_nil, List.set_cons_zero, List.set_cons_succ, List.length_nil, List.length_cons, Nat.zero_add, List.append]; omega))

/-! ### Fold, All -/
def runAll : StM → List EvM → StM × Nat × Int
  | s, [] => (s, 0, 0)
  | s, e :: l => if (s.step e).2 ≠ 0 then (s, 0, (s.step e).2) else ((runAll (s.step e).1 l).1, (runAll (s.step e).1 l).2.1 + 1, (runAll (s.step e).1 l).2.2)
theorem StM.step_sz {s : StM} {e : EvM} {n : Nat} (h : s.Sz n) : (s.step e).1.Sz (n + 1) := by
  have h1 := h.mono (Nat.le_succ n)
  have hev := h.ev
  have hsp : ∀ x : SpM, x.sent.length ≤ n → ((x.step e).1).sent.length ≤ n + 1 := by
    intro x hx
    unfold SpM.step
    split
    · unfold SpM.send
      split
      · dsimp only; omega
      · dsimp only
        split
        · rw [List.length_append, List.length_singleton]; omega
        · omega
    · unfold SpM.recv
      split
      · dsimp only; omega
      · dsimp only; omega
    · simp
    · dsimp only; omega
    · split
      · dsimp only; omega
      · dsimp only
        rw [List.length_append, List.length_take, List.length_drop]
        omega
  unfold StM.step
  split
  · exact h1
  split
  · exact h1
  split
  · split
    · exact h1
    · split
      · exact h1
      · have h2 := hsp (s.sp (e.at 0).toNat) (h.sp _)
        unfold StM.setSp
        split
        · exact ⟨h2, h1.s1, h1.s2, ⟨by dsimp only; omega, by dsimp only; omega⟩⟩
        · exact ⟨h1.s0, h2, h1.s2, ⟨by dsimp only; omega, by dsimp only; omega⟩⟩
        · exact ⟨h1.s0, h1.s1, h2, ⟨by dsimp only; omega, by dsimp only; omega⟩⟩
  · unfold StM.store
    split <;> exact ⟨h1.s0, h1.s1, h1.s2, ⟨by dsimp only; omega, by dsimp only; omega⟩⟩
set_option maxHeartbeats 4000000 in
theorem stFoldV_c {B : Nat} {w0 : World} {G : List Hp} {s : StM} {ps : StP} {Ds De : Hp} {e : EvM} {p : EvP} (hS : StDeep s ps Ds) (hsS : Sub Ds G) (hw : s.WF) (hz : s.Sz 900000) (he : e.ok) (hD : EvDeep B w0 e p De) (hs : Sub De G) :
    Go.Sl.Fn Try.prog 30 #[.agg (s.cells ps).toArray, .agg (e.cells p).toArray] B w0 G fun u G' => ∃ x : StP × Hp, u = .tuple #[.agg ((s.step e).1.cells x.1).toArray, .int .i64 (s.step e).2] ∧ (StDeep (s.step e).1 x.1 x.2 ∧ x.1.live) ∧ G' = [x.2] ++ G := by
  refine Fn.new (V := fun x : StP × Hp => .tuple #[.agg ((s.step e).1.cells x.1).toArray, .int .i64 (s.step e).2]) (Nw := fun x => [x.2]) ?_
  have hcl : ∀ (s : StM) (p : StP), s.WF → (s.cells p).length = 37 := fun s p h => StM.cells_len h
  have hco : ∀ (s : StM) (p : StP), ∀ u ∈ s.cells p, u.oneCell' = true := fun s p => StM.cells_one
  have h1 := hcl s ps hw
  have h2 := hco s ps
  have hc1 : ∀ u ∈ e.cells p, u.oneCell' = true := EvM.cells_one
  have hc4 : (e.cells p).length = 4 := rfl
  refine fn_enter Try.func30 rfl (by kernel_rfl) Try.ntmps30 (by simp) ?_
  refine cw_seq ?_
  refine cw_region ?_
  (refine ow_box rfl rfl rfl rfl ?_; intro b2)
  (refine ow_box rfl rfl rfl rfl ?_; intro b3)
  (refine ow_alloc rfl rfl Ty.ze75 ?_; intro b4)
  refine ow_val rfl rfl (v_assign rfl) ?_
  refine ow_nil ?_
  refine xw_then ?_
  refine cw_seq ?_
  refine cw_region ?_
  refine ow_val rfl rfl (v_load rfl (Var.atN Ty.ag75 (.there (.there .here)) GetN.all (by first | rfl | assumption))) ?_
  (refine ow_call rfl rfl rfl rfl (stClone_c hS (by repeat (first | exact Sub.here | exact Sub.nil | assumption | refine Sub.there ?_)) hw (hz.mono (by decide))) ?_; rintro _ _ ⟨x8, rfl, hq8, rfl⟩)
  obtain ⟨p2, D2⟩ := x8
  obtain ⟨hD2, hl2⟩ := hq8
  dsimp only at hD2 hl2 ⊢
  have g1 := hcl s p2 hw
  have g2 := hco s p2
  have gl : (s.cells p2).length = (s.cells ps).length := g1.trans h1.symm
  refine ow_storeN rfl rfl rfl Ty.ag75 (by first | rfl | assumption) (by first | assumption | simp) (.there (.there (.there .here))) ((SetN.all gl)) ?_
  refine ow_nil ?_
  refine xw_then ?_
  have hO2 : StAt s b2 ([(b2, .cells (s.cells p2).toArray 75 (0, 0))] ++ D2) := ⟨p2, D2, rfl, hD2, hl2⟩
  refine cw_cov ([(b3, .cells (e.cells p).toArray 62 (0, 0))] :: ([(b2, .cells (s.cells p2).toArray 75 (0, 0))] ++ D2) :: [(b4, .cells zeroL.toArray 75 (0, 0))] :: G) (by unfold zeroL; exact (by first | exact Cov.refl _ | (intro p; simp only [List.flatten_cons, List.flatten_nil, List.flatten_append, List.append_nil, List.nil_append, cnt_append, cnt_cons, cnt_nil, List.set_cons_zero, List.set_cons_succ, List.length_nil, List.length_cons, Nat.zero_add, List.append]; omega))) ?_
  have hw' := StM.step_wf hw he
  refine cw_seq ?_
  refine cw_region ?_
  refine ow_val rfl rfl (v_load rfl (Var.atN Ty.ag62 .here GetN.all (by first | rfl | assumption))) ?_
  (refine ow_call rfl rfl rfl rfl (stFold_c (by repeat (first | exact Sel.here | apply Sel.there)) hO2 hw hz he hD (by repeat (first | exact Sub.here | exact Sub.nil | assumption | refine Sub.there ?_))) ?_; rintro _ _ ⟨x10, rfl, hq10, rfl⟩)
  refine ow_val rfl rfl (v_assign rfl) ?_
  refine ow_nil ?_
  refine xw_then ?_
  obtain ⟨p3, D3, rfl, hD3, hl3⟩ := hq10
  have k1 := hcl (s.step e).1 p3 hw'
  have k2 := hco (s.step e).1 p3
  have kl : ((s.step e).1.cells p3).length = zeroL.length := k1
  refine cw_cov ([(b3, .cells (e.cells p).toArray 62 (0, 0))] :: [(b2, .cells ((s.step e).1.cells p3).toArray 75 (0, 0))] :: D3 :: [(b4, .cells zeroL.toArray 75 (0, 0))] :: G) (by first | exact Cov.refl _ | (intro p; simp only [List.flatten_cons, List.flatten_nil, List.flatten_append, List.append_nil, List.nil_append, cnt_append, cnt_cons, cnt_nil, List.set_cons_zero, List.set_cons_succ, List.length_nil, List.length_cons, Nat.zero_add, List.append]; omega)) ?_
  refine cw_seq ?_
  refine cw_region ?_
  refine ow_val rfl rfl (v_load rfl (Var.atN Ty.ag75 (.there .here) GetN.all (by first | rfl | assumption))) ?_
  refine ow_val rfl rfl (v_move rfl) ?_
  refine ow_storeN rfl rfl rfl Ty.ag75 (by first | rfl | assumption) (by first | assumption | simp) (.there (.there (.there .here))) ((SetN.all kl)) ?_
  refine ow_val rfl rfl (v_assign rfl) ?_
  refine ow_nil ?_
  refine xw_then ?_
  refine cw_ret ?_
  refine ret2 rfl (res_cell rfl (Var.atN Ty.ag75 (.there (.there (.there .here))) GetN.all (by first | rfl | assumption))) (res_tmp rfl) ?_
  exact ⟨(p3, D3), rfl, ⟨hD3, hl3⟩, (by first | exact Cov.refl _ | (intro p; simp only [List.flatten_cons, List.flatten_nil, List.flatten_append, List.append_nil, List.nil_append, cnt_append, cnt_cons, cnt_nil, List.set_cons_zero, List.set_cons_succ, List.length_nil, List.length_cons, Nat.zero_add, List.append]; omega))⟩

set_option maxHeartbeats 8000000 in
theorem stAll_c {B : Nat} {w0 : World} {G : List Hp} {ao : Option Addr} {n cap : Nat} {es : List EvE} {De : Hp} (hV : Vw enEv (St B w0 G) (.slice ao n cap) es) (hn : es.length ≤ 100000) (hDe : ∀ x ∈ es, EvDeep B w0 x.m x.p De) (hs : Sub De G) :
    Go.Sl.Fn Try.prog 28 #[.slice ao n cap] B w0 G fun u G' => ∃ x : StP × Hp, u = .tuple #[.agg ((runAll StM.zero (es.map (·.m))).1.cells x.1).toArray, .int .i64 ((runAll StM.zero (es.map (·.m))).2.1 : Nat), .int .i64 (runAll StM.zero (es.map (·.m))).2.2] ∧ (StDeep (runAll StM.zero (es.map (·.m))).1 x.1 x.2 ∧ x.1.live) ∧ G' = [x.2] ++ G := by
  refine Fn.new (V := fun x : StP × Hp => .tuple #[.agg ((runAll StM.zero (es.map (·.m))).1.cells x.1).toArray, .int .i64 ((runAll StM.zero (es.map (·.m))).2.1 : Nat), .int .i64 (runAll StM.zero (es.map (·.m))).2.2]) (Nw := fun x => [x.2]) ?_
  have hl := hV.len
  subst hl
  have hcl : ∀ (s : StM) (p : StP), s.WF → (s.cells p).length = 37 := fun s p h => StM.cells_len h
  have hco : ∀ (s : StM) (p : StP), ∀ u ∈ s.cells p, u.oneCell' = true := fun s p => StM.cells_one
  generalize hres : runAll StM.zero (es.map (·.m)) = res
  refine fn_enter Try.func28 rfl (by kernel_rfl) Try.ntmps28 (by simp) ?_
  refine cw_seq ?_
  refine cw_region ?_
  (refine ow_alloc rfl rfl Ty.ze75 ?_; intro b2)
  refine ow_val rfl rfl (v_assign rfl) ?_
  refine ow_val rfl rfl (v_assign rfl) ?_
  refine ow_nil ?_
  refine xw_then ?_
  refine cw_seq ?_
  refine cw_region ?_
  (refine ow_call rfl rfl rfl rfl (stNew_c) ?_; rintro _ _ ⟨x9, rfl, hq9, rfl⟩)
  (refine ow_alloc rfl rfl Ty.ze75 ?_; intro b5)
  obtain ⟨p9, D9⟩ := x9
  obtain ⟨hD9, hl9⟩ := hq9
  dsimp only at hD9 hl9 ⊢
  have g1 := hcl StM.zero p9 StM.zero_wf
  have g2 := hco StM.zero p9
  have gl : (StM.zero.cells p9).length = zeroL.length := g1
  refine ow_cov (D9 :: [(b5, .cells zeroL.toArray 75 (0, 0))] :: [(b2, .cells zeroL.toArray 75 (0, 0))] :: G) (by unfold zeroL; exact (by first | exact Cov.refl _ | (intro p; simp only [List.flatten_cons, List.flatten_nil, List.flatten_append, List.append_nil, List.nil_append, cnt_append, cnt_cons, cnt_nil, List.set_cons_zero, List.set_cons_succ, List.length_nil, List.length_cons, Nat.zero_add, List.append]; omega))) ?_
  refine ow_storeN rfl rfl rfl Ty.ag75 (by first | rfl | assumption) (by first | assumption | simp) (.there .here) ((SetN.all gl)) ?_
  refine ow_nil ?_
  refine xw_then ?_
  refine cw_seq ?_
  refine cw_seq ?_
  refine cw_region ?_
  refine ow_val rfl rfl (v_move rfl) ?_
  refine ow_val rfl rfl (v_len rfl Try.underlying57 rfl) ?_
  refine ow_val rfl rfl (v_move rfl) ?_
  refine ow_nil ?_
  refine xw_then ?_
  refine cw_block ?_
  have hO0 : StAt StM.zero b5 ([(b5, .cells (StM.zero.cells p9).toArray 75 (0, 0))] ++ D9) := ⟨p9, D9, rfl, hD9, hl9⟩
  refine cw_cov (([(b5, .cells (StM.zero.cells p9).toArray 75 (0, 0))] ++ D9) :: [(b2, .cells zeroL.toArray 75 (0, 0))] :: G) (by first | exact Cov.refl _ | (intro p; simp only [List.flatten_cons, List.flatten_nil, List.flatten_append, List.append_nil, List.nil_append, cnt_append, cnt_cons, cnt_nil, List.set_cons_zero, List.set_cons_succ, List.length_nil, List.length_cons, Nat.zero_add, List.append]; omega)) ?_
  refine cw_loop2 (ι := ((Nat × StM × Hp))) [(0, _), (2, _), (5, _), (10, _), (11, _)] ⟨rfl, rfl, rfl, rfl, rfl, trivial⟩ ((fun x => [(12, .int .i64 x.1)])) ((fun x => x.1 ≤ es.length ∧ x.2.1.WF ∧ x.2.1.Sz x.1 ∧ StAt x.2.1 b5 x.2.2 ∧ res = ((runAll x.2.1 ((es.drop x.1).map (·.m))).1, (runAll x.2.1 ((es.drop x.1).map (·.m))).2.1 + x.1, (runAll x.2.1 ((es.drop x.1).map (·.m))).2.2))) ((fun x => es.length - x.1)) ((fun x => x.2.2 :: [(b2, .cells zeroL.toArray 75 (0, 0))] :: G)) (((0, StM.zero, [(b5, .cells (StM.zero.cells p9).toArray 75 (0, 0))] ++ D9) : Nat × StM × Hp)) (by repeat (first | exact True.intro | refine And.intro rfl ?_)) (by first | exact Cov.refl _ | (intro p; simp only [List.flatten_cons, List.flatten_nil, List.flatten_append, List.append_nil, List.nil_append, cnt_append, cnt_cons, cnt_nil, List.set_cons_zero, List.set_cons_succ, List.length_nil, List.length_cons, Nat.zero_add, List.append]; omega)) ?_ ?_
  · exact ⟨Nat.zero_le _, StM.zero_wf, StM.zero_sz, hO0, by rw [← hres]; rfl⟩
  rintro ⟨j, s, c⟩ ⟨hj, hw, hz, hO, hr⟩
  dsimp only at hj hw hz hO hr ⊢
  refine cw_seq ?_
  refine cw_region ?_
  refine ow_val rfl rfl (v_lss rfl rfl) ?_
  refine ow_nil ?_
  refine xw_then ?_
  refine cw_seq ?_
  refine cw_dec rfl (fun hc13 => ?_) (fun hc13 => ?_)
  refine cw_skip ?_
  refine xw_then ?_
  rotate_left
  refine cw_exit ?_
  refine xw_then_exit ?_
  refine xw_round_exit ?_
  refine xw_block_exit ?_
  refine xw_then ?_
  rotate_left
  · have hj2 : j < es.length := by omega
    have hok := hV.ok _ (List.getElem_mem hj2)
    have hoe : (es[j]).m.ok := hok
    have hDj := hDe _ (List.getElem_mem hj2)
    have hce : ∀ u ∈ (es[j]).m.cells (es[j]).p, u.oneCell' = true := EvM.cells_one
    have hle : ((es[j]).m.cells (es[j]).p).length = 4 := rfl
    have hdr : es.drop j = es[j] :: es.drop (j + 1) := List.drop_eq_getElem_cons hj2
    rw [hdr, List.map_cons] at hr
    have hw' := StM.step_wf hw hoe
    refine cw_seq ?_
    refine cw_block ?_
    refine cw_seq ?_
    refine cw_region ?_
    refine ow_val rfl rfl (v_move rfl) ?_
    refine ow_val rfl rfl (v_indexAddr_vw Try.underlying57 (evTy) rfl rfl (by assumption) rfl (by omega)) ?_
    refine ow_val rfl rfl (v_load rfl (Go.Sl.Vw.var (evTy) (hV.cov (by first | exact Cov.refl _ | (intro p; simp only [List.flatten_cons, List.flatten_nil, List.flatten_append, List.append_nil, List.nil_append, cnt_append, cnt_cons, cnt_nil, List.set_cons_zero, List.set_cons_succ, List.length_nil, List.length_cons, Nat.zero_add, List.append]; omega))) (by omega))) ?_
    (refine ow_alloc rfl rfl Ty.ze62 ?_; intro b7)
    refine ow_val rfl rfl (v_assign rfl) ?_
    refine ow_storeE rfl (evTy) rfl rfl .here (by first | rfl | assumption) (by assumption) ?_
    refine ow_nil ?_
    refine xw_then ?_
    refine cw_seq ?_
    refine cw_region ?_
    refine ow_val rfl rfl (v_load rfl (Var.atN Ty.ag62 .here GetN.all (by first | rfl | assumption))) ?_
    (refine ow_call rfl rfl rfl rfl (stFold_c (by repeat (first | exact Sel.here | apply Sel.there)) hO hw (hz.mono (by omega)) hoe hDj (by repeat (first | exact Sub.here | exact Sub.nil | assumption | refine Sub.there ?_))) ?_; rintro _ _ ⟨x18, rfl, hq18, rfl⟩)
    refine ow_val rfl rfl (v_assign rfl) ?_
    refine ow_nil ?_
    refine xw_then ?_
    refine cw_seq ?_
    refine cw_region ?_
    refine ow_val rfl rfl (v_move rfl) ?_
    refine ow_val rfl rfl (v_neq rfl rfl) ?_
    refine ow_nil ?_
    refine xw_then ?_
    refine cw_dec rfl (fun hc20 => ?_) (fun hc20 => ?_)
    rotate_left
    refine cw_skip ?_
    refine xw_block ?_
    refine xw_then ?_
    refine cw_region ?_
    refine ow_val rfl rfl (v_add rfl rfl (nw_i64 (by omega) (by omega))) ?_
    refine ow_val rfl rfl (v_move rfl) ?_
    refine ow_nil ?_
    rotate_left
    · obtain ⟨p3, D3, rfl, hD3, hl3⟩ := hq18
      have k1 := hcl (s.step (es[j]).m).1 p3 hw'
      have k2 := hco (s.step (es[j]).m).1 p3
      have kl : ((s.step (es[j]).m).1.cells p3).length = zeroL.length := k1
      refine cw_cov ([(b5, .cells ((s.step (es[j]).m).1.cells p3).toArray 75 (0, 0))] :: D3 :: [(b2, .cells zeroL.toArray 75 (0, 0))] :: G) (by first | exact Cov.refl _ | (intro p; simp only [List.flatten_cons, List.flatten_nil, List.flatten_append, List.append_nil, List.nil_append, cnt_append, cnt_cons, cnt_nil, List.set_cons_zero, List.set_cons_succ, List.length_nil, List.length_cons, Nat.zero_add, List.append]; omega)) ?_
      refine cw_seq ?_
      refine cw_region ?_
      refine ow_val rfl rfl (v_load rfl (Var.atN Ty.ag75 .here GetN.all (by first | rfl | assumption))) ?_
      refine ow_val rfl rfl (v_move rfl) ?_
      refine ow_val rfl rfl (v_move rfl) ?_
      refine ow_storeN rfl rfl rfl Ty.ag75 (by first | rfl | assumption) (by first | assumption | simp) (.there (.there .here)) ((SetN.all kl)) ?_
      refine ow_val rfl rfl (v_assign rfl) ?_
      refine ow_val rfl rfl (v_assign rfl) ?_
      refine ow_nil ?_
      refine xw_then ?_
      refine cw_ret ?_
      refine xw_block_ret ?_
      refine xw_then_ret ?_
      refine xw_round_ret ?_
      refine xw_block_ret ?_
      refine xw_then_ret ?_
      refine ret3 rfl (res_cell rfl (Var.atN Ty.ag75 (.there (.there .here)) GetN.all (by first | rfl | assumption))) (res_tmp rfl) (res_tmp rfl) ?_
      rw [runAll, if_pos hc20] at hr
      subst hr
      have hst := StM.step_none hc20
      rw [hst] at hD3
      refine ⟨(p3, D3), ?_, ⟨hD3, hl3⟩, (by first | exact Cov.refl _ | (intro p; simp only [List.flatten_cons, List.flatten_nil, List.flatten_append, List.append_nil, List.nil_append, cnt_append, cnt_cons, cnt_nil, List.set_cons_zero, List.set_cons_succ, List.length_nil, List.length_cons, Nat.zero_add, List.append]; omega))⟩
      dsimp only
      rw [hst, Nat.zero_add]
    · rw [runAll, if_neg hc20] at hr
      exact xw_round ((j + 1, (s.step (es[j]).m).1, x18) : Nat × StM × Hp) ⟨by dsimp only; omega, hw', StM.step_sz hz, hq18, by rw [hr]; dsimp only; rw [Nat.add_assoc, Nat.add_comm 1 j]⟩ (by dsimp only; omega) (by first | exact Cov.refl _ | (intro p; simp only [List.flatten_cons, List.flatten_nil, List.flatten_append, List.append_nil, List.nil_append, cnt_append, cnt_cons, cnt_nil, List.set_cons_zero, List.set_cons_succ, List.length_nil, List.length_cons, Nat.zero_add, List.append]; omega)) (by repeat (first | exact True.intro | refine And.intro rfl ?_))
  · have hj3 : j = es.length := by omega
    subst hj3
    rw [List.drop_length, List.map_nil, runAll] at hr
    subst hr
    obtain ⟨p3, D3, rfl, hD3, hl3⟩ := hO
    have k1 := hcl s p3 hw
    have k2 := hco s p3
    have kl : (s.cells p3).length = zeroL.length := k1
    refine cw_cov ([(b5, .cells (s.cells p3).toArray 75 (0, 0))] :: D3 :: [(b2, .cells zeroL.toArray 75 (0, 0))] :: G) (by first | exact Cov.refl _ | (intro p; simp only [List.flatten_cons, List.flatten_nil, List.flatten_append, List.append_nil, List.nil_append, cnt_append, cnt_cons, cnt_nil, List.set_cons_zero, List.set_cons_succ, List.length_nil, List.length_cons, Nat.zero_add, List.append]; omega)) ?_
    refine cw_seq ?_
    refine cw_region ?_
    refine ow_val rfl rfl (v_load rfl (Var.atN Ty.ag75 .here GetN.all (by first | rfl | assumption))) ?_
    refine ow_val rfl rfl (v_move rfl) ?_
    refine ow_val rfl rfl (v_len rfl Try.underlying57 rfl) ?_
    refine ow_storeN rfl rfl rfl Ty.ag75 (by first | rfl | assumption) (by first | assumption | simp) (.there (.there .here)) ((SetN.all kl)) ?_
    refine ow_val rfl rfl (v_assign rfl) ?_
    refine ow_val rfl rfl (v_assign rfl) ?_
    refine ow_nil ?_
    refine xw_then ?_
    refine cw_ret ?_
    refine ret3 rfl (res_cell rfl (Var.atN Ty.ag75 (.there (.there .here)) GetN.all (by first | rfl | assumption))) (res_tmp rfl) (res_tmp rfl) ?_
    refine ⟨(p3, D3), ?_, ⟨hD3, hl3⟩, (by first | exact Cov.refl _ | (intro p; simp only [List.flatten_cons, List.flatten_nil, List.flatten_append, List.append_nil, List.nil_append, cnt_append, cnt_cons, cnt_nil, List.set_cons_zero, List.set_cons_succ, List.length_nil, List.length_cons, Nat.zero_add, List.append]; omega))⟩
    dsimp only
    rw [Nat.zero_add]
end Go.Proofs.Ytckdhelnafjddaa
