/- The rules' law by hand, plainly: which event breaks which rule. Conditions: none; no program is spoken of. -/
import Derived.Test.YtckdhelnafjddaaRuC
import Derived.Test.YtckdhelnafjddaaRpO
namespace Go.Proofs.Ytckdhelnafjddaa
open Go Go.Sl Go.Proofs
set_option maxRecDepth 20000
set_option linter.unusedVariables false
set_option linter.unusedSimpArgs false

def evB (k : Int) (n : List Int) : EvM := ⟨k, 0, n, []⟩
def mB (w f p : Int) : EvM := evB 8 [1, 1, 1, 1, w, f, 1048576, p]
def sB (k : Nat) (s n fl : Int) : EvM := evB 2 [k, n, s, fl, fl]
def baseB (k : Nat) (s : Int) : List EvM := [mB (6 * s) 0 0, sB k s 0 1, sB k s 1 1, sB k s 2 0, sB k s 5 1, evB 4 [k, 5]]
def bentB (k : Nat) (s : Int) : Nat → List EvM × Int
  | 0 => ([sB k s 5 0], 1)
  | 1 => ([evB 4 [k, 5]], 1)
  | 2 => ([evB 5 [k, 1, 1]], 2)
  | 3 => ([evB 5 [k, 6, 0]], 2)
  | 4 => ([mB s 0 0], 3)
  | 5 => ([mB (2 * s) (2 * s) 0, sB k s 6 1], 4)
  | 6 => ([mB (2 * s) (2 * s) 1, sB k s 6 1, sB k s 7 1, sB k s 8 1], 4)
  | 7 => ([evB 1 [3], sB k s 6 0, sB k s 7 1], 5)
  | 8 => ([evB 1 [4], sB k s 6 0], 5)
  | 9 => ([evB 1 [2], evB 1 [1]], 5)
  | 10 => ([evB 9 [4, 10, 11, 5, 5]], 6)
  | 11 => ([evB 9 [4, 10, 10, 5, 6]], 6)
  | _ => ([evB 5 [k, 0, 0], evB 5 [k, 0, 0]], 1)
def mkS (k : Nat) (ph nx : Int) (sents : List PkM) (mt : List Int) (ev : Int) : StM := { StM.zero.setSp k ⟨nx, sents, [], 0, false⟩ with ph := ph, mt := mt, ev := ev }
def mkC (k : Nat) (ph nx : Int) (sents : List PkM) (mt : List Int) (ev : Int) (ac : List Int) (lf : Int) : CkM := ⟨mkS k ph nx sents mt ev, ac, lf⟩
theorem k3 {k : Nat} (h : k < 3) : k = 0 ∨ k = 1 ∨ k = 2 := by omega
theorem mkC_zero {k : Nat} (h : k < 3) : CkM.zero = mkC k 0 0 [] [0, 0, 0, 0, 0, 0, 0, 0] 0 [-1, -1, -1] 0 := by
  rcases k3 h with rfl | rfl | rfl <;> rfl
theorem mkS_flight {k : Nat} {ph nx ev : Int} {sents : List PkM} {mt : List Int} (h : k < 3) : (mkS k ph nx sents mt ev).flight = fl sents 0 := by
  rcases k3 h with rfl | rfl | rfl <;> rfl
theorem mkS_sp {k : Nat} {ph nx ev : Int} {sents : List PkM} {mt : List Int} (h : k < 3) : (mkS k ph nx sents mt ev).sp k = ⟨nx, sents, [], 0, false⟩ := by
  rcases k3 h with rfl | rfl | rfl <;> rfl
theorem mkS_set {k : Nat} {ph nx nx' ev ev' : Int} {sents sents' : List PkM} {mt : List Int} (h : k < 3) : ({ (mkS k ph nx sents mt ev).setSp k ⟨nx', sents', [], 0, false⟩ with ev := ev' } : StM) = mkS k ph nx' sents' mt ev' := by
  rcases k3 h with rfl | rfl | rfl <;> rfl
theorem mkS_cut {k : Nat} {ph nx ev : Int} {sents : List PkM} {mt : List Int} (h : k < 3) : (mkS k ph nx sents mt ev).cut = false := by
  rcases k3 h with rfl | rfl | rfl <;> rfl
theorem chkB {k : Int} {n : List Int} (h1 : 1 ≤ k ∧ k ≤ 19) (h2 : (n.length : Int) = manyK k.toNat) (h3 : ∀ x ∈ n, x ≤ 4611686018427387903) : (evB k n).chk = 0 := by
  unfold EvM.chk evB
  simp only [List.length_nil]
  rw [if_neg (by simp; omega), if_neg (by decide), if_neg (by simp; exact h2), if_neg (by simp), if_pos h3]
theorem mkS_mt {k : Nat} {ph nx ev : Int} {sents : List PkM} {mt mt' : List Int} (h : k < 3) (hc : (evB 8 mt').chk = 0) : (mkS k ph nx sents mt ev).step (evB 8 mt') = (mkS k ph nx sents mt' (ev + 1), 0) := by
  rw [step_st hc (mkS_cut h) (by simp [evB])]
  rcases k3 h with rfl | rfl | rfl <;> rfl
theorem mkS_ph {k : Nat} {ph nx ev v : Int} {sents : List PkM} {mt : List Int} (h : k < 3) (hc : (evB 1 [v]).chk = 0) : (mkS k ph nx sents mt ev).step (evB 1 [v]) = (mkS k v nx sents mt (ev + 1), 0) := by
  rw [step_st hc (mkS_cut h) (by simp [evB])]
  rcases k3 h with rfl | rfl | rfl <;> rfl
theorem mkS_sent {k : Nat} {ph nx ev s n f : Int} {sents : List PkM} {mt : List Int} (h : k < 3) (hs : s ≤ 65536) (hn : n ≤ 100) (hf : f = 0 ∨ f = 1) (hx : nx ≤ n) :
    (mkS k ph nx sents mt ev).step (sB k s n f) = (mkS k ph (n + 1) (if f = 1 then sents ++ [⟨n, s, decide (f = 1), decide (f = 1)⟩] else sents) mt (ev + 1), 0) := by
  have hc : (sB k s n f).chk = 0 := chkB (by decide) rfl (by simp; omega)
  have hat : (sB k s n f).at 0 = k := rfl
  have h1 : ((mkS k ph nx sents mt ev).sp k).step (sB k s n f) = (⟨n + 1, if f = 1 then sents ++ [⟨n, s, decide (f = 1), decide (f = 1)⟩] else sents, [], 0, false⟩, 0) := by
    rw [mkS_sp h, SpM.step2 rfl]
    have a1 : (sB k s n f).at 1 = n := rfl
    have a2 : (sB k s n f).at 2 = s := rfl
    have a3 : (sB k s n f).at 3 = f := rfl
    have a4 : (sB k s n f).at 4 = f := rfl
    rw [a1, a2, a3, a4]
    unfold SpM.send
    rcases hf with rfl | rfl
    · rw [if_neg (by simp; omega)]
      rfl
    · rw [if_neg (by simp; omega)]
      rfl
  have h2 := step_ok (s := mkS k ph nx sents mt ev) hc (mkS_cut h) ⟨by show (2 : Int) ≤ 2; decide, by show (2 : Int) ≤ 7; decide⟩ (by rw [hat]; omega) (by rw [hat, Int.toNat_natCast, h1])
  rw [h2, hat, Int.toNat_natCast, h1]
  dsimp only
  rw [mkS_set h]
  rcases k3 h with rfl | rfl | rfl <;> rfl
theorem mkS_sent_low {k : Nat} {ph nx ev s n f : Int} {sents : List PkM} {mt : List Int} (h : k < 3) (hs : s ≤ 65536) (hn : n ≤ 100) (hf : f = 0 ∨ f = 1) (hx : n < nx) :
    ((mkS k ph nx sents mt ev).step (sB k s n f)).2 ≠ 0 := by
  have hc : (sB k s n f).chk = 0 := chkB (by decide) rfl (by simp; omega)
  have hat : (sB k s n f).at 0 = k := rfl
  have h1 : (((mkS k ph nx sents mt ev).sp k).step (sB k s n f)).2 = 10 := by
    rw [mkS_sp h, SpM.step2 rfl]
    have a1 : (sB k s n f).at 1 = n := rfl
    unfold SpM.send
    rw [if_pos (by left; rw [a1]; exact hx)]
  have h2 := step_bad (s := mkS k ph nx sents mt ev) hc (mkS_cut h) ⟨by show (2 : Int) ≤ 2; decide, by show (2 : Int) ≤ 7; decide⟩ (by rw [hat]; omega) (by rw [hat, Int.toNat_natCast, h1]; decide)
  rw [h2, hat, Int.toNat_natCast, h1]
  decide
/-- acked or lost: one that is on its way -/
theorem mkS_gone {k : Nat} {ph nx ev n kd : Int} {r : List Int} {sents : List PkM} {mt : List Int} {i : Nat} (h : k < 3) (hk : kd = 4 ∨ kd = 5) (hc : (evB kd (k :: n :: r)).chk = 0)
    (hi : sents.findIdx? (fun p => decide (p.num = n)) = some i) :
    (mkS k ph nx sents mt ev).step (evB kd (k :: n :: r)) = (mkS k ph nx (sents.take i ++ sents.drop (i + 1)) mt (ev + 1), 0) := by
  have hat : (evB kd (k :: n :: r)).at 0 = k := rfl
  have h1 : ((mkS k ph nx sents mt ev).sp k).step (evB kd (k :: n :: r)) = (⟨nx, sents.take i ++ sents.drop (i + 1), [], 0, false⟩, 0) := by
    rw [mkS_sp h, SpM.step45 hk]
    have a1 : (evB kd (k :: n :: r)).at 1 = n := rfl
    rw [a1]
    dsimp only
    rw [hi]
  have hkk : 2 ≤ (evB kd (k :: n :: r)).k ∧ (evB kd (k :: n :: r)).k ≤ 7 := by
    show 2 ≤ kd ∧ kd ≤ 7
    omega
  have h2 := step_ok (s := mkS k ph nx sents mt ev) hc (mkS_cut h) hkk (by rw [hat]; omega) (by rw [hat, Int.toNat_natCast, h1])
  rw [h2, hat, Int.toNat_natCast, h1]
  dsimp only
  rw [mkS_set h]
  rcases k3 h with rfl | rfl | rfl <;> rfl
theorem mkS_none {k : Nat} {ph nx ev n kd : Int} {r : List Int} {sents : List PkM} {mt : List Int} (h : k < 3) (hk : kd = 4 ∨ kd = 5) (hc : (evB kd (k :: n :: r)).chk = 0)
    (hi : sents.findIdx? (fun p => decide (p.num = n)) = none) : ((mkS k ph nx sents mt ev).step (evB kd (k :: n :: r))).2 ≠ 0 := by
  have hat : (evB kd (k :: n :: r)).at 0 = k := rfl
  have h1 : (((mkS k ph nx sents mt ev).sp k).step (evB kd (k :: n :: r))).2 = 17 := by
    rw [mkS_sp h, SpM.step45 hk]
    have a1 : (evB kd (k :: n :: r)).at 1 = n := rfl
    rw [a1]
    dsimp only
    rw [hi]
  have hkk : 2 ≤ (evB kd (k :: n :: r)).k ∧ (evB kd (k :: n :: r)).k ≤ 7 := by
    show 2 ≤ kd ∧ kd ≤ 7
    omega
  have h2 := step_bad (s := mkS k ph nx sents mt ev) hc (mkS_cut h) hkk (by rw [hat]; omega) (by rw [hat, Int.toNat_natCast, h1]; decide)
  rw [h2, hat, Int.toNat_natCast, h1]
  decide
theorem mkC_flight {k : Nat} {ph nx ev lf : Int} {sents : List PkM} {mt ac : List Int} (h : k < 3) : (mkC k ph nx sents mt ev ac lf).st.flight = fl sents 0 := mkS_flight h
theorem mkC_ph {k : Nat} {ph nx ev lf : Int} {sents : List PkM} {mt ac : List Int} : (mkC k ph nx sents mt ev ac lf).st.ph = ph := rfl
theorem mkC_mt {k : Nat} {ph nx ev lf : Int} {sents : List PkM} {mt ac : List Int} : (mkC k ph nx sents mt ev ac lf).st.mt = mt := rfl
theorem sentM_eq {k : Nat} {ph nx ev lf s : Int} {b : Bool} {sents : List PkM} {mt ac : List Int} (h : k < 3) : sentM (mkC k ph nx sents mt ev ac lf) s b =
    if 4 ≤ ph ∨ b = true ∧ ph = 3 then 5 else if b = true ∧ lf = 0 ∧ (mt.getD 4 0 < s ∨ IntKind.u64.wrap (mt.getD 4 0 - s) < fl sents 0) then 4 else 0 := by
  unfold sentM
  rw [mkC_ph, mkC_mt, mkC_flight h]
  rfl
theorem step_m {k : Nat} {ph nx ev lf w f p : Int} {sents : List PkM} {mt ac : List Int} (h : k < 3) (hw : w ≤ 1000000000) (hf : f ≤ 1000000000) (hp : p ≤ 1000000000) :
    (mkC k ph nx sents mt ev ac lf).step (mB w f p) = (mkC k ph nx sents [1, 1, 1, 1, w, f, 1048576, p] (ev + 1) ac (if mt.getD 7 0 < p then 2 else lf), if f ≠ fl sents 0 then 3 else 0) := by
  have hc : (mB w f p).chk = 0 := chkB (by decide) rfl (by simp; omega)
  have h1 := mkS_mt (ph := ph) (nx := nx) (ev := ev) (sents := sents) (mt := mt) h hc
  have h2 : ((mkC k ph nx sents mt ev ac lf).st.step (mB w f p)) = (mkS k ph nx sents [1, 1, 1, 1, w, f, 1048576, p] (ev + 1), 0) := h1
  rw [step_post (by unfold CkM.pre; rw [if_neg (by show ¬ (8 : Int) = 1; decide), if_neg (by show ¬ (8 : Int) = 5; decide), if_neg (by show ¬ (8 : Int) = 2; decide)]) (by rw [h2]), h2]
  unfold CkM.post
  rw [if_neg (by show ¬ (8 : Int) = 4; decide), if_neg (by show ¬ (8 : Int) = 2; decide), if_pos (by show (8 : Int) = 8; rfl)]
  dsimp only
  rw [mkS_flight h, mkC_mt]
  rfl
theorem pre_s {k : Nat} {c : CkM} {s n f : Int} : c.pre (sB k s n f) = sentM c s (decide (f = 1)) := by
  unfold CkM.pre
  rw [if_neg (by show ¬ (2 : Int) = 1; decide), if_neg (by show ¬ (2 : Int) = 5; decide), if_pos (by show (2 : Int) = 2; rfl)]
  rfl
theorem step_s {k : Nat} {ph nx ev lf s n f : Int} {sents : List PkM} {mt ac : List Int} (h : k < 3) (hs : s ≤ 65536) (hn : n ≤ 100) (hf : f = 0 ∨ f = 1) (hx : nx ≤ n)
    (hS : sentM (mkC k ph nx sents mt ev ac lf) s (decide (f = 1)) = 0) :
    (mkC k ph nx sents mt ev ac lf).step (sB k s n f) = (mkC k ph (n + 1) (if f = 1 then sents ++ [⟨n, s, decide (f = 1), decide (f = 1)⟩] else sents) mt (ev + 1) ac (if f = 1 ∧ 0 < lf then lf - 1 else lf), 0) := by
  have h2 : ((mkC k ph nx sents mt ev ac lf).st.step (sB k s n f)) = (mkS k ph (n + 1) (if f = 1 then sents ++ [⟨n, s, decide (f = 1), decide (f = 1)⟩] else sents) mt (ev + 1), 0) := mkS_sent h hs hn hf hx
  rw [step_post (pre_s.trans hS) (by rw [h2]), h2]
  unfold CkM.post
  rw [if_neg (by show ¬ (2 : Int) = 4; decide), if_pos (by show (2 : Int) = 2; rfl)]
  rfl
theorem step_s_bad {k : Nat} {c : CkM} {s n f v : Int} (hS : sentM c s (decide (f = 1)) = v) (hv : v ≠ 0) : c.step (sB k s n f) = (c, v) := step_pre (pre_s.trans hS) hv
theorem step_s_low {k : Nat} {ph nx ev lf s n f : Int} {sents : List PkM} {mt ac : List Int} (h : k < 3) (hs : s ≤ 65536) (hn : n ≤ 100) (hf : f = 0 ∨ f = 1) (hx : n < nx)
    (hS : sentM (mkC k ph nx sents mt ev ac lf) s (decide (f = 1)) = 0) : (mkC k ph nx sents mt ev ac lf).step (sB k s n f) = (mkC k ph nx sents mt ev ac lf, 1) :=
  step_fold (pre_s.trans hS) (mkS_sent_low h hs hn hf hx)
theorem pre_a {c : CkM} {n : List Int} : c.pre (evB 4 n) = 0 := by
  unfold CkM.pre
  rw [if_neg (by show ¬ (4 : Int) = 1; decide), if_neg (by show ¬ (4 : Int) = 5; decide), if_neg (by show ¬ (4 : Int) = 2; decide)]
theorem step_a {k i : Nat} {ph nx ev lf n : Int} {sents : List PkM} {mt ac : List Int} (h : k < 3) (hn : n ≤ 100) (hi : sents.findIdx? (fun p => decide (p.num = n)) = some i) :
    (mkC k ph nx sents mt ev ac lf).step (evB 4 [k, n]) = (mkC k ph nx (sents.take i ++ sents.drop (i + 1)) mt (ev + 1) (ac.set k (max (ac.getD k 0) n)) lf, 0) := by
  have h2 : ((mkC k ph nx sents mt ev ac lf).st.step (evB 4 [k, n])) = (mkS k ph nx (sents.take i ++ sents.drop (i + 1)) mt (ev + 1), 0) := mkS_gone h (.inl rfl) (chkB (by decide) rfl (by simp; omega)) hi
  rw [step_post pre_a (by rw [h2]), h2]
  unfold CkM.post
  rw [if_pos (by show (4 : Int) = 4; rfl)]
  rfl
theorem step_a_none {k : Nat} {ph nx ev lf n : Int} {sents : List PkM} {mt ac : List Int} (h : k < 3) (hn : n ≤ 100) (hi : sents.findIdx? (fun p => decide (p.num = n)) = none) :
    (mkC k ph nx sents mt ev ac lf).step (evB 4 [k, n]) = (mkC k ph nx sents mt ev ac lf, 1) :=
  step_fold pre_a (mkS_none h (.inl rfl) (chkB (by decide) rfl (by simp; omega)) hi)
theorem pre_l {c : CkM} {a b d : Int} : c.pre (evB 5 [a, b, d]) = if lostM c.ac a b d = true then 0 else 2 := by
  unfold CkM.pre
  rw [if_neg (by show ¬ (5 : Int) = 1; decide), if_pos (by show (5 : Int) = 5; rfl)]
  rfl
theorem step_l {k i : Nat} {ph nx ev lf n d : Int} {sents : List PkM} {mt ac : List Int} (h : k < 3) (hn : n ≤ 100) (hd : d ≤ 100) (hl : lostM ac k n d = true) (hi : sents.findIdx? (fun p => decide (p.num = n)) = some i) :
    (mkC k ph nx sents mt ev ac lf).step (evB 5 [k, n, d]) = (mkC k ph nx (sents.take i ++ sents.drop (i + 1)) mt (ev + 1) ac lf, 0) := by
  have h2 : ((mkC k ph nx sents mt ev ac lf).st.step (evB 5 [k, n, d])) = (mkS k ph nx (sents.take i ++ sents.drop (i + 1)) mt (ev + 1), 0) := mkS_gone h (.inr rfl) (chkB (by decide) rfl (by simp; omega)) hi
  rw [step_post (by rw [pre_l]; exact if_pos hl) (by rw [h2]), h2]
  unfold CkM.post
  rw [if_neg (by show ¬ (5 : Int) = 4; decide), if_neg (by show ¬ (5 : Int) = 2; decide), if_neg (by show ¬ (5 : Int) = 8; decide), if_neg (by show ¬ (5 : Int) = 9; decide)]
  rfl
theorem step_l_none {k : Nat} {ph nx ev lf n d : Int} {sents : List PkM} {mt ac : List Int} (h : k < 3) (hn : n ≤ 100) (hd : d ≤ 100) (hl : lostM ac k n d = true) (hi : sents.findIdx? (fun p => decide (p.num = n)) = none) :
    (mkC k ph nx sents mt ev ac lf).step (evB 5 [k, n, d]) = (mkC k ph nx sents mt ev ac lf, 1) :=
  step_fold (by rw [pre_l]; exact if_pos hl) (mkS_none h (.inr rfl) (chkB (by decide) rfl (by simp; omega)) hi)
theorem step_l_bad {c : CkM} {a n d : Int} (hl : lostM c.ac a n d = false) : c.step (evB 5 [a, n, d]) = (c, 2) :=
  step_pre (by rw [pre_l, hl]; rfl) (by decide)
theorem pre_p {c : CkM} {v : Int} : c.pre (evB 1 [v]) = if v < c.st.ph then 5 else 0 := by
  unfold CkM.pre
  rw [if_pos (by show (1 : Int) = 1; rfl)]
  rfl
theorem step_p {k : Nat} {ph nx ev lf v : Int} {sents : List PkM} {mt ac : List Int} (h : k < 3) (hv : v ≤ 100) (hx : ¬ v < ph) :
    (mkC k ph nx sents mt ev ac lf).step (evB 1 [v]) = (mkC k v nx sents mt (ev + 1) ac lf, 0) := by
  have h2 : ((mkC k ph nx sents mt ev ac lf).st.step (evB 1 [v])) = (mkS k v nx sents mt (ev + 1), 0) := mkS_ph h (chkB (by decide) rfl (by simp; omega))
  rw [step_post (by rw [pre_p, mkC_ph]; exact if_neg hx) (by rw [h2]), h2]
  unfold CkM.post
  rw [if_neg (by show ¬ (1 : Int) = 4; decide), if_neg (by show ¬ (1 : Int) = 2; decide), if_neg (by show ¬ (1 : Int) = 8; decide), if_neg (by show ¬ (1 : Int) = 9; decide)]
  rfl
theorem step_p_bad {k : Nat} {ph nx ev lf v : Int} {sents : List PkM} {mt ac : List Int} (hx : v < ph) : ((mkC k ph nx sents mt ev ac lf).step (evB 1 [v])).2 = 5 := by
  rw [step_pre (v := 5) (by rw [pre_p, mkC_ph]; exact if_pos hx) (by decide)]
theorem step_c {k : Nat} {ph nx ev lf a b c d : Int} {sents : List PkM} {mt ac : List Int} (h : k < 3) (ha : a ≤ 100) (hb : b ≤ 100) (hc : c ≤ 100) (hd : d ≤ 100) (hx : a < b ∨ c < d) :
    ((mkC k ph nx sents mt ev ac lf).step (evB 9 [4, a, b, c, d])).2 = 6 := by
  have hk : (evB 9 [4, a, b, c, d]).chk = 0 := chkB (by decide) rfl (by simp; omega)
  have h2 := step_st (s := (mkC k ph nx sents mt ev ac lf).st) hk (mkS_cut h) (by simp [evB])
  rw [step_post (by unfold CkM.pre; rw [if_neg (by show ¬ (9 : Int) = 1; decide), if_neg (by show ¬ (9 : Int) = 5; decide), if_neg (by show ¬ (9 : Int) = 2; decide)]) (by rw [h2])]
  unfold CkM.post
  rw [if_neg (by show ¬ (9 : Int) = 4; decide), if_neg (by show ¬ (9 : Int) = 2; decide), if_neg (by show ¬ (9 : Int) = 8; decide), if_pos (by show (9 : Int) = 9; rfl)]
  exact if_pos hx
theorem run_ok {c c' : CkM} {e : EvM} {l : List EvM} {n : Nat} {v : Int} (h : c.step e = (c', 0)) (hr : runCk c' l = (n, v)) : runCk c (e :: l) = (n + 1, v) := by
  rw [runCk, h, if_neg (by simp), hr]
theorem run_bad {c : CkM} {e : EvM} {l : List EvM} {v : Int} (h : (c.step e).2 = v) (hv : v ≠ 0) : runCk c (e :: l) = (0, v) := by
  rw [runCk, h, if_pos hv]
/-! ### the rows -/
def pB (s n : Int) : PkM := ⟨n, s, true, true⟩
def m0 (s : Int) : List Int := [1, 1, 1, 1, 6 * s, 0, 1048576, 0]
def acB (k : Nat) : List Int := [-1, -1, -1].set k 5
def c6 (k : Nat) (s : Int) : CkM := mkC k 0 6 [pB s 0, pB s 1] (m0 s) 6 (acB k) 0
theorem wrap_s {n : Int} (h : 0 ≤ n ∧ n ≤ 18446744073709551615) : IntKind.wrap .u64 n = n := wrap_q h
theorem fl_nil {v : Int} : fl [] v = v := rfl
theorem fl_cons {p : PkM} {l : List PkM} {v : Int} : fl (p :: l) v = fl l (if p.fl = true then IntKind.wrap .u64 (v + p.size) else v) := rfl
theorem fl_pB {s a v : Int} {l : List PkM} : fl (pB s a :: l) v = fl l (IntKind.wrap .u64 (v + s)) := rfl
theorem fl1 {s : Int} (h : 1 ≤ s ∧ s ≤ 65536) {a : Int} : fl [pB s a] 0 = s := by
  rw [fl_pB, fl_nil, wrap_s (by omega)]
  omega
theorem fl2 {s : Int} (h : 1 ≤ s ∧ s ≤ 65536) {a b : Int} : fl [pB s a, pB s b] 0 = 2 * s := by
  rw [fl_pB, fl_pB, fl_nil, wrap_s (n := 0 + s) (by omega), wrap_s (by omega)]
  omega
theorem fl3 {s : Int} (h : 1 ≤ s ∧ s ≤ 65536) {a b c : Int} : fl [pB s a, pB s b, pB s c] 0 = 3 * s := by
  rw [fl_pB, fl_pB, fl_pB, fl_nil, wrap_s (n := 0 + s) (by omega), wrap_s (n := 0 + s + s) (by omega), wrap_s (by omega)]
  omega
theorem fl4 {s : Int} (h : 1 ≤ s ∧ s ≤ 65536) {a b c d : Int} : fl [pB s a, pB s b, pB s c, pB s d] 0 = 4 * s := by
  rw [fl_pB, fl_pB, fl_pB, fl_pB, fl_nil, wrap_s (n := 0 + s) (by omega), wrap_s (n := 0 + s + s) (by omega), wrap_s (n := 0 + s + s + s) (by omega), wrap_s (by omega)]
  omega
theorem run_base {k : Nat} {s : Int} (h : k < 3) (hs : 1 ≤ s ∧ s ≤ 65536) {l : List EvM} {n : Nat} {v : Int} (hr : runCk (c6 k s) l = (n, v)) : runCk CkM.zero (baseB k s ++ l) = (n + 6, v) := by
  rw [mkC_zero h]
  have w5 : IntKind.u64.wrap (6 * s - s) = 5 * s := by rw [wrap_q (by omega)]; omega
  have e1 : (mkC k 0 0 [] [0, 0, 0, 0, 0, 0, 0, 0] 0 [-1, -1, -1] 0).step (mB (6 * s) 0 0) = (mkC k 0 0 [] (m0 s) 1 [-1, -1, -1] 0, 0) := by
    rw [step_m h (by omega) (by omega) (by omega)]
    rfl
  have e2 : (mkC k 0 0 [] (m0 s) 1 [-1, -1, -1] 0).step (sB k s 0 1) = (mkC k 0 1 [pB s 0] (m0 s) 2 [-1, -1, -1] 0, 0) := by
    rw [step_s h hs.2 (by omega) (.inr rfl) (by omega) (by rw [sentM_eq h, if_neg (by simp), if_neg]; show ¬ (_ ∧ _ ∧ (6 * s < s ∨ IntKind.u64.wrap (6 * s - s) < 0)); rw [w5]; omega)]
    rfl
  have e3 : (mkC k 0 1 [pB s 0] (m0 s) 2 [-1, -1, -1] 0).step (sB k s 1 1) = (mkC k 0 2 [pB s 0, pB s 1] (m0 s) 3 [-1, -1, -1] 0, 0) := by
    rw [step_s h hs.2 (by omega) (.inr rfl) (by omega) (by rw [sentM_eq h, if_neg (by simp), fl1 hs, if_neg]; show ¬ (_ ∧ _ ∧ (6 * s < s ∨ IntKind.u64.wrap (6 * s - s) < s)); rw [w5]; omega)]
    rfl
  have e4 : (mkC k 0 2 [pB s 0, pB s 1] (m0 s) 3 [-1, -1, -1] 0).step (sB k s 2 0) = (mkC k 0 3 [pB s 0, pB s 1] (m0 s) 4 [-1, -1, -1] 0, 0) := by
    rw [step_s h hs.2 (by omega) (.inl rfl) (by omega) (by rw [sentM_eq h, if_neg (by simp), if_neg (by simp)])]
    rfl
  have e5 : (mkC k 0 3 [pB s 0, pB s 1] (m0 s) 4 [-1, -1, -1] 0).step (sB k s 5 1) = (mkC k 0 6 [pB s 0, pB s 1, pB s 5] (m0 s) 5 [-1, -1, -1] 0, 0) := by
    rw [step_s h hs.2 (by omega) (.inr rfl) (by omega) (by rw [sentM_eq h, if_neg (by simp), fl2 hs, if_neg]; show ¬ (_ ∧ _ ∧ (6 * s < s ∨ IntKind.u64.wrap (6 * s - s) < 2 * s)); rw [w5]; omega)]
    rfl
  have e6 : (mkC k 0 6 [pB s 0, pB s 1, pB s 5] (m0 s) 5 [-1, -1, -1] 0).step (evB 4 [k, 5]) = (c6 k s, 0) := by
    rw [step_a (i := 2) h (by omega) rfl]
    rcases k3 h with rfl | rfl | rfl <;> rfl
  exact run_ok e1 (run_ok e2 (run_ok e3 (run_ok e4 (run_ok e5 (run_ok e6 hr)))))
theorem ac_k {k : Nat} (h : k < 3) {n d : Int} : lostM (acB k) k n d = (if (5 : Int) ≤ n then false else decide (d = 0) == decide (3 ≤ 5 - n)) := by
  rcases k3 h with rfl | rfl | rfl <;> (unfold lostM acB; simp)
theorem run_bent {k : Nat} {s : Int} (h : k < 3) (hs : 1 ≤ s ∧ s ≤ 65536) (i : Nat) : runCk (c6 k s) ((bentB k s i).1 ++ [evB 1 [5]]) = ((bentB k s i).1.length - 1, (bentB k s i).2) := by
  have w1 : IntKind.u64.wrap (2 * s - s) = s := by rw [wrap_q (by omega)]; omega
  have e5 : (c6 k s).step (mB (2 * s) (2 * s) 0) = (mkC k 0 6 [pB s 0, pB s 1] [1, 1, 1, 1, 2 * s, 2 * s, 1048576, 0] 7 (acB k) 0, 0) := by
    unfold c6
    rw [step_m h (by omega) (by omega) (by omega), fl2 hs, show (m0 s).getD 7 0 = 0 from rfl, if_neg (show ¬ ((0 : Int) < 0) by decide), if_neg (show ¬ (2 * s ≠ 2 * s) from fun h => h rfl)]
    rfl
  have e6 : (c6 k s).step (mB (2 * s) (2 * s) 1) = (mkC k 0 6 [pB s 0, pB s 1] [1, 1, 1, 1, 2 * s, 2 * s, 1048576, 1] 7 (acB k) 2, 0) := by
    unfold c6
    rw [step_m h (by omega) (by omega) (by omega), fl2 hs, show (m0 s).getD 7 0 = 0 from rfl, if_pos (show ((0 : Int) < 1) by decide), if_neg (show ¬ (2 * s ≠ 2 * s) from fun h => h rfl)]
    rfl
  unfold bentB
  split
  · exact run_bad (v := 1) (by unfold c6; rw [step_s_low h hs.2 (by omega) (.inl rfl) (by omega) (by rw [sentM_eq h, if_neg (by simp), if_neg (by simp)])]) (by decide)
  · exact run_bad (v := 1) (by unfold c6; rw [step_a_none h (by omega) rfl]) (by decide)
  · exact run_bad (v := 2) (by rw [step_l_bad (by show lostM (acB k) k 1 1 = false; rw [ac_k h]; rfl)]) (by decide)
  · exact run_bad (v := 2) (by rw [step_l_bad (by show lostM (acB k) k 6 0 = false; rw [ac_k h]; rfl)]) (by decide)
  · exact run_bad (v := 3) (by unfold c6; rw [step_m h (by omega) (by omega) (by omega), fl2 hs]; exact if_pos (by omega)) (by decide)
  · refine run_ok e5 (run_bad (v := 4) ?_ (by decide))
    rw [step_s_bad (v := 4) (by rw [sentM_eq h, if_neg (by simp), fl2 hs, if_pos]; show (_ ∧ _ ∧ (2 * s < s ∨ IntKind.u64.wrap (2 * s - s) < 2 * s)); rw [w1]; exact ⟨rfl, rfl, by omega⟩) (by decide)]
  · have f1 : (mkC k 0 6 [pB s 0, pB s 1] [1, 1, 1, 1, 2 * s, 2 * s, 1048576, 1] 7 (acB k) 2).step (sB k s 6 1) = (mkC k 0 7 [pB s 0, pB s 1, pB s 6] [1, 1, 1, 1, 2 * s, 2 * s, 1048576, 1] 8 (acB k) 1, 0) := by
      rw [step_s h hs.2 (by omega) (.inr rfl) (by omega) (by rw [sentM_eq h, if_neg (by simp), if_neg (by simp)])]
      rfl
    have f2 : (mkC k 0 7 [pB s 0, pB s 1, pB s 6] [1, 1, 1, 1, 2 * s, 2 * s, 1048576, 1] 8 (acB k) 1).step (sB k s 7 1) = (mkC k 0 8 [pB s 0, pB s 1, pB s 6, pB s 7] [1, 1, 1, 1, 2 * s, 2 * s, 1048576, 1] 9 (acB k) 0, 0) := by
      rw [step_s h hs.2 (by omega) (.inr rfl) (by omega) (by rw [sentM_eq h, if_neg (by simp), if_neg (by simp)])]
      rfl
    refine run_ok e6 (run_ok f1 (run_ok f2 (run_bad (v := 4) ?_ (by decide))))
    rw [step_s_bad (v := 4) (by rw [sentM_eq h, if_neg (by simp), fl4 hs, if_pos]; show (_ ∧ _ ∧ (2 * s < s ∨ IntKind.u64.wrap (2 * s - s) < 4 * s)); rw [w1]; exact ⟨rfl, rfl, by omega⟩) (by decide)]
  · have f1 : (c6 k s).step (evB 1 [3]) = (mkC k 3 6 [pB s 0, pB s 1] (m0 s) 7 (acB k) 0, 0) := by
      unfold c6
      rw [step_p h (by omega) (by omega)]
      rfl
    have f2 : (mkC k 3 6 [pB s 0, pB s 1] (m0 s) 7 (acB k) 0).step (sB k s 6 0) = (mkC k 3 7 [pB s 0, pB s 1] (m0 s) 8 (acB k) 0, 0) := by
      rw [step_s h hs.2 (by omega) (.inl rfl) (by omega) (by rw [sentM_eq h, if_neg (by simp), if_neg (by simp)])]
      rfl
    refine run_ok f1 (run_ok f2 (run_bad (v := 5) ?_ (by decide)))
    rw [step_s_bad (v := 5) (by rw [sentM_eq h, if_pos (by simp)]) (by decide)]
  · have f1 : (c6 k s).step (evB 1 [4]) = (mkC k 4 6 [pB s 0, pB s 1] (m0 s) 7 (acB k) 0, 0) := by
      unfold c6
      rw [step_p h (by omega) (by omega)]
      rfl
    refine run_ok f1 (run_bad (v := 5) ?_ (by decide))
    rw [step_s_bad (v := 5) (by rw [sentM_eq h, if_pos (by simp)]) (by decide)]
  · have f1 : (c6 k s).step (evB 1 [2]) = (mkC k 2 6 [pB s 0, pB s 1] (m0 s) 7 (acB k) 0, 0) := by
      unfold c6
      rw [step_p h (by omega) (by omega)]
      rfl
    exact run_ok f1 (run_bad (step_p_bad (by omega)) (by decide))
  · exact run_bad (step_c h (by omega) (by omega) (by omega) (by omega) (by omega)) (by decide)
  · exact run_bad (step_c h (by omega) (by omega) (by omega) (by omega) (by omega)) (by decide)
  · have f1 : (c6 k s).step (evB 5 [k, 0, 0]) = (mkC k 0 6 [pB s 1] (m0 s) 7 (acB k) 0, 0) := by
      unfold c6
      rw [step_l (i := 0) h (by omega) (by omega) (by rw [ac_k h]; rfl) rfl]
      rfl
    exact run_ok f1 (run_bad (v := 1) (by rw [step_l_none h (by omega) (by omega) (by rw [ac_k h]; rfl) rfl]) (by decide))
end Go.Proofs.Ytckdhelnafjddaa
