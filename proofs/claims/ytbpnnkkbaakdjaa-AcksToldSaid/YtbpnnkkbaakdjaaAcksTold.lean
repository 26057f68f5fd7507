/- AcksTold: whatever the input it returns true, and the input reads as it did. Conditions: none. -/
import Derived.Test.YtbpnnkkbaakdjaaAcksLaw
import Derived.Test.YtbpnnkkbaakdjaaFrLaw
import Derived.Test.YtbpnnkkbaakdjaaForm
namespace Go.Proofs.Ytbpnnkkbaakdjaa.lawAcksTold
open Go Go.Sl Go.Proofs Go.RowKit Go.ChangeShapes Go.WideShapes Go.ChangeAt Go.Proofs.Ytbpnnkkbaakdjaa
set_option maxRecDepth 20000
set_option linter.unusedVariables false
set_option linter.unusedSimpArgs false

/-! ### Plainly -/
structure Keeps (m : CameM) (S : Int → Prop) : Prop where
  good : Good m.l
  len : m.l.length ≤ 32
  mem : ∀ k, InR m.l k → S k
  below : 0 ≤ m.below ∧ m.below ≤ 300
  at_ : inU m.at_
  low : m.l = [] → m.below = 0
theorem Keeps.wf {m : CameM} {S : Int → Prop} (h : Keeps m S) : m.WF := ⟨h.good, h.len, by have := h.below; omega⟩
theorem first_a {l : List Rg} (hg : Good l) (hb : ∀ k, InR l k → 0 ≤ k ∧ k < 300) : 0 ≤ (firstR l 0).1.a ∧ (firstR l 0).1.a ≤ 300 := by
  have hB := in_bounds hg hb
  unfold firstR
  split
  · rename_i h
    have h1 := hB _ (List.getElem_mem h)
    have h2 := hg.1 _ (List.getElem_mem h)
    obtain ⟨h3, h4, h5⟩ := h2
    dsimp only
    omega
  · simp
theorem Keeps.add {m : CameM} {S : Int → Prop} (h : Keeps m S) (hS : ∀ k, S k → 0 ≤ k ∧ k < 300) {n now : Int} (hn : 0 ≤ n ∧ n < 300) (hnow : inU now) : Keeps (m.add n now true).1 (fun k => S k ∨ k = n) ∧ (m.add n now true).1.l ≠ [] := by
  unfold CameM.add
  rw [if_neg (by omega)]
  by_cases h1 : (decide (n < m.below) || hasR m.l n) = true
  · rw [if_pos h1]
    refine ⟨⟨h.good, h.len, fun k hk => .inl (h.mem k hk), h.below, h.at_, h.low⟩, fun h2 => ?_⟩
    dsimp only at h2
    have h3 := h.low h2
    rw [h3, h2] at h1
    simp [hasR] at h1
    omega
  · rw [if_neg h1]
    have hrg : RgIn ⟨n, n + 1⟩ := ⟨by dsimp only; omega, by dsimp only; omega⟩
    obtain ⟨g1, g2, g3⟩ := add_spec h.good (hrg.ok (by dsimp only; omega))
    have hal : ((⟨32, m.l⟩ : SetM).addLast ⟨n, n + 1⟩).1.l = (addL m.l ⟨n, n + 1⟩).drop (max (((addL m.l ⟨n, n + 1⟩).length : Int) - max 32 1) 0).toNat := by
      unfold SetM.addLast
      rw [if_neg (by dsimp only; omega)]
    have hne : (addL m.l ⟨n, n + 1⟩) ≠ [] := fun h0 => by
      have h2 := (g2 n).2 (.inr ⟨by dsimp only; omega, by dsimp only; omega⟩)
      rw [h0] at h2
      obtain ⟨r, hr, _⟩ := h2
      simp at hr
    have hpos : 0 < (addL m.l ⟨n, n + 1⟩).length := List.length_pos_iff.2 hne
    have hmem : ∀ k, InR ((addL m.l ⟨n, n + 1⟩).drop (max (((addL m.l ⟨n, n + 1⟩).length : Int) - max 32 1) 0).toNat) k → S k ∨ k = n := fun k hk => by
      obtain ⟨r, hr, h4⟩ := hk
      rcases (g2 k).1 ⟨r, List.mem_of_mem_drop hr, h4⟩ with h5 | h5
      · exact .inl (h.mem k h5)
      · dsimp only at h5; exact .inr (by omega)
    have hgd := g1.drop (max (((addL m.l ⟨n, n + 1⟩).length : Int) - max 32 1) 0).toNat
    have hK : Keeps (m.put n) (fun k => S k ∨ k = n) := by
      unfold CameM.put
      refine ⟨by dsimp only; rw [hal]; exact hgd, by dsimp only; rw [hal, List.length_drop]; omega, fun k hk => ?_, ?_, h.at_, fun h0 => ?_⟩
      · dsimp only at hk
        rw [hal] at hk
        exact hmem k hk
      · dsimp only
        split
        · rw [hal]
          exact first_a hgd fun k hk => by
            rcases hmem k hk with h5 | h5
            · exact hS k h5
            · omega
        · exact h.below
      · dsimp only at h0
        rw [hal] at h0
        have := congrArg List.length h0
        rw [List.length_drop, List.length_nil] at this
        omega
    have hpl : (m.put n).l ≠ [] := fun h0 => by
      unfold CameM.put at h0
      dsimp only at h0
      rw [hal] at h0
      have := congrArg List.length h0
      rw [List.length_drop, List.length_nil] at this
      omega
    have hM : Keeps ((m.put n).mark n now) (fun k => S k ∨ k = n) ∧ ((m.put n).mark n now).l ≠ [] := by
      unfold CameM.mark
      split
      · exact ⟨hK, hpl⟩
      · exact ⟨⟨hK.good, hK.len, hK.mem, hK.below, hnow, hK.low⟩, hpl⟩
    dsimp only
    rw [if_pos rfl]
    unfold CameM.want
    exact ⟨⟨hM.1.good, hM.1.len, hM.1.mem, hM.1.below, hM.1.at_, hM.1.low⟩, hM.2⟩
theorem wRg_good : ∀ {l : List Rg} {p : Rg} {L : List UInt8}, Falls p l → (wRg (L, 0) p l).2 = 0
  | [], _, _, _ => rfl
  | r :: l, p, L, h => by
    unfold wRg
    have h1 := h.lt
    have h2 := h.2.lt
    have h3 := h.2.pos
    rw [wI_good (fun n hn => by
      simp only [List.mem_cons, List.not_mem_nil, or_false] at hn
      have := h.1.2.2
      rcases hn with rfl | rfl <;> omega)]
    exact wRg_good h.2
theorem ack_can {l : List Rg} {dl : Int} (hg : Good l) (h0 : l ≠ []) (hl : l.length ≤ 32) (hb : ∀ k, InR l k → 0 ≤ k ∧ k < 300) (hd : 0 ≤ dl ∧ dl < 4611686018427387904) : CanF (ackM 2 dl l) ∧ (ackM 2 dl l).ok := by
  have hB := in_bounds hg hb
  have hup : RgUp l := by
    refine ⟨List.length_pos_iff.2 h0, hl, fun i h => (hg.1 _ (List.getElem_mem h)).2.1, fun i h => ?_⟩
    have h2 := (List.pairwise_iff_getElem.1 hg.2) i (i + 1) (by omega) h (by omega)
    exact h2
  have hin : ∀ r ∈ l, RgIn r := fun r hr => (hg.1 r hr).inn
  have hok : (ackM 2 dl l).ok := ⟨(⟨by decide, by decide⟩ : (0 : Int) ≤ 2 ∧ (2 : Int) ≤ 255), inU0, inU0, inU0, inU0, hin, (by show 0 ≤ dl ∧ dl ≤ _; omega), inU0, inU0, inU0, inU0, inU0, rfl, rfl⟩
  have hk : (ackM 2 dl l).k = 2 := rfl
  refine ⟨⟨⟨?_, fun _ => hup, fun h => ?_, fun h => ?_, fun h => ?_, fun h => ?_, fun h => ?_⟩, ?_⟩, hok⟩
  · omega
  · omega
  · omega
  · omega
  · omega
  · omega
  · have hw : wAll ([], 0) (ackM 2 dl l) = wAck (wI ([], 0) [2]) (ackM 2 dl l) := rfl
    rw [hw, wI_good (fun n hn => by simp at hn; omega)]
    cases hr : l.reverse with
    | nil =>
      have := congrArg List.length hr
      rw [List.length_reverse, List.length_nil] at this
      exact absurd (List.eq_nil_of_length_eq_zero this) h0
    | cons p t =>
      have hF := falls_of hup hin (fun r hr => by have := hB r hr; omega) hr
      have hp : p ∈ l := by rw [← List.mem_reverse, hr]; simp
      have hbp := hB p hp
      have hlt := hF.lt
      have h2 : wAck ([] ++ encAll [2], 0) (ackM 2 dl l) = wRg (wI ([] ++ encAll [2], 0) [p.b - 1, dl, ((l.length : Int) - 1), p.b - p.a - 1]) p t := by
        unfold wAck
        show (match l.reverse with | [] => _ | p :: l' => _) = _
        rw [hr]
        rfl
      rw [h2, wI_good (fun n hn => by
        simp only [List.mem_cons, List.not_mem_nil, or_false] at hn
        rcases hn with rfl | rfl | rfl | rfl <;> omega)]
      exact wRg_good hF

/-! ### The frame of what came -/
def ackP (ra : Option Addr) (rc : Nat) : FrP := ⟨none, 0, ra, rc, none, 0⟩
theorem b_ack {l : List Rg} {k' : Nat} {v : Option Addr} : Build Try.prog 114 #[(0, .int .u8 2), (7, .slice v l.length k')] (.agg ((ackM 2 0 l).cells (ackP v k')).toArray) := fun w => by kernel_rfl
theorem b_fr0 : Build Try.prog 114 #[] (.agg ((FrM.zero 0).cells FrP.nil).toArray) := fun w => by kernel_rfl
set_option maxHeartbeats 4000000 in
theorem acksFrame_c {B : Nat} {w0 : World} {G : List Hp} {m : CameM} {b : Nat} {c : Hp} {now : Int} (hO : CameAt m b c) (hs : Sub c G) (hw : m.WF) (hnow : inU now) (hat : inU m.at_) :
    Go.Sl.Fn Try.prog 65 #[.pointer (some ⟨b, 0, none⟩), .int .u64 now] B w0 G fun u G' => ∃ x : Value × Bool × Option Addr × Nat × Hp, u = .tuple #[x.1, .bool x.2.1] ∧ ((x.2.1 = false ∧ m.l = [] ∧ x.1 = .agg ((FrM.zero 0).cells FrP.nil).toArray) ∨ (x.2.1 = true ∧ m.l ≠ [] ∧ x.1 = .agg ((ackM 2 (if m.at_ < now then now - m.at_ else 0) m.l).cells (ackP x.2.2.1 x.2.2.2.1)).toArray ∧ Ls enR 28 (.slice x.2.2.1 m.l.length x.2.2.2.1) x.2.2.2.2 m.l)) ∧ G' = [x.2.2.2.2] ++ G := by
  refine Fn.new (V := fun x : Value × Bool × Option Addr × Nat × Hp => .tuple #[x.1, .bool x.2.1]) (Nw := fun x => [x.2.2.2.2]) ?_
  obtain ⟨bs, cs, rfl, hS⟩ := hO
  have hs1 := hs.left
  have hs2 := hs.right
  unfold inU at hnow hat
  have hlz : ((FrM.zero 0).cells FrP.nil).length = 39 := rfl
  have hoz : ∀ u ∈ (FrM.zero 0).cells FrP.nil, u.oneCell' = true := FrM.cells_one
  refine fn_enter Try.func65 rfl (by kernel_rfl) Try.ntmps65 (by simp) ?_
  refine Go.Sl.cw_seq ?_
  refine Go.Sl.cw_region ?_
  (refine Go.Sl.ow_alloc rfl rfl Ty.ze114 ?_; intro b4)
  refine Go.Sl.ow_val rfl rfl (Go.Sl.v_assign rfl) ?_
  refine Go.Sl.ow_nil ?_
  refine Go.Sl.xw_then ?_
  refine Go.Sl.cw_seq ?_
  refine Go.Sl.cw_seq ?_
  refine Go.Sl.cw_region ?_
  refine Go.Sl.ow_val rfl rfl (Go.Sl.v_move rfl) ?_
  refine Go.Sl.ow_val rfl rfl (Go.Sl.v_eql_nil_some Try.underlying79 rfl) ?_
  refine Go.Sl.ow_val rfl rfl (Go.Sl.v_move rfl) ?_
  refine Go.Sl.ow_val rfl rfl (Go.Sl.v_move rfl) ?_
  refine Go.Sl.ow_val rfl rfl (Go.Sl.v_nilCheck rfl) ?_
  refine Go.Sl.ow_val rfl rfl (Go.Sl.v_fieldAddr0 Ty.fd141_1 rfl) ?_
  refine Go.Sl.ow_val rfl rfl (Go.Sl.v_load rfl (Go.Sl.Var.sub1 Ty.sc25 (by repeat (first | assumption | refine Go.Sl.Sub.there ?_)) (.head _) (Go.Sl.GetN.lit rfl))) ?_
  refine Go.Sl.ow_val rfl rfl (Go.Sl.v_call rfl rfl (setLen_l hS (by repeat (first | exact Go.Sl.Sub.here | assumption | refine Go.Sl.Sub.there ?_)))) ?_
  refine Go.Sl.ow_val rfl rfl (Go.Sl.v_eql rfl rfl) ?_
  refine Go.Sl.ow_val rfl rfl (Go.Sl.v_pick_false rfl rfl) ?_
  refine Go.Sl.ow_nil ?_
  refine Go.Sl.xw_then ?_
  refine Go.Sl.cw_dec rfl (fun hc16 => ?_) (fun hc16 => ?_)
  refine Go.Sl.cw_seq ?_
  refine Go.Sl.cw_region ?_
  refine Go.Sl.ow_val rfl rfl (Go.Sl.v_build rfl (b_fr0)) ?_
  refine Go.Sl.ow_storeN rfl rfl rfl Ty.ag114 (by first | rfl | assumption) (by first | assumption | simp) .here ((SetN.all hlz)) ?_
  refine Go.Sl.ow_val rfl rfl (Go.Sl.v_assign rfl) ?_
  refine Go.Sl.ow_nil ?_
  refine Go.Sl.xw_then ?_
  refine Go.Sl.cw_ret ?_
  refine Go.Sl.xw_then_ret ?_
  refine Go.Sl.ret2 rfl (Go.Sl.res_cell rfl (Go.Sl.Var.atN Ty.ag114 .here Go.Sl.GetN.all (by first | rfl | assumption))) (Go.Sl.res_tmp rfl) ?_
  rotate_left
  refine Go.Sl.cw_skip ?_
  refine Go.Sl.xw_then ?_
  refine Go.Sl.cw_seq ?_
  refine Go.Sl.cw_region ?_
  refine Go.Sl.ow_val rfl rfl (Go.Sl.v_move rfl) ?_
  refine Go.Sl.ow_val rfl rfl (Go.Sl.v_nilCheck rfl) ?_
  refine Go.Sl.ow_val rfl rfl (Go.Sl.v_fieldAddr0 Ty.fd141_1 rfl) ?_
  refine Go.Sl.ow_val rfl rfl (Go.Sl.v_load rfl (Go.Sl.Var.sub1 Ty.sc25 (by repeat (first | assumption | refine Go.Sl.Sub.there ?_)) (.head _) (Go.Sl.GetN.lit rfl))) ?_
  (refine Go.Sl.ow_call rfl rfl rfl rfl (setList_l hS (by repeat (first | exact Go.Sl.Sub.here | assumption | refine Go.Sl.Sub.there ?_)) hw.set) ?_; rintro _ _ ⟨x22, rfl, hq22, rfl⟩)
  refine Go.Sl.ow_val rfl rfl (Go.Sl.v_build rfl (b_ack)) ?_
  (refine Go.Sl.ow_alloc rfl rfl Ty.ze114 ?_; intro b6)
  rotate_left
  · exact ⟨(_, false, none, 0, []), rfl, .inl ⟨rfl, List.eq_nil_of_length_eq_zero (by omega), rfl⟩, (by first | exact Go.Sl.Cov.refl _ | (intro p; simp only [List.flatten_cons, List.flatten_nil, List.flatten_append, List.append_nil, List.nil_append, Go.Sl.cnt_append, Go.Sl.cnt_cons, Go.Sl.cnt_nil, List.set_cons_zero, List.set_cons_succ, List.length_nil, List.length_cons, Nat.zero_add, List.append]; omega))⟩
  obtain ⟨ra, rc, cr⟩ := x22
  dsimp only at hq22 ⊢
  have hla : ((ackM 2 0 m.l).cells (ackP ra rc)).length = 39 := rfl
  have hoa : ∀ u ∈ (ackM 2 0 m.l).cells (ackP ra rc), u.oneCell' = true := FrM.cells_one
  have hl8 : (((ackM 2 0 m.l).cells (ackP ra rc)).set 8 (.int .u64 (now - m.at_))).length = 39 := rfl
  have ho8 : ∀ u ∈ ((ackM 2 0 m.l).cells (ackP ra rc)).set 8 (.int .u64 (now - m.at_)), u.oneCell' = true := (show ∀ u ∈ (ackM 2 (now - m.at_) m.l).cells (ackP ra rc), u.oneCell' = true from FrM.cells_one)
  have hne : m.l ≠ [] := fun h => by rw [h] at hc16; simp at hc16
  refine Go.Sl.ow_storeN rfl rfl rfl Ty.ag114 (by first | rfl | assumption) (by first | assumption | simp) .here ((SetN.all hla)) ?_
  refine Go.Sl.ow_nil ?_
  refine Go.Sl.xw_then ?_
  refine Go.Sl.cw_seq ?_
  refine Go.Sl.cw_seq ?_
  refine Go.Sl.cw_region ?_
  refine Go.Sl.ow_val rfl rfl (Go.Sl.v_move rfl) ?_
  refine Go.Sl.ow_val rfl rfl (Go.Sl.v_move rfl) ?_
  refine Go.Sl.ow_val rfl rfl (Go.Sl.v_nilCheck rfl) ?_
  refine Go.Sl.ow_val rfl rfl (Go.Sl.v_fieldAddr0 Ty.fd141_5 rfl) ?_
  refine Go.Sl.ow_val rfl rfl (Go.Sl.v_load rfl (Go.Sl.Var.sub1 Ty.sc23 (by repeat (first | assumption | refine Go.Sl.Sub.there ?_)) (.head _) (Go.Sl.GetN.lit rfl))) ?_
  refine Go.Sl.ow_val rfl rfl (Go.Sl.v_gtr rfl rfl) ?_
  refine Go.Sl.ow_nil ?_
  refine Go.Sl.xw_then ?_
  refine Go.Sl.cw_dec rfl (fun hc29 => ?_) (fun hc29 => ?_)
  refine Go.Sl.cw_region ?_
  refine Go.Sl.ow_val rfl rfl (Go.Sl.v_move rfl) ?_
  refine Go.Sl.ow_val rfl rfl (Go.Sl.v_move rfl) ?_
  refine Go.Sl.ow_val rfl rfl (Go.Sl.v_nilCheck rfl) ?_
  refine Go.Sl.ow_val rfl rfl (Go.Sl.v_fieldAddr0 Ty.fd141_5 rfl) ?_
  refine Go.Sl.ow_val rfl rfl (Go.Sl.v_load rfl (Go.Sl.Var.sub1 Ty.sc23 (by repeat (first | assumption | refine Go.Sl.Sub.there ?_)) (.head _) (Go.Sl.GetN.lit rfl))) ?_
  refine Go.Sl.ow_val rfl rfl (Go.Sl.v_sub rfl rfl (Go.Sl.nw_u64 (by omega) (by omega))) ?_
  refine Go.Sl.ow_val rfl rfl (Go.Sl.v_fieldAddr0 Ty.fd114_8 rfl) ?_
  refine Go.Sl.ow_store1 rfl rfl rfl rfl Ty.sc23 .here (Go.Sl.SetN.one (by first | decide | exact Nat.le_of_ble_eq_true rfl)) ?_
  refine Go.Sl.ow_nil ?_
  refine Go.Sl.xw_then ?_
  refine Go.Sl.cw_seq ?_
  refine Go.Sl.cw_region ?_
  refine Go.Sl.ow_val rfl rfl (Go.Sl.v_load rfl (Go.Sl.Var.atN Ty.ag114 .here Go.Sl.GetN.all (by first | rfl | assumption))) ?_
  refine Go.Sl.ow_storeN rfl rfl rfl Ty.ag114 (by first | rfl | assumption) (by first | assumption | simp) (.there (.there .here)) ((SetN.all hla)) ?_
  refine Go.Sl.ow_val rfl rfl (Go.Sl.v_assign rfl) ?_
  refine Go.Sl.ow_nil ?_
  refine Go.Sl.xw_then ?_
  refine Go.Sl.cw_ret ?_
  refine Go.Sl.ret2 rfl (Go.Sl.res_cell rfl (Go.Sl.Var.atN Ty.ag114 (.there (.there .here)) Go.Sl.GetN.all (by first | rfl | assumption))) (Go.Sl.res_tmp rfl) ?_
  rotate_left
  refine Go.Sl.cw_skip ?_
  refine Go.Sl.xw_then ?_
  refine Go.Sl.cw_seq ?_
  refine Go.Sl.cw_region ?_
  refine Go.Sl.ow_val rfl rfl (Go.Sl.v_load rfl (Go.Sl.Var.atN Ty.ag114 .here Go.Sl.GetN.all (by first | rfl | assumption))) ?_
  refine Go.Sl.ow_storeN rfl rfl rfl Ty.ag114 (by first | rfl | assumption) (by first | assumption | simp) (.there (.there .here)) ((SetN.all hla)) ?_
  refine Go.Sl.ow_val rfl rfl (Go.Sl.v_assign rfl) ?_
  refine Go.Sl.ow_nil ?_
  refine Go.Sl.xw_then ?_
  refine Go.Sl.cw_ret ?_
  refine Go.Sl.ret2 rfl (Go.Sl.res_cell rfl (Go.Sl.Var.atN Ty.ag114 (.there (.there .here)) Go.Sl.GetN.all (by first | rfl | assumption))) (Go.Sl.res_tmp rfl) ?_
  rotate_left
  · rw [if_pos hc29]
    exact ⟨(_, true, ra, rc, cr), rfl, .inr ⟨rfl, hne, rfl, hq22⟩, (by first | exact Go.Sl.Cov.refl _ | (intro p; simp only [List.flatten_cons, List.flatten_nil, List.flatten_append, List.append_nil, List.nil_append, Go.Sl.cnt_append, Go.Sl.cnt_cons, Go.Sl.cnt_nil, List.set_cons_zero, List.set_cons_succ, List.length_nil, List.length_cons, Nat.zero_add, List.append]; omega))⟩
  · rw [if_neg hc29]
    exact ⟨(_, true, ra, rc, cr), rfl, .inr ⟨rfl, hne, rfl, hq22⟩, (by first | exact Go.Sl.Cov.refl _ | (intro p; simp only [List.flatten_cons, List.flatten_nil, List.flatten_append, List.append_nil, List.nil_append, Go.Sl.cnt_append, Go.Sl.cnt_cons, Go.Sl.cnt_nil, List.set_cons_zero, List.set_cons_succ, List.length_nil, List.length_cons, Nat.zero_add, List.append]; omega))⟩

/-! ### The law -/
theorem tmod300 {x : Int} (h : 0 ≤ x) : 0 ≤ x.tmod 300 ∧ x.tmod 300 < 300 := ⟨Int.tmod_nonneg _ h, Int.tmod_lt_of_pos _ (by decide)⟩
def enW : Enc Int := ⟨fun n => [.int .u16 n], 1, fun n => .int .u16 n, fun n => 0 ≤ n ∧ n ≤ 65535⟩
theorem wTy : EncTy Try.prog 108 enW := EncTy.scalar Ty.sc108 rfl (fun _ => rfl) (fun _ => rfl)
def Came (ns : List Int) (j : Nat) (k : Int) : Prop := ∃ x ∈ ns.take j, x.tmod 300 = k
set_option maxHeartbeats 8000000 in
theorem law {B : Nat} {w0 : World} {ns : List Int} {now : Int} {aoN : Option Addr} {capN : Nat} (hb : 0 ≤ now ∧ now ≤ 4294967295) (hl : ns.length ≤ 9223372036854775807) (hN : ∀ G, Vw enW (St B w0 G) (.slice aoN ns.length capN) ns) :
    FnC Try.prog 14 #[.slice aoN ns.length capN, .int .u32 now] B w0 [] (R0 (.bool true)) := fun F => by
  refine fn_enter Try.func14 rfl (by kernel_rfl) Try.ntmps14 (by simp) ?_
  refine Go.Sl.cw_seq ?_
  refine Go.Sl.cw_region ?_
  refine Go.Sl.ow_val rfl rfl (Go.Sl.v_assign rfl) ?_
  refine Go.Sl.ow_nil ?_
  refine Go.Sl.xw_then ?_
  refine Go.Sl.cw_seq ?_
  refine Go.Sl.cw_seq ?_
  refine Go.Sl.cw_region ?_
  refine Go.Sl.ow_val rfl rfl (Go.Sl.v_call rfl rfl (acksAwake_c)) ?_
  refine Go.Sl.ow_val rfl rfl (Go.Sl.v_not_true rfl) ?_
  refine Go.Sl.ow_nil ?_
  refine Go.Sl.xw_then ?_
  refine Go.Sl.cw_false rfl ?_
  refine Go.Sl.cw_skip ?_
  refine Go.Sl.xw_then ?_
  refine Go.Sl.cw_seq ?_
  refine Go.Sl.cw_seq ?_
  refine Go.Sl.cw_region ?_
  refine Go.Sl.ow_val rfl rfl (Go.Sl.v_move rfl) ?_
  refine Go.Sl.ow_val rfl rfl (Go.Sl.v_len rfl Try.underlying107 rfl) ?_
  refine Go.Sl.ow_val rfl rfl (Go.Sl.v_gtr rfl rfl) ?_
  refine Go.Sl.ow_nil ?_
  refine Go.Sl.xw_then ?_
  refine Go.Sl.cw_dec rfl (fun hc24 => ?_) (fun hc24 => ?_)
  refine Go.Sl.cw_seq ?_
  refine Go.Sl.cw_region ?_
  refine Go.Sl.ow_val rfl rfl (Go.Sl.v_assign rfl) ?_
  refine Go.Sl.ow_nil ?_
  refine Go.Sl.xw_then ?_
  refine Go.Sl.cw_ret ?_
  refine Go.Sl.xw_then_ret ?_
  refine Go.Sl.ret1 rfl (Go.Sl.res_tmp rfl) ?_
  rotate_left
  refine Go.Sl.cw_skip ?_
  refine Go.Sl.xw_then ?_
  refine Go.Sl.cw_seq ?_
  refine Go.Sl.cw_region ?_
  (refine Go.Sl.ow_call rfl rfl rfl rfl (newAcks_c) ?_; rintro _ _ ⟨x25, rfl, hq25, rfl⟩)
  refine Go.Sl.ow_val rfl rfl (Go.Sl.v_assign rfl) ?_
  refine Go.Sl.ow_nil ?_
  refine Go.Sl.xw_then ?_
  refine Go.Sl.cw_seq ?_
  refine Go.Sl.cw_seq ?_
  refine Go.Sl.cw_region ?_
  refine Go.Sl.ow_val rfl rfl (Go.Sl.v_move rfl) ?_
  refine Go.Sl.ow_val rfl rfl (Go.Sl.v_len rfl Try.underlying107 rfl) ?_
  refine Go.Sl.ow_val rfl rfl (Go.Sl.v_move rfl) ?_
  refine Go.Sl.ow_nil ?_
  refine Go.Sl.xw_then ?_
  refine Go.Sl.cw_block ?_
  rotate_left
  · exact done0 rfl (by first | exact Go.Sl.Cov.refl _ | (intro p; simp only [List.flatten_cons, List.flatten_nil, List.flatten_append, List.append_nil, List.nil_append, Go.Sl.cnt_append, Go.Sl.cnt_cons, Go.Sl.cnt_nil, List.set_cons_zero, List.set_cons_succ, List.length_nil, List.length_cons, Nat.zero_add, List.append]; omega))
  have hq0 : CameAt ⟨25000, [], 0, false, 0, 0, false, 0⟩ x25.1 x25.2 := hq25
  obtain ⟨bc, cc⟩ := x25
  dsimp only at hq0 ⊢
  have hS : ∀ j k, Came ns j k → 0 ≤ k ∧ k < 300 := fun j k h => by
    obtain ⟨x, hx, rfl⟩ := h
    exact tmod300 ((hN []).ok x (List.mem_of_mem_take hx)).1
  refine cw_cov (cc :: F) (by first | exact Go.Sl.Cov.refl _ | (intro p; simp only [List.flatten_cons, List.flatten_nil, List.flatten_append, List.append_nil, List.nil_append, Go.Sl.cnt_append, Go.Sl.cnt_cons, Go.Sl.cnt_nil, List.set_cons_zero, List.set_cons_succ, List.length_nil, List.length_cons, Nat.zero_add, List.append]; omega)) ?_
  refine Go.Sl.cw_loop2 (ι := ((Nat × CameM × Hp))) [(0, _), (1, _), (4, _), (5, _), (26, _), (27, _)] ⟨rfl, rfl, rfl, rfl, rfl, rfl, trivial⟩ ((fun x => [(28, .int .i64 x.1)])) ((fun x => x.1 ≤ ns.length ∧ Keeps x.2.1 (Came ns x.1) ∧ (x.1 = 0 ∨ x.2.1.l ≠ []) ∧ CameAt x.2.1 bc x.2.2)) ((fun x => ns.length - x.1)) ((fun x => x.2.2 :: F)) (((0, ⟨25000, [], 0, false, 0, 0, false, 0⟩, cc) : Nat × CameM × Hp)) (by repeat (first | exact True.intro | refine And.intro rfl ?_)) (by first | exact Go.Sl.Cov.refl _ | (intro p; simp only [List.flatten_cons, List.flatten_nil, List.flatten_append, List.append_nil, List.nil_append, Go.Sl.cnt_append, Go.Sl.cnt_cons, Go.Sl.cnt_nil, List.set_cons_zero, List.set_cons_succ, List.length_nil, List.length_cons, Nat.zero_add, List.append]; omega)) ?_ ?_
  · exact ⟨Nat.zero_le _, ⟨Good.nil, by simp, fun k h => by simp [InR.nil] at h, (⟨by decide, by decide⟩ : (0 : Int) ≤ 0 ∧ (0 : Int) ≤ 300), inU0, fun _ => rfl⟩, .inl rfl, hq0⟩
  rintro ⟨j, m, c⟩ ⟨hj, hK, hne, hO⟩
  dsimp only at hj hK hne hO ⊢
  refine Go.Sl.cw_seq ?_
  refine Go.Sl.cw_region ?_
  refine Go.Sl.ow_val rfl rfl (Go.Sl.v_lss rfl rfl) ?_
  refine Go.Sl.ow_nil ?_
  refine Go.Sl.xw_then ?_
  refine Go.Sl.cw_seq ?_
  refine Go.Sl.cw_dec rfl (fun hc29 => ?_) (fun hc29 => ?_)
  refine Go.Sl.cw_skip ?_
  refine Go.Sl.xw_then ?_
  rotate_left
  refine Go.Sl.cw_exit ?_
  refine Go.Sl.xw_then_exit ?_
  refine Go.Sl.xw_round_exit ?_
  refine Go.Sl.xw_block_exit ?_
  refine Go.Sl.xw_then ?_
  refine Go.Sl.cw_seq ?_
  refine Go.Sl.cw_region ?_
  refine Go.Sl.ow_val rfl rfl (Go.Sl.v_move rfl) ?_
  refine Go.Sl.ow_val rfl rfl (Go.Sl.v_move rfl) ?_
  refine Go.Sl.ow_val rfl rfl (Go.Sl.v_convert Try.underlying89 Try.underlying23 rfl (Go.Sl.nw_u64 (by omega) (by omega))) ?_
  refine Go.Sl.ow_val rfl rfl (Go.Sl.v_add rfl rfl (Go.Sl.nw_u64 (by omega) (by omega))) ?_
  rotate_left
  · have hj2 : j < ns.length := by omega
    have hok := (hN []).ok _ (List.getElem_mem hj2)
    have hok2 : 0 ≤ ns[j] ∧ ns[j] ≤ 65535 := hok
    have htm := tmod300 hok2.1
    obtain ⟨hK2, hne2⟩ := hK.add (hS j) htm (now := now) (by unfold inU; omega)
    have hK3 : Keeps (m.add ((ns[j]).tmod 300) now true).1 (Came ns (j + 1)) := ⟨hK2.good, hK2.len, fun k hk => by
      rcases hK2.mem k hk with h | h
      · obtain ⟨x, hx, h1⟩ := h
        exact ⟨x, by rw [List.take_succ_eq_append_getElem hj2]; exact List.mem_append_left _ hx, h1⟩
      · exact ⟨ns[j], by rw [List.take_succ_eq_append_getElem hj2]; exact List.mem_append_right _ (by simp), h.symm⟩, hK2.below, hK2.at_, hK2.low⟩
    refine Go.Sl.cw_seq ?_
    refine Go.Sl.cw_block ?_
    refine Go.Sl.cw_seq ?_
    refine Go.Sl.cw_region ?_
    refine Go.Sl.ow_val rfl rfl (Go.Sl.v_indexAddr_vw Try.underlying107 (wTy) rfl rfl (hN []) rfl (by omega)) ?_
    refine Go.Sl.ow_val rfl rfl (Go.Sl.v_load rfl (Go.Sl.Vw.var (wTy) (hN _) (by omega))) ?_
    refine Go.Sl.ow_val rfl rfl (Go.Sl.v_assign rfl) ?_
    refine Go.Sl.ow_nil ?_
    refine Go.Sl.xw_then ?_
    refine Go.Sl.cw_region ?_
    refine Go.Sl.ow_val rfl rfl (Go.Sl.v_move rfl) ?_
    refine Go.Sl.ow_val rfl rfl (Go.Sl.v_move rfl) ?_
    refine Go.Sl.ow_val rfl rfl (Go.Sl.v_rem rfl rfl (by decide)) ?_
    refine Go.Sl.ow_val rfl rfl (Go.Sl.v_convert Try.underlying108 Try.underlying23 rfl (Go.Sl.nw_u64 (by omega) (by omega))) ?_
    refine Go.Sl.ow_val rfl rfl (Go.Sl.v_move rfl) ?_
    refine Go.Sl.ow_val rfl rfl (Go.Sl.v_convert Try.underlying89 Try.underlying23 rfl (Go.Sl.nw_u64 (by omega) (by omega))) ?_
    (refine Go.Sl.ow_call rfl rfl rfl rfl (acksAdd_c (n := (ns[j]).tmod 300) (now := now) (el := true) (by repeat (first | exact Go.Sl.Sel.here | apply Go.Sl.Sel.there)) hO hK.wf (by omega) (by omega)) ?_; rintro _ _ ⟨x38, rfl, hq38, rfl⟩)
    refine Go.Sl.ow_nil ?_
    refine Go.Sl.xw_block ?_
    refine Go.Sl.xw_then ?_
    refine Go.Sl.cw_region ?_
    refine Go.Sl.ow_val rfl rfl (Go.Sl.v_add rfl rfl (Go.Sl.nw_i64 (by omega) (by omega))) ?_
    refine Go.Sl.ow_val rfl rfl (Go.Sl.v_move rfl) ?_
    refine Go.Sl.ow_nil ?_
    exact xw_round ((j + 1, (m.add ((ns[j]).tmod 300) now true).1, x38) : Nat × CameM × Hp) ⟨by dsimp only; omega, hK3, .inr hne2, hq38⟩ (by dsimp only; omega) (by first | exact Go.Sl.Cov.refl _ | (intro p; simp only [List.flatten_cons, List.flatten_nil, List.flatten_append, List.append_nil, List.nil_append, Go.Sl.cnt_append, Go.Sl.cnt_cons, Go.Sl.cnt_nil, List.set_cons_zero, List.set_cons_succ, List.length_nil, List.length_cons, Nat.zero_add, List.append]; omega)) (by repeat (first | exact True.intro | refine And.intro rfl ?_))
  have hcame : Came ns j = Came ns ns.length := by
    have : j = ns.length := by omega
    rw [this]
  rw [hcame] at hK
  have hwf := hK.wf
  have hat := hK.at_
  unfold inU at hat
  have hgd := hK.good
  have hl32 := hK.len
  have hmem := hK.mem
  have hbd : ∀ k, InR m.l k → 0 ≤ k ∧ k < 300 := fun k h => hS _ k (hmem k h)
  have hfr := fun (G : List Hp) (hs : Go.Sl.Sub c G) => acksFrame_c (B := B) (w0 := w0) (G := G) (now := now + 7) hO hs hwf (by unfold inU; omega) hK.at_
  generalize hdl : (if m.at_ < now + 7 then now + 7 - m.at_ else 0) = dl at hfr
  have hdl2 : 0 ≤ dl ∧ dl < 4611686018427387904 := by
    rw [← hdl]
    split <;> omega
  clear hdl
  have hcz : ((FrM.zero 0).cells FrP.nil).length = 39 := rfl
  have hoz : ∀ u ∈ (FrM.zero 0).cells FrP.nil, u.oneCell' = true := FrM.cells_one
  (refine Go.Sl.ow_call rfl rfl rfl rfl (hfr _ (by repeat (first | exact Go.Sl.Sub.here | assumption | refine Go.Sl.Sub.there ?_))) ?_; rintro _ _ ⟨x45, rfl, hq45, rfl⟩)
  refine Go.Sl.ow_val rfl rfl (Go.Sl.v_move rfl) ?_
  refine Go.Sl.ow_val rfl rfl (v_extractL rfl rfl) ?_
  refine Go.Sl.ow_val rfl rfl (v_extractL rfl rfl) ?_
  (refine Go.Sl.ow_alloc rfl rfl Ty.ze114 ?_; intro b8)
  obtain ⟨v, ok, ra, rc, cr⟩ := x45
  dsimp only at hq45 ⊢
  rcases hq45 with ⟨rfl, h0, rfl⟩ | ⟨rfl, h0, rfl, hLr⟩
  · refine Go.Sl.ow_storeN rfl rfl rfl Ty.ag114 (by first | rfl | assumption) (by first | assumption | simp) .here ((SetN.all hcz)) ?_
    refine Go.Sl.ow_val rfl rfl (Go.Sl.v_assign rfl) ?_
    refine Go.Sl.ow_nil ?_
    refine Go.Sl.xw_then ?_
    refine Go.Sl.cw_seq ?_
    refine Go.Sl.cw_seq ?_
    refine Go.Sl.cw_region ?_
    refine Go.Sl.ow_val rfl rfl (Go.Sl.v_move rfl) ?_
    refine Go.Sl.ow_val rfl rfl (Go.Sl.v_not_false rfl) ?_
    refine Go.Sl.ow_nil ?_
    refine Go.Sl.xw_then ?_
    refine Go.Sl.cw_true rfl ?_
    refine Go.Sl.cw_seq ?_
    refine Go.Sl.cw_region ?_
    refine Go.Sl.ow_val rfl rfl (Go.Sl.v_move rfl) ?_
    refine Go.Sl.ow_val rfl rfl (Go.Sl.v_len rfl Try.underlying107 rfl) ?_
    refine Go.Sl.ow_val rfl rfl (Go.Sl.v_eql rfl rfl) ?_
    refine Go.Sl.ow_val rfl rfl (Go.Sl.v_assign rfl) ?_
    refine Go.Sl.ow_nil ?_
    refine Go.Sl.xw_then ?_
    refine Go.Sl.cw_ret ?_
    refine Go.Sl.xw_then_ret ?_
    refine Go.Sl.ret1 rfl (Go.Sl.res_tmp rfl) ?_
    have hns : ns.length = 0 := by
      rcases hne with h | h
      · omega
      · exact absurd h0 h
    rw [decide_eq_true (by omega)]
    exact done0 rfl (by first | exact Go.Sl.Cov.refl _ | (intro p; simp only [List.flatten_cons, List.flatten_nil, List.flatten_append, List.append_nil, List.nil_append, Go.Sl.cnt_append, Go.Sl.cnt_cons, Go.Sl.cnt_nil, List.set_cons_zero, List.set_cons_succ, List.length_nil, List.length_cons, Nat.zero_add, List.append]; omega))
  have hca : ((ackM 2 dl m.l).cells (ackP ra rc)).length = 39 := rfl
  have hoa : ∀ u ∈ (ackM 2 dl m.l).cells (ackP ra rc), u.oneCell' = true := FrM.cells_one
  obtain ⟨hcan, hokf⟩ := ack_can hgd h0 hl32 hbd hdl2
  have nilv : ∀ {S : World → Prop} {α : Type} {En : Enc α}, Vw En S (.slice none 0 0) [] := fun {S α En} => ⟨⟨none, 0, rfl, Nat.le_refl _⟩, by simp, fun ao n cap _ hl => by simp at hl⟩
  have hin : ∀ G, Go.Sl.Sub cr G → FrIn (St B w0 G) (ackM 2 dl m.l) (ackP ra rc) := fun G hs => ⟨nilv, hLr.vw hs, nilv⟩
  refine Go.Sl.ow_storeN rfl rfl rfl Ty.ag114 (by first | rfl | assumption) (by first | assumption | simp) .here ((SetN.all hca)) ?_
  refine Go.Sl.ow_val rfl rfl (Go.Sl.v_assign rfl) ?_
  refine Go.Sl.ow_nil ?_
  refine Go.Sl.xw_then ?_
  refine Go.Sl.cw_seq ?_
  refine Go.Sl.cw_seq ?_
  refine Go.Sl.cw_region ?_
  refine Go.Sl.ow_val rfl rfl (Go.Sl.v_move rfl) ?_
  refine Go.Sl.ow_val rfl rfl (Go.Sl.v_not_true rfl) ?_
  refine Go.Sl.ow_nil ?_
  refine Go.Sl.xw_then ?_
  refine Go.Sl.cw_false rfl ?_
  refine Go.Sl.cw_skip ?_
  refine Go.Sl.xw_then ?_
  have hel := encF_le hcan.1 hokf
  have hlr : (ackM 2 dl m.l).rg.length = m.l.length := rfl
  have hld : (ackM 2 dl m.l).data.length = 0 := rfl
  have hli : (ackM 2 dl m.l).id.length = 0 := rfl
  have hbig : (ackM 2 dl m.l).rg.length ≤ 9223372036854775807 ∧ (ackM 2 dl m.l).data.length ≤ 9223372036854775807 ∧ (ackM 2 dl m.l).id.length ≤ 9223372036854775807 := ⟨by omega, by omega, by omega⟩
  refine Go.Sl.cw_seq ?_
  refine Go.Sl.cw_region ?_
  refine Go.Sl.ow_val rfl rfl (Go.Sl.v_load rfl (Go.Sl.Var.atN Ty.ag114 .here Go.Sl.GetN.all (by first | rfl | assumption))) ?_
  (refine Go.Sl.ow_call rfl rfl rfl rfl (put_c (f := ackM 2 dl m.l) (p := ackP ra rc) hokf (hin _ (by repeat (first | exact Go.Sl.Sub.here | assumption | refine Go.Sl.Sub.there ?_))) hbig.1 hbig.2.1 hbig.2.2) ?_; rintro _ _ ⟨x55, rfl, hq55, rfl⟩)
  refine Go.Sl.ow_val rfl rfl (Go.Sl.v_move rfl) ?_
  refine Go.Sl.ow_val rfl rfl (v_extractL rfl rfl) ?_
  refine Go.Sl.ow_val rfl rfl (v_extractL rfl rfl) ?_
  refine Go.Sl.ow_val rfl rfl (Go.Sl.v_assign rfl) ?_
  refine Go.Sl.ow_val rfl rfl (Go.Sl.v_assign rfl) ?_
  refine Go.Sl.ow_nil ?_
  refine Go.Sl.xw_then ?_
  obtain ⟨bs, e, a55, k55, h55⟩ := x55
  obtain ⟨q1, q2, q3, q4⟩ := hq55
  dsimp only at q1 q2 q3 q4 ⊢
  have he : e = 0 := q1.2 hcan
  have hbs := q2 he
  subst he
  have hrt := ack_rt hokf hcan rfl []
  rw [List.append_nil] at hrt
  have hT1 : Takes bs [ackM 2 dl m.l] 0 := by
    rw [hbs]
    have h7 := Takes.more (l := encF (ackM 2 dl m.l)) (fs := []) (e := 0) (encF_ne hokf hcan) (by rw [hrt]) (by rw [hrt]; exact Takes.nil)
    rw [hrt] at h7
    exact h7
  clear hrt hbs q2
  refine Go.Sl.cw_seq ?_
  refine Go.Sl.cw_region ?_
  refine Go.Sl.ow_val rfl rfl (Go.Sl.v_move rfl) ?_
  (refine Go.Sl.ow_call rfl rfl rfl rfl (takeAll_c (l := bs) (q4.vw (by repeat (first | exact Go.Sl.Sub.here | assumption | refine Go.Sl.Sub.there ?_))) (by omega)) ?_; rintro _ _ ⟨x60, rfl, hq60, rfl⟩)
  refine Go.Sl.ow_val rfl rfl (Go.Sl.v_move rfl) ?_
  refine Go.Sl.ow_val rfl rfl (v_extractL rfl rfl) ?_
  refine Go.Sl.ow_val rfl rfl (v_extractL rfl rfl) ?_
  refine Go.Sl.ow_val rfl rfl (Go.Sl.v_assign rfl) ?_
  refine Go.Sl.ow_val rfl rfl (Go.Sl.v_assign rfl) ?_
  refine Go.Sl.ow_nil ?_
  refine Go.Sl.xw_then ?_
  obtain ⟨es, e2, a60, k60, c60, D60⟩ := x60
  obtain ⟨T, L⟩ := hq60
  dsimp only at T L ⊢
  obtain ⟨h00, hm⟩ := T.good hT1 (by simp)
  subst h00
  have hl1 : es.length = 1 := by
    rw [← List.length_map (f := fun x : FrE => x.m), hm]
    rfl
  obtain ⟨y, rfl⟩ : ∃ y, es = [y] := List.length_eq_one_iff.1 hl1
  have hy : y.m = ackM 2 dl m.l := by
    injection hm
  have oky := L.ok y (by simp)
  have hsf : sameF y.m (ackM 2 dl m.l) = true := sameF_iff.2 hy
  have hyr : y.m.rg.length ≤ 9223372036854775807 := by rw [hy]; exact hbig.1
  have hy1 : [y].length = 1 := rfl
  have hsame : ∀ G, Go.Sl.Sub D60 G → Go.Sl.Sub cr G → Go.Sl.Fn Try.prog 68 #[.agg (([y][0]).m.cells ([y][0]).p).toArray, .agg ((ackM 2 dl m.l).cells (ackP ra rc)).toArray] B w0 G fun u G' => u = .bool true ∧ G' = G := fun G h1 h2 => by
    have h3 := same_c (B := B) (w0 := w0) (G := G) oky hokf (T.deep y (by simp) B w0 G h1) (hin G h2) hyr
    rw [hsf] at h3
    exact h3
  refine Go.Sl.cw_seq ?_
  refine Go.Sl.cw_seq ?_
  refine Go.Sl.cw_quiet Ty.mixed (by decide +kernel) ?_
  refine Go.Sl.kw_val rfl rfl (Go.Sl.v_move rfl) ?_
  refine Go.Sl.kw_val rfl rfl (Go.Sl.v_neq rfl rfl) ?_
  refine Go.Sl.kw_val rfl rfl (Go.Sl.v_move rfl) ?_
  refine Go.Sl.kw_dec 65 rfl (fun hc65 => ?_) (fun hc65 => ?_)
  (exfalso; omega)
  refine Go.Sl.kw_val rfl rfl (Go.Sl.v_move rfl) ?_
  refine Go.Sl.kw_val rfl rfl (Go.Sl.v_neq rfl rfl) ?_
  refine Go.Sl.kw_val rfl rfl (Go.Sl.v_pick_false rfl rfl) ?_
  refine Go.Sl.kw_val rfl rfl (Go.Sl.v_move rfl) ?_
  refine Go.Sl.kw_dec 69 rfl (fun hc69 => ?_) (fun hc69 => ?_)
  (exfalso; omega)
  refine Go.Sl.kw_val rfl rfl (Go.Sl.v_move rfl) ?_
  refine Go.Sl.kw_val rfl rfl (Go.Sl.v_len rfl Try.underlying119 rfl) ?_
  refine Go.Sl.kw_val rfl rfl (Go.Sl.v_neq rfl rfl) ?_
  refine Go.Sl.kw_val rfl rfl (Go.Sl.v_pick_false rfl rfl) ?_
  refine Go.Sl.kw_val rfl rfl (Go.Sl.v_move rfl) ?_
  refine Go.Sl.kw_dec 74 rfl (fun hc74 => ?_) (fun hc74 => ?_)
  (exfalso; omega)
  refine Go.Sl.kw_val rfl rfl (Go.Sl.v_move rfl) ?_
  refine Go.Sl.kw_val rfl rfl (Go.Sl.v_indexAddr_ls (i := 0) Try.underlying119 (fTy) rfl rfl (by assumption) rfl (by omega)) ?_
  refine Go.Sl.kw_val rfl rfl (Go.Sl.v_load rfl (Go.Sl.Vw.var (fTy) ((L.vw (by repeat (first | exact Go.Sl.Sub.here | assumption | refine Go.Sl.Sub.there ?_)))) (by omega))) ?_
  refine Go.Sl.kw_val rfl rfl (Go.Sl.v_load rfl (Go.Sl.Var.atN Ty.ag114 (.there (.there (.there .here))) Go.Sl.GetN.all (by first | rfl | assumption))) ?_
  refine Go.Sl.kw_val rfl rfl (Go.Sl.v_call rfl rfl (hsame _ (by repeat (first | exact Go.Sl.Sub.here | assumption | refine Go.Sl.Sub.there ?_)) (by repeat (first | exact Go.Sl.Sub.here | assumption | refine Go.Sl.Sub.there ?_)))) ?_
  refine Go.Sl.kw_val rfl rfl (Go.Sl.v_not_true rfl) ?_
  refine Go.Sl.kw_val rfl rfl (Go.Sl.v_pick_false rfl rfl) ?_
  refine Go.Sl.kw_nil ?_
  refine Go.Sl.xw_then ?_
  refine Go.Sl.cw_false rfl ?_
  refine Go.Sl.cw_skip ?_
  refine Go.Sl.xw_then ?_
  have hC8 : ∀ G, Go.Sl.Sub [(b8, .cells ((ackM 2 dl m.l).cells (ackP ra rc)).toArray 114 (0, 0))] G → True := fun _ _ => trivial
  refine cw_cov (cr :: c :: [(b8, .cells ((ackM 2 dl m.l).cells (ackP ra rc)).toArray 114 (0, 0))] :: F) (by first | exact Go.Sl.Cov.refl _ | (intro p; simp only [List.flatten_cons, List.flatten_nil, List.flatten_append, List.append_nil, List.nil_append, Go.Sl.cnt_append, Go.Sl.cnt_cons, Go.Sl.cnt_nil, List.set_cons_zero, List.set_cons_succ, List.length_nil, List.length_cons, Nat.zero_add, List.append]; omega)) ?_
  refine Go.Sl.cw_seq ?_
  refine Go.Sl.cw_seq ?_
  refine Go.Sl.cw_region ?_
  refine Go.Sl.ow_val rfl rfl (Go.Sl.v_fieldAddr0 Ty.fd114_7 rfl) ?_
  refine Go.Sl.ow_val rfl rfl (Go.Sl.v_load rfl (Go.Sl.Var.at1 Ty.sc34 (.there (.there .here)) (Go.Sl.GetN.lit rfl))) ?_
  refine Go.Sl.ow_val rfl rfl (Go.Sl.v_len rfl Try.underlying34 rfl) ?_
  refine Go.Sl.ow_val rfl rfl (Go.Sl.v_move rfl) ?_
  refine Go.Sl.ow_nil ?_
  refine Go.Sl.xw_then ?_
  refine Go.Sl.cw_block ?_
  refine Go.Sl.cw_loop2 (ι := (Nat)) [(0, _), (1, _), (5, _), (83, _), (84, _)] ⟨rfl, rfl, rfl, rfl, rfl, trivial⟩ ((fun i => [(85, .int .i64 i)])) ((fun i => i ≤ m.l.length)) ((fun i => m.l.length - i)) ((fun _ => cr :: c :: F)) (0) (by repeat (first | exact True.intro | refine And.intro rfl ?_)) (by first | exact Go.Sl.Cov.refl _ | (intro p; simp only [List.flatten_cons, List.flatten_nil, List.flatten_append, List.append_nil, List.nil_append, Go.Sl.cnt_append, Go.Sl.cnt_cons, Go.Sl.cnt_nil, List.set_cons_zero, List.set_cons_succ, List.length_nil, List.length_cons, Nat.zero_add, List.append]; omega)) ?_ ?_
  · exact Nat.zero_le _
  rintro i hi
  refine Go.Sl.cw_seq ?_
  refine Go.Sl.cw_region ?_
  refine Go.Sl.ow_val rfl rfl (Go.Sl.v_lss rfl rfl) ?_
  refine Go.Sl.ow_nil ?_
  refine Go.Sl.xw_then ?_
  refine Go.Sl.cw_seq ?_
  refine Go.Sl.cw_dec rfl (fun hc86 => ?_) (fun hc86 => ?_)
  refine Go.Sl.cw_skip ?_
  refine Go.Sl.xw_then ?_
  rotate_left
  refine Go.Sl.cw_exit ?_
  refine Go.Sl.xw_then_exit ?_
  refine Go.Sl.xw_round_exit ?_
  refine Go.Sl.xw_block_exit ?_
  refine Go.Sl.xw_then ?_
  refine Go.Sl.cw_seq ?_
  refine Go.Sl.cw_region ?_
  refine Go.Sl.ow_val rfl rfl (Go.Sl.v_assign rfl) ?_
  refine Go.Sl.ow_nil ?_
  refine Go.Sl.xw_then ?_
  refine Go.Sl.cw_ret ?_
  refine Go.Sl.ret1 rfl (Go.Sl.res_tmp rfl) ?_
  rotate_left
  · have hi2 : i < m.l.length := by omega
    have hoki := hLr.ok _ (List.getElem_mem hi2)
    have hri := hgd.1 _ (List.getElem_mem hi2)
    obtain ⟨r1, r2, r3⟩ := hri
    have hone := one2 _ hoki
    refine Go.Sl.cw_seq ?_
    refine Go.Sl.cw_block ?_
    refine Go.Sl.cw_seq ?_
    refine Go.Sl.cw_region ?_
    refine Go.Sl.ow_val rfl rfl (Go.Sl.v_indexAddr_ls Try.underlying34 (rTy) rfl rfl (by assumption) rfl (by omega)) ?_
    refine Go.Sl.ow_val rfl rfl (Go.Sl.v_load rfl (Go.Sl.Vw.var (rTy) ((hLr.vw (by repeat (first | exact Go.Sl.Sub.here | assumption | refine Go.Sl.Sub.there ?_)))) (by omega))) ?_
    (refine Go.Sl.ow_alloc rfl rfl Ty.ze28 ?_; intro b15)
    refine Go.Sl.ow_storeE rfl (rTy) rfl rfl .here (by first | rfl | assumption) (by assumption) ?_
    refine Go.Sl.ow_nil ?_
    refine Go.Sl.xw_then ?_
    refine Go.Sl.cw_seq ?_
    refine Go.Sl.cw_region ?_
    refine Go.Sl.ow_val rfl rfl (Go.Sl.v_fieldAddr0 Ty.fd28_0 rfl) ?_
    refine Go.Sl.ow_val rfl rfl (Go.Sl.v_load rfl (Go.Sl.Var.at1 Ty.sc23 .here (Go.Sl.GetN.lit rfl))) ?_
    refine Go.Sl.ow_val rfl rfl (Go.Sl.v_assign rfl) ?_
    refine Go.Sl.ow_nil ?_
    refine Go.Sl.xw_then ?_
    refine Go.Sl.cw_block ?_
    refine Go.Sl.cw_loop2 (ι := (Int)) [(0, _), (1, _), (5, _), (15, _), (83, _), (84, _), (85, _)] ⟨rfl, rfl, rfl, rfl, rfl, rfl, rfl, trivial⟩ ((fun n => [(16, .int .u64 n)])) ((fun n => (m.l[i]).a ≤ n ∧ n ≤ (m.l[i]).b)) ((fun n => ((m.l[i]).b - n).toNat)) ((fun _ => [(b15, .cells (m.l[i]).cells.toArray 28 (0, 0))] :: cr :: c :: F)) ((m.l[i]).a) (by repeat (first | exact True.intro | refine And.intro rfl ?_)) (by first | exact Go.Sl.Cov.refl _ | (intro p; simp only [List.flatten_cons, List.flatten_nil, List.flatten_append, List.append_nil, List.nil_append, Go.Sl.cnt_append, Go.Sl.cnt_cons, Go.Sl.cnt_nil, List.set_cons_zero, List.set_cons_succ, List.length_nil, List.length_cons, Nat.zero_add, List.append]; omega)) ?_ ?_
    · exact ⟨Int.le_refl _, by omega⟩
    rintro n ⟨hn1, hn2⟩
    refine Go.Sl.cw_seq ?_
    refine Go.Sl.cw_seq ?_
    refine Go.Sl.cw_region ?_
    refine Go.Sl.ow_val rfl rfl (Go.Sl.v_move rfl) ?_
    refine Go.Sl.ow_val rfl rfl (Go.Sl.v_fieldAddr0 Ty.fd28_1 rfl) ?_
    refine Go.Sl.ow_val rfl rfl (Go.Sl.v_load rfl (Go.Sl.Var.at1 Ty.sc23 .here (Go.Sl.GetN.lit rfl))) ?_
    refine Go.Sl.ow_val rfl rfl (Go.Sl.v_lss rfl rfl) ?_
    refine Go.Sl.ow_nil ?_
    refine Go.Sl.xw_then ?_
    refine Go.Sl.cw_dec rfl (fun hc94 => ?_) (fun hc94 => ?_)
    refine Go.Sl.cw_skip ?_
    refine Go.Sl.xw_then ?_
    rotate_left
    refine Go.Sl.cw_exit ?_
    refine Go.Sl.xw_then_exit ?_
    refine Go.Sl.xw_round_exit ?_
    refine Go.Sl.xw_block_exit ?_
    refine Go.Sl.xw_block ?_
    refine Go.Sl.xw_then ?_
    refine Go.Sl.cw_region ?_
    refine Go.Sl.ow_val rfl rfl (Go.Sl.v_add rfl rfl (Go.Sl.nw_i64 (by omega) (by omega))) ?_
    refine Go.Sl.ow_val rfl rfl (Go.Sl.v_move rfl) ?_
    refine Go.Sl.ow_nil ?_
    rotate_left
    · have hin2 : InR m.l n := ⟨m.l[i], List.getElem_mem hi2, by omega⟩
      have hcm := hmem n hin2
      have hhas : hasR m.l n = true := (hasR_iff).2 hin2
      have hhad : ∀ G, Go.Sl.Sub c G → Go.Sl.Fn Try.prog 53 #[.pointer (some ⟨bc, 0, none⟩), .int .u64 n] B w0 G fun u G' => u = .bool true ∧ G' = G := fun G hs => by
        have h1 := acksHad_c (B := B) (w0 := w0) hO hs hwf (n := n)
        rw [hhas, Bool.or_true] at h1
        exact h1
      refine Go.Sl.cw_seq ?_
      refine Go.Sl.cw_block ?_
      refine Go.Sl.cw_seq ?_
      refine Go.Sl.cw_region ?_
      refine Go.Sl.ow_val rfl rfl (Go.Sl.v_assign rfl) ?_
      refine Go.Sl.ow_nil ?_
      refine Go.Sl.xw_then ?_
      refine Go.Sl.cw_seq ?_
      refine Go.Sl.cw_seq ?_
      refine Go.Sl.cw_region ?_
      refine Go.Sl.ow_val rfl rfl (Go.Sl.v_move rfl) ?_
      refine Go.Sl.ow_val rfl rfl (Go.Sl.v_len rfl Try.underlying107 rfl) ?_
      refine Go.Sl.ow_val rfl rfl (Go.Sl.v_move rfl) ?_
      refine Go.Sl.ow_nil ?_
      refine Go.Sl.xw_then ?_
      refine Go.Sl.cw_block ?_
      refine Go.Sl.cw_loop2 (ι := ((Nat × Bool))) [(0, _), (1, _), (5, _), (15, _), (16, _), (83, _), (84, _), (85, _), (97, _), (98, _)] ⟨rfl, rfl, rfl, rfl, rfl, rfl, rfl, rfl, rfl, rfl, trivial⟩ ((fun x => [(99, .int .i64 x.1), (17, .bool x.2)])) ((fun x => x.1 ≤ ns.length ∧ (x.2 = true ↔ Came ns x.1 n))) ((fun x => ns.length - x.1)) ((fun _ => [(b15, .cells (m.l[i]).cells.toArray 28 (0, 0))] :: cr :: c :: F)) (((0, false) : Nat × Bool)) (by repeat (first | exact True.intro | refine And.intro rfl ?_)) (by first | exact Go.Sl.Cov.refl _ | (intro p; simp only [List.flatten_cons, List.flatten_nil, List.flatten_append, List.append_nil, List.nil_append, Go.Sl.cnt_append, Go.Sl.cnt_cons, Go.Sl.cnt_nil, List.set_cons_zero, List.set_cons_succ, List.length_nil, List.length_cons, Nat.zero_add, List.append]; omega)) ?_ ?_
      · exact ⟨Nat.zero_le _, ⟨(fun h => by cases h), (fun ⟨x, hx, _⟩ => by simp at hx)⟩⟩
      rintro ⟨q, bo⟩ ⟨hq, hbo⟩
      dsimp only at hq hbo ⊢
      refine Go.Sl.cw_seq ?_
      refine Go.Sl.cw_region ?_
      refine Go.Sl.ow_val rfl rfl (Go.Sl.v_lss rfl rfl) ?_
      refine Go.Sl.ow_nil ?_
      refine Go.Sl.xw_then ?_
      refine Go.Sl.cw_seq ?_
      refine Go.Sl.cw_dec rfl (fun hc100 => ?_) (fun hc100 => ?_)
      refine Go.Sl.cw_skip ?_
      refine Go.Sl.xw_then ?_
      rotate_left
      refine Go.Sl.cw_exit ?_
      refine Go.Sl.xw_then_exit ?_
      refine Go.Sl.xw_round_exit ?_
      refine Go.Sl.xw_block_exit ?_
      refine Go.Sl.xw_then ?_
      refine Go.Sl.cw_seq ?_
      refine Go.Sl.cw_region ?_
      refine Go.Sl.ow_val rfl rfl (Go.Sl.v_move rfl) ?_
      refine Go.Sl.ow_val rfl rfl (Go.Sl.v_not_bool rfl) ?_
      refine Go.Sl.ow_val rfl rfl (Go.Sl.v_move rfl) ?_
      refine Go.Sl.ow_bool 114 rfl (fun hc114 => ?_) (fun hc114 => ?_)
      refine Go.Sl.ow_skip rfl rfl ?_
      refine Go.Sl.ow_skip rfl rfl ?_
      refine Go.Sl.ow_skip rfl rfl ?_
      refine Go.Sl.ow_skip rfl rfl ?_
      refine Go.Sl.ow_val rfl rfl (Go.Sl.v_pick_true rfl rfl) ?_
      refine Go.Sl.ow_nil ?_
      refine Go.Sl.xw_then ?_
      refine Go.Sl.cw_true rfl ?_
      refine Go.Sl.cw_seq ?_
      refine Go.Sl.cw_region ?_
      refine Go.Sl.ow_val rfl rfl (Go.Sl.v_assign rfl) ?_
      refine Go.Sl.ow_nil ?_
      refine Go.Sl.xw_then ?_
      refine Go.Sl.cw_ret ?_
      refine Go.Sl.xw_block_ret ?_
      refine Go.Sl.xw_then_ret ?_
      refine Go.Sl.xw_round_ret ?_
      refine Go.Sl.xw_block_ret ?_
      refine Go.Sl.xw_block_ret ?_
      refine Go.Sl.xw_then_ret ?_
      refine Go.Sl.xw_round_ret ?_
      refine Go.Sl.xw_block_ret ?_
      refine Go.Sl.xw_then_ret ?_
      refine Go.Sl.ret1 rfl (Go.Sl.res_tmp rfl) ?_
      rotate_left
      refine Go.Sl.ow_val rfl rfl (Go.Sl.v_move rfl) ?_
      refine Go.Sl.ow_val rfl rfl (Go.Sl.v_move rfl) ?_
      refine Go.Sl.ow_val rfl rfl (Go.Sl.v_call rfl rfl (hhad _ (by repeat (first | exact Go.Sl.Sub.here | assumption | refine Go.Sl.Sub.there ?_)))) ?_
      refine Go.Sl.ow_val rfl rfl (Go.Sl.v_not_true rfl) ?_
      refine Go.Sl.ow_val rfl rfl (Go.Sl.v_pick_false rfl rfl) ?_
      refine Go.Sl.ow_nil ?_
      refine Go.Sl.xw_then ?_
      refine Go.Sl.cw_false rfl ?_
      refine Go.Sl.cw_skip ?_
      refine Go.Sl.xw_block ?_
      refine Go.Sl.xw_then ?_
      refine Go.Sl.cw_region ?_
      refine Go.Sl.ow_val rfl rfl (Go.Sl.v_move rfl) ?_
      refine Go.Sl.ow_val rfl rfl (Go.Sl.v_add rfl rfl (Go.Sl.nw_u64 (by omega) (by omega))) ?_
      refine Go.Sl.ow_val rfl rfl (Go.Sl.v_assign rfl) ?_
      refine Go.Sl.ow_nil ?_
      rotate_left
      · have hq2 : q < ns.length := by omega
        have hokq := (hN []).ok _ (List.getElem_mem hq2)
        have hokq2 : 0 ≤ ns[q] ∧ ns[q] ≤ 65535 := hokq
        have htq := tmod300 hokq2.1
        have hsu : Came ns (q + 1) n ↔ Came ns q n ∨ (ns[q]).tmod 300 = n := by
          unfold Came
          rw [List.take_succ_eq_append_getElem hq2]
          constructor
          · rintro ⟨x, hx, h1⟩
            rcases List.mem_append.1 hx with hx | hx
            · exact .inl ⟨x, hx, h1⟩
            · simp only [List.mem_cons, List.not_mem_nil, or_false] at hx
              subst hx
              exact .inr h1
          · rintro (⟨x, hx, h1⟩ | h1)
            · exact ⟨x, List.mem_append_left _ hx, h1⟩
            · exact ⟨ns[q], List.mem_append_right _ (by simp), h1⟩
        refine Go.Sl.cw_seq ?_
        refine Go.Sl.cw_block ?_
        refine Go.Sl.cw_seq ?_
        refine Go.Sl.cw_region ?_
        refine Go.Sl.ow_val rfl rfl (Go.Sl.v_indexAddr_vw Try.underlying107 (wTy) rfl rfl (hN []) rfl (by omega)) ?_
        refine Go.Sl.ow_val rfl rfl (Go.Sl.v_load rfl (Go.Sl.Vw.var (wTy) (hN _) (by omega))) ?_
        refine Go.Sl.ow_val rfl rfl (Go.Sl.v_assign rfl) ?_
        refine Go.Sl.ow_nil ?_
        refine Go.Sl.xw_then ?_
        refine Go.Sl.cw_region ?_
        refine Go.Sl.ow_val rfl rfl (Go.Sl.v_move rfl) ?_
        refine Go.Sl.ow_val rfl rfl (Go.Sl.v_move rfl) ?_
        refine Go.Sl.ow_bool 104 rfl (fun hc104 => ?_) (fun hc104 => ?_)
        refine Go.Sl.ow_skip rfl rfl ?_
        refine Go.Sl.ow_skip rfl rfl ?_
        refine Go.Sl.ow_skip rfl rfl ?_
        refine Go.Sl.ow_skip rfl rfl ?_
        refine Go.Sl.ow_skip rfl rfl ?_
        refine Go.Sl.ow_val rfl rfl (Go.Sl.v_pick_true rfl rfl) ?_
        refine Go.Sl.ow_val rfl rfl (Go.Sl.v_assign rfl) ?_
        refine Go.Sl.ow_nil ?_
        refine Go.Sl.xw_block ?_
        refine Go.Sl.xw_then ?_
        refine Go.Sl.cw_region ?_
        refine Go.Sl.ow_val rfl rfl (Go.Sl.v_add rfl rfl (Go.Sl.nw_i64 (by omega) (by omega))) ?_
        refine Go.Sl.ow_val rfl rfl (Go.Sl.v_move rfl) ?_
        refine Go.Sl.ow_nil ?_
        rotate_left
        refine Go.Sl.ow_val rfl rfl (Go.Sl.v_move rfl) ?_
        refine Go.Sl.ow_val rfl rfl (Go.Sl.v_rem rfl rfl (by decide)) ?_
        refine Go.Sl.ow_val rfl rfl (Go.Sl.v_convert Try.underlying108 Try.underlying23 rfl (Go.Sl.nw_u64 (by omega) (by omega))) ?_
        refine Go.Sl.ow_val rfl rfl (Go.Sl.v_move rfl) ?_
        refine Go.Sl.ow_val rfl rfl (Go.Sl.v_eql rfl rfl) ?_
        refine Go.Sl.ow_val rfl rfl (Go.Sl.v_pick_false rfl rfl) ?_
        refine Go.Sl.ow_val rfl rfl (Go.Sl.v_assign rfl) ?_
        refine Go.Sl.ow_nil ?_
        refine Go.Sl.xw_block ?_
        refine Go.Sl.xw_then ?_
        refine Go.Sl.cw_region ?_
        refine Go.Sl.ow_val rfl rfl (Go.Sl.v_add rfl rfl (Go.Sl.nw_i64 (by omega) (by omega))) ?_
        refine Go.Sl.ow_val rfl rfl (Go.Sl.v_move rfl) ?_
        refine Go.Sl.ow_nil ?_
        rotate_left
        · have h1 : bo = true := hc104
          exact xw_round ((q + 1, true) : Nat × Bool) ⟨by dsimp only; omega, ⟨fun _ => hsu.2 (.inl (hbo.1 h1)), fun _ => rfl⟩⟩ (by dsimp only; omega) (by first | exact Go.Sl.Cov.refl _ | (intro p; simp only [List.flatten_cons, List.flatten_nil, List.flatten_append, List.append_nil, List.nil_append, Go.Sl.cnt_append, Go.Sl.cnt_cons, Go.Sl.cnt_nil, List.set_cons_zero, List.set_cons_succ, List.length_nil, List.length_cons, Nat.zero_add, List.append]; omega)) (by repeat (first | exact True.intro | refine And.intro rfl ?_))
        · have h1 : ¬ Came ns q n := fun h => by
            have := hbo.2 h
            rw [hc104] at this
            cases this
          exact xw_round ((q + 1, decide ((ns[q]).tmod 300 = n)) : Nat × Bool) ⟨by dsimp only; omega, ⟨fun h => hsu.2 (.inr (of_decide_eq_true h)), fun h => by
            rcases hsu.1 h with h | h
            · exact absurd h h1
            · exact decide_eq_true h⟩⟩ (by dsimp only; omega) (by first | exact Go.Sl.Cov.refl _ | (intro p; simp only [List.flatten_cons, List.flatten_nil, List.flatten_append, List.append_nil, List.nil_append, Go.Sl.cnt_append, Go.Sl.cnt_cons, Go.Sl.cnt_nil, List.set_cons_zero, List.set_cons_succ, List.length_nil, List.length_cons, Nat.zero_add, List.append]; omega)) (by repeat (first | exact True.intro | refine And.intro rfl ?_))
      · have hqe : q = ns.length := by omega
        have h1 := hbo.2 (by rw [hqe]; exact hcm)
        rw [h1] at hc114
        cases hc114
      · exact xw_round (n + 1) ⟨by omega, by omega⟩ (by omega) (by first | exact Go.Sl.Cov.refl _ | (intro p; simp only [List.flatten_cons, List.flatten_nil, List.flatten_append, List.append_nil, List.nil_append, Go.Sl.cnt_append, Go.Sl.cnt_cons, Go.Sl.cnt_nil, List.set_cons_zero, List.set_cons_succ, List.length_nil, List.length_cons, Nat.zero_add, List.append]; omega)) (by repeat (first | exact True.intro | refine And.intro rfl ?_))
    · exact xw_round (i + 1) (by omega) (by omega) (by first | exact Go.Sl.Cov.refl _ | (intro p; simp only [List.flatten_cons, List.flatten_nil, List.flatten_append, List.append_nil, List.nil_append, Go.Sl.cnt_append, Go.Sl.cnt_cons, Go.Sl.cnt_nil, List.set_cons_zero, List.set_cons_succ, List.length_nil, List.length_cons, Nat.zero_add, List.append]; omega)) (by repeat (first | exact True.intro | refine And.intro rfl ?_))
  exact done0 rfl (by first | exact Go.Sl.Cov.refl _ | (intro p; simp only [List.flatten_cons, List.flatten_nil, List.flatten_append, List.append_nil, List.nil_append, Go.Sl.cnt_append, Go.Sl.cnt_cons, Go.Sl.cnt_nil, List.set_cons_zero, List.set_cons_succ, List.length_nil, List.length_cons, Nat.zero_add, List.append]; omega))

theorem open_u16s {H : Type} {enc : TypeId × Value → H} {W : World} {base : Nat} {v : Value} {d : DataW H} {p : List MemPlace} (hv : Value.okWide Try.prog W .any base 107 v) (h : DataW.Trod enc Try.prog W 0 (fun _ => true) true 107 v d p) :
    ∃ (l : List Int) (ao : Option Addr) (cap : Nat), v = .slice ao l.length cap ∧ l.length ≤ 9223372036854775807 ∧ ∀ G, Vw enW (St W.heap.size W G) (.slice ao l.length cap) l := by
  obtain ⟨ao, len, cap, rfl⟩ := okWide_slice Try.underlying107 hv
  obtain ⟨fu, h2⟩ := h
  obtain ⟨hlc, hm, f, hf, o⟩ := oldSl (size := 1) Try.underlying107 (by kernel_rfl) (by decide) h2 enW.f enW.ok (fun fuel cs y h => by
    obtain ⟨n, e, hw⟩ := form_int Try.underlying108 h
    refine ⟨n, e, ?_⟩
    show 0 ≤ n ∧ n ≤ 65535
    simp [Lit.wf, IntKind.min, IntKind.max, IntKind.signed, IntKind.bits] at hw
    omega)
  unfold maxLen at hm
  have hlen : ((List.range len).map f).length = len := by simp
  exact ⟨(List.range len).map f, ao, cap, by rw [hlen], by omega, fun G => oldVw wTy o hf hlc G⟩
theorem walk {H : Type} {enc : TypeId × Value → H} (W : World) (base : Nat) (args : Array Value) (ds : List (DataW H)) (p : List MemPlace)
    (hval : ∀ (j : Nat) t v, Try.f14.params[j]? = some t → args[j]? = some v → Value.okWide Try.prog W .any base t v)
    (hA : DataW.TrodAll enc Try.prog W 0 (fun _ => true) true Try.f14.params.toList args.toList ds p) :
    Calls Try.prog 14 args W fun e w' => e = .returned (.bool true) ∧ Below W.heap.size W w' := by
  rw [Try.params14] at hA hval
  obtain ⟨v0, vs0, d0, ds0, p0, q0, hargs, rfl, rfl, h0, r0⟩ := trodAll_cons hA
  obtain ⟨v1, vs1, d1, ds1, p1, q1, rfl, rfl, rfl, h1, r1⟩ := trodAll_cons r0
  obtain ⟨rfl, rfl, rfl⟩ := trodAll_nil r1
  obtain rfl : args = #[v0, v1] := by cases args; simp_all
  obtain ⟨l, ao, cap, rfl, hl, hV⟩ := open_u16s (hval 0 107 v0 rfl rfl) h0
  obtain ⟨n, rfl⟩ := okWide_int Try.underlying89 (hval 1 89 v1 rfl rfl)
  obtain ⟨fu, h2⟩ := h1
  obtain ⟨m, e, hw⟩ := form_int Try.underlying89 h2
  have e2 : [Value.int .u32 n] = [Value.int .u32 m] := e
  injection e2 with e3
  injection e3 with _ e4
  subst e4
  have hb : 0 ≤ n ∧ n ≤ 4294967295 := by
    simp [Lit.wf, IntKind.min, IntKind.max, IntKind.signed, IntKind.bits] at hw
    omega
  exact (law hb hl hV []).call

theorem own : ownKnob Try.prog.godebug = none := by kernel_rfl
theorem laidOut : laidOutB Try.prog = true := by kernel_rfl
theorem reads : ∀ t ∈ Try.f14.params.toList, Try.prog.readableRec t = true ∧ t < Try.prog.types.size := by
  rw [Try.params14]
  intro t ht
  simp only [List.mem_cons, List.not_mem_nil, or_false] at ht
  rcases ht with rfl | rfl
  · exact ⟨by kernel_rfl, of_decide_eq_true (by kernel_rfl)⟩
  · exact ⟨by kernel_rfl, of_decide_eq_true (by kernel_rfl)⟩

set_option maxRecDepth 100000 in
theorem lifted (os : Os) (started : os.Started) (H : Type) (enc : TypeId × Value → H) :
    ReturnsInHanded {} Try.checked os 14 .any (Rows.acksToldSpec.pre6 enc Try.prog Try.f14 Rows.acksToldRow.domain false) (Rows.acksToldSpec.post enc Try.prog Try.f14 false true false false) := by
  refine returnsInHanded_of_change (C := Try.checked) own started (by kernel_rfl) Try.func14
    (ChangeSpec.witness6 (enc := enc) (C := Try.checked) false ⟨#[], #[.slice none 0 0, .int .u32 0], []⟩ 8 (by kernel_rfl) (by kernel_rfl) (by kernel_rfl) (by kernel_rfl)) ?_
  intro W base args ds gs before hval hW _ _
  have hW' := hW
  obtain ⟨p, q, hA0, hV, rfl, _, _⟩ := hW
  obtain ⟨rfl, rfl⟩ := trodVars_none hV
  have hA : DataW.TrodAll enc Try.prog W 0 (fun _ => true) true Try.f14.params.toList args.toList ds p := hA0
  have hlen := trodAll_len hA
  refine (walk W base args ds p hval hA).mono fun e W' ⟨he, bel⟩ => ?_
  subst he
  rw [Try.params14] at hlen
  match ds, hlen.2, hA, hW' with
  | [d0, d1], _, hA, hW' => exact ⟨_, rfl, _, _, _, [], _, [], hW', trodAll_mk1 (shut_bool Try.underlying4 _), trodAll_stays laidOut bel reads hA, rfl, bel.frame _, fun h => by cases h⟩

theorem over : Rows.acksToldRow.holds Try.pinned (OpenSpec.ofChange Rows.acksToldSpec) :=
  OpenClaim.holds_of_wide 14 Try.f14 rfl rfl rfl rfl rfl rfl rfl ⟨rfl, rfl, rfl, rfl, rfl⟩ rfl rfl rfl rfl rfl (by kernel_rfl) Try.func14 (by kernel_rfl)
    (of_decide_eq_true (by kernel_rfl)) (by unfold Func.isWrapper; first | (rw [if_pos (by decide +kernel)]; kernel_rfl) | (rw [if_neg (by decide +kernel)]; exact ⟨rfl, rfl⟩))
    (fun os started H enc _ => lifted os started H enc)

theorem proved : Rows.AcksToldSaid := over

end Go.Proofs.Ytbpnnkkbaakdjaa.lawAcksTold
