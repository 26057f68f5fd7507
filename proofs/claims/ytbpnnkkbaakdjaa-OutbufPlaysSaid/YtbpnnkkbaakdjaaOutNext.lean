/- What Next, Sent, Came and Lost of outbuf.Buffer do, each as a contract. Conditions: numbers fit their types, no more bytes than a buffer holds. -/
import Derived.Test.YtbpnnkkbaakdjaaOut
namespace Go.Proofs.Ytbpnnkkbaakdjaa
open Go Go.Sl Go.Proofs
set_option maxRecDepth 20000
set_option linter.unusedVariables false
set_option linter.unusedSimpArgs false

structure PartM where
  at_ : Int
  data : List UInt8
  fin : Bool
/-- a part as a value -/
structure PartV where
  at_ : Int
  ao : Option Addr
  n : Nat
  cap : Nat
  fin : Bool
instance : Inhabited PartV := ⟨⟨0, none, 0, 0, false⟩⟩
def PartV.cells (p : PartV) : List Value := [.int .u64 p.at_, .slice p.ao p.n p.cap, .bool p.fin]
def enP : Enc PartV := ⟨PartV.cells, 3, fun p => .agg p.cells.toArray, fun _ => True⟩
theorem pTy : EncTy Try.prog 64 enP := EncTy.agg Ty.ag64 (by decide) (fun _ => rfl) (fun _ _ => rfl) (fun a _ u hu => by
  simp only [enP, PartV.cells, List.mem_cons, List.not_mem_nil, or_false] at hu
  rcases hu with rfl | rfl | rfl <;> rfl)
theorem b_part0 : Build Try.prog 64 #[] (.agg (PartV.cells ⟨0, none, 0, 0, false⟩).toArray) := fun w => by kernel_rfl
theorem b_part2 {n : Int} : Build Try.prog 64 #[(0, .int .u64 n), (2, .bool true)] (.agg (PartV.cells ⟨n, none, 0, 0, true⟩).toArray) := fun w => by kernel_rfl
theorem b_part3 {n : Int} {ao : Option Addr} {k cap : Nat} {f : Bool} : Build Try.prog 64 #[(0, .int .u64 n), (1, .slice ao k cap), (2, .bool f)] (.agg (PartV.cells ⟨n, ao, k, cap, f⟩).toArray) := fun w => by kernel_rfl
theorem okP (p : PartV) : enP.ok p := trivial

/-- what is sent next -/
def BufM.next (m : BufM) (most limit : Int) : PartM × Bool :=
  if most ≤ 0 then (⟨0, [], false⟩, false)
  else if (firstR m.pend 0).2 = false then (if m.waits = true then (⟨m.base + m.data.length, [], true⟩, true) else (⟨0, [], false⟩, false))
  else if min (firstR m.pend 0).1.b limit ≤ (firstR m.pend 0).1.a then (⟨0, [], false⟩, false)
  else (⟨(firstR m.pend 0).1.a, (m.data.take (min (min (firstR m.pend 0).1.b limit) ((firstR m.pend 0).1.a + most) - m.base).toNat).drop ((firstR m.pend 0).1.a - m.base).toNat, m.fin && decide (min (min (firstR m.pend 0).1.b limit) ((firstR m.pend 0).1.a + most) = m.base + m.data.length)⟩, true)

theorem BufM.next_some {m : BufM} {most limit : Int} (h1 : ¬ most ≤ 0) (h2 : (!(firstR m.pend 0).2) = false) (h3 : ¬ min (firstR m.pend 0).1.b limit ≤ (firstR m.pend 0).1.a) :
    m.next most limit = (⟨(firstR m.pend 0).1.a, (m.data.take (min (min (firstR m.pend 0).1.b limit) ((firstR m.pend 0).1.a + most) - m.base).toNat).drop ((firstR m.pend 0).1.a - m.base).toNat, m.fin && decide (min (min (firstR m.pend 0).1.b limit) ((firstR m.pend 0).1.a + most) = m.base + m.data.length)⟩, true) := by
  rw [BufM.next, if_neg h1, if_neg (by simpa using h2), if_neg h3]
theorem outNext_c {B : Nat} {w0 : World} {G : List Hp} {m : BufM} {b : Nat} {c : Hp} {most limit : Int} (hO : OutAt m b c) (hs : Sub c G) (hw : m.WF) (hm : -9223372036854775808 ≤ most ∧ most ≤ 1000000) (hlim : 0 ≤ limit ∧ limit ≤ 18446744073709551615) :
    Go.Sl.Fn Try.prog 39 #[.pointer (some ⟨b, 0, none⟩), .int .i64 most, .int .u64 limit] B w0 G fun u G' => ∃ x : Option Addr × Nat × Hp, u = .tuple #[enP.val ⟨(m.next most limit).1.at_, x.1, (m.next most limit).1.data.length, x.2.1, (m.next most limit).1.fin⟩, .bool (m.next most limit).2] ∧ Ls enB 5 (.slice x.1 (m.next most limit).1.data.length x.2.1) x.2.2 (m.next most limit).1.data ∧ G' = [x.2.2] ++ G := by
  refine Fn.new ?_
  have hO' := hO
  obtain ⟨ao, cap, bp, bc, cd, cp, cc, rfl, hL, hP, hC⟩ := hO
  have hs1 := hs.left
  have hs2 := hs.right.left
  have hsp := hs.right.right.left
  have h1 := hw.low
  have h2 := hw.top
  have hfo : enR.ok (firstR m.pend 0).1 := by
    unfold firstR
    split
    · rename_i h
      have h3 := hw.gp.1 _ (List.getElem_mem h)
      exact ⟨by have := h3.1; have := h3.2.1; have := h3.2.2; dsimp only; omega, by have := h3.1; have := h3.2.1; have := h3.2.2; dsimp only; omega⟩
    · exact ok_z
  have hf2 := len2 _ hfo
  have hf3 := one2 _ hfo
  refine fn_enter Try.func39 rfl (by kernel_rfl) Try.ntmps39 (by simp) ?_
  have hfr : (firstR m.pend 0).2 = true → m.base ≤ (firstR m.pend 0).1.a ∧ (firstR m.pend 0).1.a < (firstR m.pend 0).1.b ∧ (firstR m.pend 0).1.b ≤ m.base + m.data.length := fun h => by
    rcases first_low (n := 0) hw.gp with ⟨h3, _⟩ | ⟨_, h3, h4, h5, _, _⟩
    · rw [h3] at h; cases h
    · have h6 := hw.ip _ (h5 ((firstR m.pend 0).1.b - 1) (by omega) (by omega))
      refine ⟨?_, h4, by omega⟩
      rcases Int.lt_or_le (firstR m.pend 0).1.a m.base with h7 | h7
      · exact absurd (hw.gone _ h3 h7) (hw.dis _ (h5 _ (Int.le_refl _) h4))
      · exact h7
  have hfa : 0 ≤ (firstR m.pend 0).1.a ∧ (firstR m.pend 0).1.a ≤ 65536 := by
    refine ⟨hfo.1.1, ?_⟩
    cases hq : (firstR m.pend 0).2 with
    | true => have := hfr hq; omega
    | false =>
      have : (firstR m.pend 0).1.a = 0 := by
        unfold firstR at hq ⊢
        split at hq
        · cases hq
        · rename_i h; rw [dif_neg h]
      omega
  refine Go.Sl.cw_seq ?_
  refine Go.Sl.cw_region ?_
  (refine Go.Sl.ow_alloc rfl rfl Ty.ze64 ?_; intro b6)
  refine Go.Sl.ow_val rfl rfl (Go.Sl.v_assign rfl) ?_
  refine Go.Sl.ow_nil ?_
  refine Go.Sl.xw_then ?_
  refine Go.Sl.cw_seq ?_
  refine Go.Sl.cw_seq ?_
  refine Go.Sl.cw_region ?_
  refine Go.Sl.ow_val rfl rfl (Go.Sl.v_move rfl) ?_
  refine Go.Sl.ow_val rfl rfl (Go.Sl.v_eql_nil_some Try.underlying58 rfl) ?_
  refine Go.Sl.ow_val rfl rfl (Go.Sl.v_move rfl) ?_
  refine Go.Sl.ow_val rfl rfl (Go.Sl.v_move rfl) ?_
  refine Go.Sl.ow_val rfl rfl (Go.Sl.v_leq rfl rfl) ?_
  refine Go.Sl.ow_val rfl rfl (Go.Sl.v_pick_false rfl rfl) ?_
  refine Go.Sl.ow_nil ?_
  refine Go.Sl.xw_then ?_
  refine Go.Sl.cw_dec rfl (fun hc17 => ?_) (fun hc17 => ?_)
  refine Go.Sl.cw_seq ?_
  refine Go.Sl.cw_region ?_
  refine Go.Sl.ow_val rfl rfl (Go.Sl.v_build rfl (b_part0)) ?_
  refine Go.Sl.ow_storeE rfl (pTy) rfl rfl .here (by first | rfl | assumption) (okP _) ?_
  refine Go.Sl.ow_val rfl rfl (Go.Sl.v_assign rfl) ?_
  refine Go.Sl.ow_nil ?_
  refine Go.Sl.xw_then ?_
  refine Go.Sl.cw_ret ?_
  refine Go.Sl.xw_then_ret ?_
  refine Go.Sl.ret2 rfl (Go.Sl.res_cell rfl (Go.Sl.Var.atN Ty.ag64 .here Go.Sl.GetN.all (by first | rfl | assumption))) (Go.Sl.res_tmp rfl) ?_
  rotate_left
  refine Go.Sl.cw_skip ?_
  refine Go.Sl.xw_then ?_
  refine Go.Sl.cw_seq ?_
  refine Go.Sl.cw_region ?_
  refine Go.Sl.ow_val rfl rfl (Go.Sl.v_move rfl) ?_
  refine Go.Sl.ow_val rfl rfl (Go.Sl.v_nilCheck rfl) ?_
  refine Go.Sl.ow_val rfl rfl (Go.Sl.v_fieldAddr0 Ty.fd133_2 rfl) ?_
  refine Go.Sl.ow_val rfl rfl (Go.Sl.v_load rfl (Go.Sl.Var.sub1 Ty.sc25 (by repeat (first | assumption | refine Go.Sl.Sub.there ?_)) (.head _) (Go.Sl.GetN.lit rfl))) ?_
  refine Go.Sl.ow_val rfl rfl (Go.Sl.v_call rfl rfl (setFirst_l hP hsp.there hw.sp)) ?_
  refine Go.Sl.ow_val rfl rfl (Go.Sl.v_move rfl) ?_
  refine Go.Sl.ow_val rfl rfl (Go.Sl.v_extract rfl rfl) ?_
  refine Go.Sl.ow_val rfl rfl (Go.Sl.v_extract rfl rfl) ?_
  (refine Go.Sl.ow_alloc rfl rfl Ty.ze28 ?_; intro b8)
  refine Go.Sl.ow_storeN rfl rfl rfl Ty.ag28 (by first | rfl | assumption) (by first | assumption | simp) .here (Go.Sl.SetN.all (by first | rfl | assumption | simp_all)) ?_
  refine Go.Sl.ow_val rfl rfl (Go.Sl.v_assign rfl) ?_
  refine Go.Sl.ow_nil ?_
  refine Go.Sl.xw_then ?_
  refine Go.Sl.cw_seq ?_
  refine Go.Sl.cw_seq ?_
  refine Go.Sl.cw_region ?_
  refine Go.Sl.ow_val rfl rfl (Go.Sl.v_move rfl) ?_
  refine Go.Sl.ow_val rfl rfl (Go.Sl.v_not_bool rfl) ?_
  refine Go.Sl.ow_nil ?_
  refine Go.Sl.xw_then ?_
  refine Go.Sl.cw_bool rfl (fun hc28 => ?_) (fun hc28 => ?_)
  refine Go.Sl.cw_seq ?_
  refine Go.Sl.cw_seq ?_
  refine Go.Sl.cw_region ?_
  refine Go.Sl.ow_val rfl rfl (Go.Sl.v_move rfl) ?_
  refine Go.Sl.ow_val rfl rfl (Go.Sl.v_nilCheck rfl) ?_
  refine Go.Sl.ow_val rfl rfl (Go.Sl.v_fieldAddr0 Ty.fd133_5 rfl) ?_
  refine Go.Sl.ow_val rfl rfl (Go.Sl.v_load rfl (Go.Sl.Var.sub1 Ty.sc4 (by repeat (first | assumption | refine Go.Sl.Sub.there ?_)) (.head _) (Go.Sl.GetN.lit rfl))) ?_
  refine Go.Sl.ow_val rfl rfl (Go.Sl.v_not_bool rfl) ?_
  refine Go.Sl.ow_nil ?_
  refine Go.Sl.xw_then ?_
  refine Go.Sl.cw_bool rfl (fun hc33 => ?_) (fun hc33 => ?_)
  refine Go.Sl.cw_seq ?_
  refine Go.Sl.cw_region ?_
  refine Go.Sl.ow_val rfl rfl (Go.Sl.v_build rfl (b_part0)) ?_
  refine Go.Sl.ow_storeE rfl (pTy) rfl rfl (.there .here) (by first | rfl | assumption) (okP _) ?_
  refine Go.Sl.ow_val rfl rfl (Go.Sl.v_assign rfl) ?_
  refine Go.Sl.ow_nil ?_
  refine Go.Sl.xw_then ?_
  refine Go.Sl.cw_ret ?_
  refine Go.Sl.xw_then_ret ?_
  refine Go.Sl.xw_then_ret ?_
  refine Go.Sl.ret2 rfl (Go.Sl.res_cell rfl (Go.Sl.Var.atN Ty.ag64 (.there .here) Go.Sl.GetN.all (by first | rfl | assumption))) (Go.Sl.res_tmp rfl) ?_
  rotate_left
  refine Go.Sl.cw_skip ?_
  refine Go.Sl.xw_then ?_
  refine Go.Sl.cw_seq ?_
  refine Go.Sl.cw_region ?_
  refine Go.Sl.ow_val rfl rfl (Go.Sl.v_move rfl) ?_
  refine Go.Sl.ow_val rfl rfl (Go.Sl.v_call rfl rfl (outStop_c hO' hs.there.there hw)) ?_
  refine Go.Sl.ow_val rfl rfl (Go.Sl.v_build rfl (b_part2)) ?_
  refine Go.Sl.ow_storeE rfl (pTy) rfl rfl (.there .here) (by first | rfl | assumption) (okP _) ?_
  refine Go.Sl.ow_val rfl rfl (Go.Sl.v_assign rfl) ?_
  refine Go.Sl.ow_nil ?_
  refine Go.Sl.xw_then ?_
  refine Go.Sl.cw_ret ?_
  refine Go.Sl.xw_then_ret ?_
  refine Go.Sl.ret2 rfl (Go.Sl.res_cell rfl (Go.Sl.Var.atN Ty.ag64 (.there .here) Go.Sl.GetN.all (by first | rfl | assumption))) (Go.Sl.res_tmp rfl) ?_
  rotate_left
  refine Go.Sl.cw_skip ?_
  refine Go.Sl.xw_then ?_
  refine Go.Sl.cw_seq ?_
  refine Go.Sl.cw_region ?_
  refine Go.Sl.ow_val rfl rfl (Go.Sl.v_fieldAddr0 Ty.fd28_1 rfl) ?_
  refine Go.Sl.ow_val rfl rfl (Go.Sl.v_load rfl (Go.Sl.Var.at1 Ty.sc23 .here (Go.Sl.GetN.lit rfl))) ?_
  refine Go.Sl.ow_val rfl rfl (Go.Sl.v_move rfl) ?_
  refine Go.Sl.ow_val rfl rfl (Go.Sl.v_min rfl rfl) ?_
  refine Go.Sl.ow_val rfl rfl (Go.Sl.v_assign rfl) ?_
  refine Go.Sl.ow_nil ?_
  refine Go.Sl.xw_then ?_
  refine Go.Sl.cw_seq ?_
  refine Go.Sl.cw_seq ?_
  refine Go.Sl.cw_region ?_
  refine Go.Sl.ow_val rfl rfl (Go.Sl.v_move rfl) ?_
  refine Go.Sl.ow_val rfl rfl (Go.Sl.v_fieldAddr0 Ty.fd28_0 rfl) ?_
  refine Go.Sl.ow_val rfl rfl (Go.Sl.v_load rfl (Go.Sl.Var.at1 Ty.sc23 .here (Go.Sl.GetN.lit rfl))) ?_
  refine Go.Sl.ow_val rfl rfl (Go.Sl.v_leq rfl rfl) ?_
  refine Go.Sl.ow_nil ?_
  refine Go.Sl.xw_then ?_
  refine Go.Sl.cw_dec rfl (fun hc45 => ?_) (fun hc45 => ?_)
  refine Go.Sl.cw_seq ?_
  refine Go.Sl.cw_region ?_
  refine Go.Sl.ow_val rfl rfl (Go.Sl.v_build rfl (b_part0)) ?_
  refine Go.Sl.ow_storeE rfl (pTy) rfl rfl (.there .here) (by first | rfl | assumption) (okP _) ?_
  refine Go.Sl.ow_val rfl rfl (Go.Sl.v_assign rfl) ?_
  refine Go.Sl.ow_nil ?_
  refine Go.Sl.xw_then ?_
  refine Go.Sl.cw_ret ?_
  refine Go.Sl.xw_then_ret ?_
  refine Go.Sl.ret2 rfl (Go.Sl.res_cell rfl (Go.Sl.Var.atN Ty.ag64 (.there .here) Go.Sl.GetN.all (by first | rfl | assumption))) (Go.Sl.res_tmp rfl) ?_
  rotate_left
  refine Go.Sl.cw_skip ?_
  refine Go.Sl.xw_then ?_
  refine Go.Sl.cw_seq ?_
  refine Go.Sl.cw_region ?_
  refine Go.Sl.ow_val rfl rfl (Go.Sl.v_move rfl) ?_
  refine Go.Sl.ow_val rfl rfl (Go.Sl.v_fieldAddr0 Ty.fd28_0 rfl) ?_
  refine Go.Sl.ow_val rfl rfl (Go.Sl.v_load rfl (Go.Sl.Var.at1 Ty.sc23 .here (Go.Sl.GetN.lit rfl))) ?_
  refine Go.Sl.ow_val rfl rfl (Go.Sl.v_move rfl) ?_
  refine Go.Sl.ow_val rfl rfl (Go.Sl.v_convert Try.underlying3 Try.underlying23 rfl (Go.Sl.nw_u64 (by omega) (by omega))) ?_
  refine Go.Sl.ow_val rfl rfl (Go.Sl.v_add rfl rfl (Go.Sl.nw_u64 (by omega) (by omega))) ?_
  refine Go.Sl.ow_val rfl rfl (Go.Sl.v_min rfl rfl) ?_
  refine Go.Sl.ow_val rfl rfl (Go.Sl.v_assign rfl) ?_
  refine Go.Sl.ow_nil ?_
  refine Go.Sl.xw_then ?_
  rotate_left
  · rw [show m.next most limit = (⟨0, [], false⟩, false) from if_pos hc17]
    exact ⟨(none, 0, []), rfl, Ls.nil, (by first | exact Go.Sl.Cov.refl _ | (intro p; simp only [List.flatten_cons, List.flatten_nil, List.flatten_append, List.append_nil, List.nil_append, Go.Sl.cnt_append, Go.Sl.cnt_cons, Go.Sl.cnt_nil, List.set_cons_zero, List.set_cons_succ, List.length_nil, List.length_cons, Nat.zero_add, List.append]; omega))⟩
  · rw [show m.next most limit = (⟨0, [], false⟩, false) from by rw [BufM.next, if_neg hc17, if_pos (by simpa using hc28), if_neg (by simpa using hc33)]]
    exact ⟨(none, 0, []), rfl, Ls.nil, (by first | exact Go.Sl.Cov.refl _ | (intro p; simp only [List.flatten_cons, List.flatten_nil, List.flatten_append, List.append_nil, List.nil_append, Go.Sl.cnt_append, Go.Sl.cnt_cons, Go.Sl.cnt_nil, List.set_cons_zero, List.set_cons_succ, List.length_nil, List.length_cons, Nat.zero_add, List.append]; omega))⟩
  · rw [show m.next most limit = (⟨m.base + m.data.length, [], true⟩, true) from by rw [BufM.next, if_neg hc17, if_pos (by simpa using hc28), if_pos (by simpa using hc33)]]
    exact ⟨(none, 0, []), rfl, Ls.nil, (by first | exact Go.Sl.Cov.refl _ | (intro p; simp only [List.flatten_cons, List.flatten_nil, List.flatten_append, List.append_nil, List.nil_append, Go.Sl.cnt_append, Go.Sl.cnt_cons, Go.Sl.cnt_nil, List.set_cons_zero, List.set_cons_succ, List.length_nil, List.length_cons, Nat.zero_add, List.append]; omega))⟩
  · rw [show m.next most limit = (⟨0, [], false⟩, false) from by rw [BufM.next, if_neg hc17, if_neg (by simpa using hc28), if_pos hc45]]
    exact ⟨(none, 0, []), rfl, Ls.nil, (by first | exact Go.Sl.Cov.refl _ | (intro p; simp only [List.flatten_cons, List.flatten_nil, List.flatten_append, List.append_nil, List.nil_append, Go.Sl.cnt_append, Go.Sl.cnt_cons, Go.Sl.cnt_nil, List.set_cons_zero, List.set_cons_succ, List.length_nil, List.length_cons, Nat.zero_add, List.append]; omega))⟩
  rw [BufM.next_some hc17 hc28 hc45]
  dsimp only
  obtain ⟨hf4, hf5, hf6⟩ := hfr (by simpa using hc28)
  have hcap := capLe hL
  have hdl : ((m.data.take (min (min (firstR m.pend 0).1.b limit) ((firstR m.pend 0).1.a + most) - m.base).toNat).drop ((firstR m.pend 0).1.a - m.base).toNat).length = (min (min (firstR m.pend 0).1.b limit) ((firstR m.pend 0).1.a + most) - m.base).toNat - ((firstR m.pend 0).1.a - m.base).toNat := by rw [List.length_drop, List.length_take]; omega
  have hVs : ∀ {G : List Hp}, Go.Sl.Sub cd G → Vw enB (St B w0 G) (.slice (cutA ao cap ((firstR m.pend 0).1.a - m.base).toNat 1) ((min (min (firstR m.pend 0).1.b limit) ((firstR m.pend 0).1.a + most) - m.base).toNat - ((firstR m.pend 0).1.a - m.base).toNat) (cap - ((firstR m.pend 0).1.a - m.base).toNat)) ((m.data.take (min (min (firstR m.pend 0).1.b limit) ((firstR m.pend 0).1.a + most) - m.base).toNat).drop ((firstR m.pend 0).1.a - m.base).toNat) := fun {G} hs => Vw.sub2 u8Ty (Vw.sub1 u8Ty (hL.vw hs) (by omega)) (by rw [List.length_take]; omega)
  refine Go.Sl.cw_seq ?_
  refine Go.Sl.cw_mix [] [18, 19] [0, 1, 2, 3, 4, 5, 6, 7, 8, 9, 10, 11, 12, 13, 14, 15, 16, 17] Ty.mixed rfl rfl rfl rfl (by decide +kernel) ?_
  refine Go.Sl.hw_pure rfl rfl (Go.Sl.v_move rfl) rfl ?_
  refine Go.Sl.hw_pure rfl rfl (Go.Sl.v_nilCheck rfl) rfl ?_
  refine Go.Sl.hw_pure rfl rfl (Go.Sl.v_fieldAddr0 Ty.fd133_0 rfl) rfl ?_
  refine Go.Sl.hw_read rfl rfl rfl (Go.Sl.v_load rfl (Go.Sl.Var.sub1 Ty.sc57 (by repeat (first | assumption | refine Go.Sl.Sub.there ?_)) (.head _) (Go.Sl.GetN.lit rfl))) ?_
  refine Go.Sl.hw_pure rfl rfl (Go.Sl.v_fieldAddr0 Ty.fd28_0 rfl) rfl ?_
  refine Go.Sl.hw_read rfl rfl rfl (Go.Sl.v_load rfl (Go.Sl.Var.at1 Ty.sc23 .here (Go.Sl.GetN.lit rfl))) ?_
  refine Go.Sl.hw_pure rfl rfl (Go.Sl.v_move rfl) rfl ?_
  refine Go.Sl.hw_pure rfl rfl (Go.Sl.v_nilCheck rfl) rfl ?_
  refine Go.Sl.hw_pure rfl rfl (Go.Sl.v_fieldAddr0 Ty.fd133_1 rfl) rfl ?_
  refine Go.Sl.hw_read rfl rfl rfl (Go.Sl.v_load rfl (Go.Sl.Var.sub1 Ty.sc23 (by repeat (first | assumption | refine Go.Sl.Sub.there ?_)) (.head _) (Go.Sl.GetN.lit rfl))) ?_
  refine Go.Sl.hw_pure rfl rfl (Go.Sl.v_sub rfl rfl (Go.Sl.nw_u64 (by omega) (by omega))) rfl ?_
  refine Go.Sl.hw_pure rfl rfl (Go.Sl.v_move rfl) rfl ?_
  refine Go.Sl.hw_pure rfl rfl (Go.Sl.v_move rfl) rfl ?_
  refine Go.Sl.hw_pure rfl rfl (Go.Sl.v_nilCheck rfl) rfl ?_
  refine Go.Sl.hw_pure rfl rfl (Go.Sl.v_fieldAddr0 Ty.fd133_1 rfl) rfl ?_
  refine Go.Sl.hw_read rfl rfl rfl (Go.Sl.v_load rfl (Go.Sl.Var.sub1 Ty.sc23 (by repeat (first | assumption | refine Go.Sl.Sub.there ?_)) (.head _) (Go.Sl.GetN.lit rfl))) ?_
  refine Go.Sl.hw_pure rfl rfl (Go.Sl.v_sub rfl rfl (Go.Sl.nw_u64 (by omega) (by omega))) rfl ?_
  refine Go.Sl.hw_pure rfl rfl (Go.Sl.v_slice_lh Try.underlying57 Ty.el57 rfl rfl rfl (Int.toNat_of_nonneg (by omega)).symm (Int.toNat_of_nonneg (by omega)).symm (by omega) (by omega)) rfl ?_
  refine Go.Sl.hw_nil ?_
  refine Go.Sl.sw_nil ?_
  (refine Go.Sl.ow_call rfl rfl rfl rfl (cloneB_c (hVs hs2.there.there) (by rw [hdl]; omega)) ?_; rintro _ _ ⟨x72, rfl, hq72, rfl⟩)
  refine Go.Sl.ow_val rfl rfl (Go.Sl.v_assign rfl) ?_
  refine Go.Sl.ow_nil ?_
  refine Go.Sl.xw_np ?_
  refine Go.Sl.xw_then ?_
  refine Go.Sl.cw_seq ?_
  refine Go.Sl.cw_mix [] [14, 15] [0, 1, 2, 3, 4, 5, 6, 7, 8, 9, 10, 11, 12, 13] Ty.mixed rfl rfl rfl rfl (by decide +kernel) ?_
  refine Go.Sl.hw_pure rfl rfl (Go.Sl.v_fieldAddr0 Ty.fd28_0 rfl) rfl ?_
  refine Go.Sl.hw_read rfl rfl rfl (Go.Sl.v_load rfl (Go.Sl.Var.at1 Ty.sc23 (.there .here) (Go.Sl.GetN.lit rfl))) ?_
  refine Go.Sl.hw_pure rfl rfl (Go.Sl.v_move rfl) rfl ?_
  refine Go.Sl.hw_pure rfl rfl (Go.Sl.v_move rfl) rfl ?_
  refine Go.Sl.hw_pure rfl rfl (Go.Sl.v_nilCheck rfl) rfl ?_
  refine Go.Sl.hw_pure rfl rfl (Go.Sl.v_fieldAddr0 Ty.fd133_4 rfl) rfl ?_
  refine Go.Sl.hw_read rfl rfl rfl (Go.Sl.v_load rfl (Go.Sl.Var.sub1 Ty.sc4 (by repeat (first | assumption | refine Go.Sl.Sub.there ?_)) (.head _) (Go.Sl.GetN.lit rfl))) ?_
  refine Go.Sl.hw_pure rfl rfl (Go.Sl.v_move rfl) rfl ?_
  refine Go.Sl.hw_bool 80 rfl (fun hc80 => ?_) (fun hc80 => ?_)
  refine Go.Sl.hw_pure rfl rfl (Go.Sl.v_move rfl) rfl ?_
  refine Go.Sl.hw_pure rfl rfl (Go.Sl.v_move rfl) rfl ?_
  refine Go.Sl.hw_read rfl rfl rfl (Go.Sl.v_call rfl rfl (outStop_c hO' hs.there.there.there hw)) ?_
  refine Go.Sl.hw_pure rfl rfl (Go.Sl.v_eql rfl rfl) rfl ?_
  refine Go.Sl.hw_pure rfl rfl (Go.Sl.v_pick_true rfl rfl) rfl ?_
  refine Go.Sl.hw_pure rfl rfl (Go.Sl.v_build rfl (b_part3)) rfl ?_
  refine Go.Sl.hw_nil ?_
  refine Go.Sl.sw_nil ?_
  refine Go.Sl.ow_storeE rfl (pTy) rfl rfl (.there (.there .here)) (by first | rfl | assumption) (okP _) ?_
  refine Go.Sl.ow_val rfl rfl (Go.Sl.v_assign rfl) ?_
  refine Go.Sl.ow_nil ?_
  refine Go.Sl.xw_np ?_
  refine Go.Sl.xw_then ?_
  refine Go.Sl.cw_ret ?_
  refine Go.Sl.ret2 rfl (Go.Sl.res_cell rfl (Go.Sl.Var.atN Ty.ag64 (.there (.there .here)) Go.Sl.GetN.all (by first | rfl | assumption))) (Go.Sl.res_tmp rfl) ?_
  rotate_left
  refine Go.Sl.hw_skip rfl rfl ?_
  refine Go.Sl.hw_skip rfl rfl ?_
  refine Go.Sl.hw_skip rfl rfl ?_
  refine Go.Sl.hw_skip rfl rfl ?_
  refine Go.Sl.hw_pure rfl rfl (Go.Sl.v_pick_false rfl rfl) rfl ?_
  refine Go.Sl.hw_pure rfl rfl (Go.Sl.v_build rfl (b_part3)) rfl ?_
  refine Go.Sl.hw_nil ?_
  refine Go.Sl.sw_nil ?_
  refine Go.Sl.ow_storeE rfl (pTy) rfl rfl (.there (.there .here)) (by first | rfl | assumption) (okP _) ?_
  refine Go.Sl.ow_val rfl rfl (Go.Sl.v_assign rfl) ?_
  refine Go.Sl.ow_nil ?_
  refine Go.Sl.xw_np ?_
  refine Go.Sl.xw_then ?_
  refine Go.Sl.cw_ret ?_
  refine Go.Sl.ret2 rfl (Go.Sl.res_cell rfl (Go.Sl.Var.atN Ty.ag64 (.there (.there .here)) Go.Sl.GetN.all (by first | rfl | assumption))) (Go.Sl.res_tmp rfl) ?_
  rotate_left
  · exact ⟨x72, by rw [hc80]; rfl, hq72, (by first | exact Go.Sl.Cov.refl _ | (intro p; simp only [List.flatten_cons, List.flatten_nil, List.flatten_append, List.append_nil, List.nil_append, Go.Sl.cnt_append, Go.Sl.cnt_cons, Go.Sl.cnt_nil, List.set_cons_zero, List.set_cons_succ, List.length_nil, List.length_cons, Nat.zero_add, List.append]; omega))⟩
  · exact ⟨x72, by rw [hc80]; rfl, hq72, (by first | exact Go.Sl.Cov.refl _ | (intro p; simp only [List.flatten_cons, List.flatten_nil, List.flatten_append, List.append_nil, List.nil_append, Go.Sl.cnt_append, Go.Sl.cnt_cons, Go.Sl.cnt_nil, List.set_cons_zero, List.set_cons_succ, List.length_nil, List.length_cons, Nat.zero_add, List.append]; omega))⟩
end Go.Proofs.Ytbpnnkkbaakdjaa
