/- The laws of package outbuf: their fixed fact. Conditions: none. -/
import Derived.Test.YtbpnnkkbaakdjaaOutCame
import Derived.Test.YtbpnnkkbaakdjaaBytes
namespace Go.Proofs.Ytbpnnkkbaakdjaa
open Go Go.Sl Go.Proofs
set_option maxRecDepth 20000
set_option linter.unusedVariables false
set_option linter.unusedSimpArgs false

theorem buf0_wf : buf0.WF := ⟨by simp [buf0], by simp [buf0], Good.nil, Good.nil, fun n h => absurd h InR.nil, fun n h => absurd h InR.nil, fun n h => absurd h InR.nil, fun n h1 h2 => by simp [buf0] at h2; omega, InR.nil⟩
def abc : List UInt8 := [97, 98, 99]
theorem awkO1 : buf0.write abc = ⟨abc, 0, [⟨0, 3⟩], [], false, false, false⟩ := by rfl
theorem awkO2 : (⟨abc, 0, [⟨0, 3⟩], [], false, false, false⟩ : BufM).next 2 10 = (⟨0, [97, 98], false⟩, true) := by rfl
theorem awkO3 : (⟨abc, 0, [⟨0, 3⟩], [], false, false, false⟩ : BufM).WF := by
  rw [← awkO1]
  exact BufM.write_wf buf0_wf (by decide)
theorem abc_eq : [(97 : Int), 98, 99].map toB = abc := by rfl
theorem outAwake_c {B : Nat} {w0 : World} {G : List Hp} :
    Go.Sl.Fn Try.prog 35 #[] B w0 G fun u G' => u = .bool true ∧ G' = G := by
  refine Fn.pure ?_
  have a1 : ∀ {G : List Hp} {R : Hp → List Hp} {b : Nat} {c : Hp} {ao : Option Addr} {n cap : Nat}, OutAt buf0 b c → Sel G c R → Vw enB (St B w0 G) (.slice ao n cap) abc → Go.Sl.Fn Try.prog 37 #[.pointer (some ⟨b, 0, none⟩), .slice ao n cap] B w0 G fun u G' => ∃ c' : Hp, u = .tuple #[.int .i64 3, .int .i64 0] ∧ OutAt ⟨abc, 0, [⟨0, 3⟩], [], false, false, false⟩ b c' ∧ G' = R c' := fun hO hs hV => outWrite_c hs hO buf0_wf hV (by decide)
  have a2 : ∀ {G : List Hp} {b : Nat} {c : Hp}, OutAt ⟨abc, 0, [⟨0, 3⟩], [], false, false, false⟩ b c → Sub c G → Go.Sl.Fn Try.prog 39 #[.pointer (some ⟨b, 0, none⟩), .int .i64 2, .int .u64 10] B w0 G fun u G' => ∃ x : Option Addr × Nat × Hp, u = .tuple #[enP.val ⟨0, x.1, 2, x.2.1, false⟩, .bool true] ∧ Ls enB 5 (.slice x.1 2 x.2.1) x.2.2 [97, 98] ∧ G' = [x.2.2] ++ G := fun hO hs => by
    have h := outNext_c (B := B) (w0 := w0) hO hs awkO3 (most := 2) (limit := 10) (by decide) (by decide)
    rw [awkO2] at h
    exact h
  refine fn_enter Try.func35 rfl (by kernel_rfl) Try.ntmps35 (by simp) ?_
  refine Go.Sl.cw_seq ?_
  refine Go.Sl.cw_region ?_
  refine Go.Sl.ow_val rfl rfl (Go.Sl.v_assign rfl) ?_
  refine Go.Sl.ow_nil ?_
  refine Go.Sl.xw_then ?_
  refine Go.Sl.cw_seq ?_
  refine Go.Sl.cw_region ?_
  (refine Go.Sl.ow_call rfl rfl rfl rfl (newOut_c) ?_; rintro _ _ ⟨x6, rfl, hq6, rfl⟩)
  refine Go.Sl.ow_val rfl rfl (Go.Sl.v_assign rfl) ?_
  refine Go.Sl.ow_nil ?_
  refine Go.Sl.xw_then ?_
  refine Go.Sl.cw_seq ?_
  refine Go.Sl.cw_region ?_
  refine Go.Sl.ow_val rfl rfl (Go.Sl.v_move rfl) ?_
  (refine Go.Sl.ow_buildL (es := ([(97 : Int), 98, 99])) rfl rfl Try.underlying57 Ty.em57 (iTy) rfl rfl (by simp [*]) (by simp only [List.length_cons, List.length_nil]; decide) ?_; intro ao9 c9 hL9)
  (refine ow_mark rfl rfl Try.underlying57 Try.underlying5 rfl (by assumption) (by simp) (by repeat (first | exact Go.Sl.Sel.here | apply Go.Sl.Sel.there)) ?_; intro c10 hr10)
  (refine Go.Sl.ow_call rfl rfl rfl rfl (a1 (by assumption) (by repeat (first | exact Go.Sl.Sel.here | apply Go.Sl.Sel.there)) (Vw.bytes (l := [97, 98, 99]) (Rd.vw (by assumption) (by repeat (first | exact Go.Sl.Sub.here | assumption | refine Go.Sl.Sub.there ?_))))) ?_; rintro _ _ ⟨x11, rfl, hq11, rfl⟩)
  refine Go.Sl.ow_val rfl rfl (Go.Sl.v_move rfl) ?_
  refine Go.Sl.ow_val rfl rfl (Go.Sl.v_extract rfl rfl) ?_
  refine Go.Sl.ow_val rfl rfl (Go.Sl.v_extract rfl rfl) ?_
  refine Go.Sl.ow_val rfl rfl (Go.Sl.v_assign rfl) ?_
  refine Go.Sl.ow_val rfl rfl (Go.Sl.v_assign rfl) ?_
  refine Go.Sl.ow_nil ?_
  refine Go.Sl.xw_then ?_
  refine Go.Sl.cw_seq ?_
  refine Go.Sl.cw_region ?_
  refine Go.Sl.ow_val rfl rfl (Go.Sl.v_move rfl) ?_
  (refine Go.Sl.ow_call rfl rfl rfl rfl (a2 (by assumption) (by repeat (first | exact Go.Sl.Sub.here | assumption | refine Go.Sl.Sub.there ?_))) ?_; rintro _ _ ⟨x16, rfl, hq16, rfl⟩)
  refine Go.Sl.ow_val rfl rfl (Go.Sl.v_move rfl) ?_
  refine Go.Sl.ow_val rfl rfl (Go.Sl.v_extract rfl rfl) ?_
  refine Go.Sl.ow_val rfl rfl (Go.Sl.v_extract rfl rfl) ?_
  (refine Go.Sl.ow_alloc rfl rfl Ty.ze64 ?_; intro b4)
  refine Go.Sl.ow_storeE rfl (pTy) rfl rfl .here (by first | rfl | assumption) (okP _) ?_
  refine Go.Sl.ow_val rfl rfl (Go.Sl.v_assign rfl) ?_
  refine Go.Sl.ow_nil ?_
  refine Go.Sl.xw_then ?_
  refine Go.Sl.cw_seq ?_
  refine Go.Sl.cw_region ?_
  refine Go.Sl.ow_val rfl rfl (Go.Sl.v_move rfl) ?_
  refine Go.Sl.ow_val rfl rfl (Go.Sl.v_eql rfl rfl) ?_
  refine Go.Sl.ow_val rfl rfl (Go.Sl.v_move rfl) ?_
  refine Go.Sl.ow_dec 21 rfl (fun hc21 => ?_) (fun hc21 => ?_)
  rotate_left; (exfalso; omega); rotate_right
  refine Go.Sl.ow_val rfl rfl (Go.Sl.v_move rfl) ?_
  refine Go.Sl.ow_val rfl rfl (Go.Sl.v_eql rfl rfl) ?_
  refine Go.Sl.ow_val rfl rfl (Go.Sl.v_pick_true rfl rfl) ?_
  refine Go.Sl.ow_val rfl rfl (Go.Sl.v_move rfl) ?_
  refine Go.Sl.ow_dec 25 rfl (fun hc25 => ?_) (fun hc25 => ?_)
  rotate_left; (exfalso; omega); rotate_right
  refine Go.Sl.ow_val rfl rfl (Go.Sl.v_move rfl) ?_
  refine Go.Sl.ow_val rfl rfl (Go.Sl.v_pick_true rfl rfl) ?_
  refine Go.Sl.ow_val rfl rfl (Go.Sl.v_move rfl) ?_
  refine Go.Sl.ow_val rfl rfl (Go.Sl.v_fieldAddr0 Ty.fd64_0 rfl) ?_
  refine Go.Sl.ow_val rfl rfl (Go.Sl.v_load rfl (Go.Sl.Var.at1 Ty.sc23 .here (Go.Sl.GetN.lit rfl))) ?_
  refine Go.Sl.ow_val rfl rfl (Go.Sl.v_eql rfl rfl) ?_
  refine Go.Sl.ow_val rfl rfl (Go.Sl.v_pick_true rfl rfl) ?_
  refine Go.Sl.ow_val rfl rfl (Go.Sl.v_move rfl) ?_
  refine Go.Sl.ow_dec 33 rfl (fun hc33 => ?_) (fun hc33 => ?_)
  refine Go.Sl.ow_val rfl rfl (Go.Sl.v_fieldAddr0 Ty.fd64_1 rfl) ?_
  refine Go.Sl.ow_val rfl rfl (Go.Sl.v_load rfl (Go.Sl.Var.at1 Ty.sc57 .here (Go.Sl.GetN.lit rfl))) ?_
  refine Go.Sl.ow_val rfl rfl (Go.Sl.v_str Try.underlying9 Try.underlying57 Try.underlying5 rfl ((Ls.vw hq16 (by repeat (first | exact Go.Sl.Sub.here | assumption | refine Go.Sl.Sub.there ?_))))) ?_
  refine Go.Sl.ow_val rfl rfl (Go.Sl.v_eqlS rfl rfl) ?_
  refine Go.Sl.ow_val rfl rfl (Go.Sl.v_pick_true rfl rfl) ?_
  refine Go.Sl.ow_val rfl rfl (Go.Sl.v_move rfl) ?_
  refine Go.Sl.ow_dec 39 rfl (fun hc39 => ?_) (fun hc39 => ?_)
  refine Go.Sl.ow_val rfl rfl (Go.Sl.v_fieldAddr0 Ty.fd64_2 rfl) ?_
  refine Go.Sl.ow_val rfl rfl (Go.Sl.v_load rfl (Go.Sl.Var.at1 Ty.sc4 .here (Go.Sl.GetN.lit rfl))) ?_
  refine Go.Sl.ow_val rfl rfl (Go.Sl.v_not_false rfl) ?_
  refine Go.Sl.ow_val rfl rfl (Go.Sl.v_pick_true rfl rfl) ?_
  refine Go.Sl.ow_val rfl rfl (Go.Sl.v_assign rfl) ?_
  refine Go.Sl.ow_nil ?_
  refine Go.Sl.xw_then ?_
  refine Go.Sl.cw_ret ?_
  refine Go.Sl.ret1 rfl (Go.Sl.res_tmp rfl) ?_
  rotate_left
  refine Go.Sl.ow_skip rfl rfl ?_
  refine Go.Sl.ow_skip rfl rfl ?_
  refine Go.Sl.ow_skip rfl rfl ?_
  refine Go.Sl.ow_val rfl rfl (Go.Sl.v_pick_false rfl rfl) ?_
  refine Go.Sl.ow_val rfl rfl (Go.Sl.v_assign rfl) ?_
  refine Go.Sl.ow_nil ?_
  refine Go.Sl.xw_then ?_
  refine Go.Sl.cw_ret ?_
  refine Go.Sl.ret1 rfl (Go.Sl.res_tmp rfl) ?_
  rotate_left
  refine Go.Sl.ow_skip rfl rfl ?_
  refine Go.Sl.ow_skip rfl rfl ?_
  refine Go.Sl.ow_skip rfl rfl ?_
  refine Go.Sl.ow_skip rfl rfl ?_
  refine Go.Sl.ow_val rfl rfl (Go.Sl.v_pick_false rfl rfl) ?_
  refine Go.Sl.ow_val rfl rfl (Go.Sl.v_move rfl) ?_
  refine Go.Sl.ow_skip rfl rfl ?_
  refine Go.Sl.ow_skip rfl rfl ?_
  refine Go.Sl.ow_skip rfl rfl ?_
  refine Go.Sl.ow_val rfl rfl (Go.Sl.v_pick_false rfl rfl) ?_
  refine Go.Sl.ow_val rfl rfl (Go.Sl.v_assign rfl) ?_
  refine Go.Sl.ow_nil ?_
  refine Go.Sl.xw_then ?_
  refine Go.Sl.cw_ret ?_
  refine Go.Sl.ret1 rfl (Go.Sl.res_tmp rfl) ?_
  rotate_left
  all_goals first
    | exact absurd rfl hc33
    | exact absurd rfl hc39
    | exact ⟨rfl, (by first | exact Go.Sl.Cov.refl _ | (intro p; simp only [List.flatten_cons, List.flatten_nil, List.flatten_append, List.append_nil, List.nil_append, Go.Sl.cnt_append, Go.Sl.cnt_cons, Go.Sl.cnt_nil, List.set_cons_zero, List.set_cons_succ, List.length_nil, List.length_cons, Nat.zero_add, List.append]; omega))⟩

/-! ### One range -/
def rngL (a b : Int) : List Rg := if a < b then [⟨a, b⟩] else []
theorem rngL_good {a b : Int} (ha : 0 ≤ a) (hb : b ≤ 18446744073709551615) : Good (rngL a b) := by
  unfold rngL
  split
  · rename_i h
    exact ⟨fun r hr => by simp at hr; subst hr; exact ⟨ha, h, hb⟩, by simp⟩
  · exact Good.nil
theorem rngL_mem {a b n : Int} : InR (rngL a b) n ↔ a ≤ n ∧ n < b := by
  unfold rngL
  split
  · rw [InR.cons]
    exact ⟨fun h => h.elim id fun h => absurd h InR.nil, .inl⟩
  · exact ⟨fun h => absurd h InR.nil, fun h => by omega⟩
theorem rngL_eq {l : List Rg} {a b : Int} (hg : Good l) (ha : 0 ≤ a) (hb : b ≤ 18446744073709551615) (h : ∀ n, InR l n ↔ a ≤ n ∧ n < b) : l = rngL a b := Good.ext hg (rngL_good ha hb) fun n => by rw [h, rngL_mem]
theorem rngL_nil {a b : Int} (h : b ≤ a) : rngL a b = [] := if_neg (by omega)
theorem rngL_first {a b : Int} (ha : 0 ≤ a) : firstR (rngL a b) 0 = if a < b then (⟨a, b⟩, true) else (⟨0, 0⟩, false) := by
  unfold rngL
  split
  · rename_i h
    have hb : (0 : Int) < b := by omega
    simp [firstR, cutAt, List.findIdx_cons, hb]
    omega
  · simp [firstR, cutAt]
theorem rngL_len {a b : Int} : (rngL a b).length = if a < b then 1 else 0 := by
  unfold rngL
  split <;> rfl
end Go.Proofs.Ytbpnnkkbaakdjaa
