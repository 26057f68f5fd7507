/- IdsMeet: whatever the input it returns true, and the input reads as it did. Conditions: none. -/
import Derived.Test.YtfilpenkihdjiaaIdsMeetLaw
namespace Go.Proofs.Ytfilpenkihdjiaa.lawIdsMeet
open Go Go.Sl Go.Proofs Go.RowKit Go.ChangeShapes Go.WideShapes Go.ChangeAt Go.Proofs.Ytfilpenkihdjiaa
set_option linter.unusedVariables false
set_option linter.unusedSimpArgs false

theorem v_extractL {P : Program} {S : World → Prop} {N : Nat} {E : Env} {ty : TypeId} {x : Operand} {vs : List Value} {i : Nat} {v : Value} (hx : Env.ev E x = some (.tuple vs.toArray)) (hv : vs[i]? = some v) : OpV P S N E (.extract x i) ty v := Go.Sl.v_extract hx (by simpa using hv)
theorem tmod4 {k : Int} (h : 0 ≤ k) : 0 ≤ k.tmod 4 ∧ k.tmod 4 ≤ 3 := by
  have := Int.emod_nonneg k (b := 4) (by decide)
  have := Int.emod_lt_of_pos k (b := 4) (by decide)
  rw [Int.tmod_eq_emod_of_nonneg h]
  omega
theorem bsz (s : ByteArray) : s.data.toList.length = s.size := Array.length_toList
def tokI (i : Nat) : List Int := [(i : Int), 0, 0, 0, 0, 0, 0, 0, 0, 0, 0, 0, 0, 0, 0, 0]
theorem b_tok {i : Nat} : Build Try.prog 28 #[(0, .int .u8 i)] (.agg ((tokI i).map (Value.int .u8)).toArray) := fun w => by kernel_rfl
theorem notb {b : Bool} (h : (!b) = b) : False := by cases b <;> simp at h

structure Mx where
  i : Nat
  a : OwnM
  o : OtherM
  c : Hp
  d : Hp

set_option maxHeartbeats 8000000 in
theorem law {B : Nat} {w0 : World} {acts : List Int} {aoA : Option Addr} {capA : Nat} (hl : acts.length ≤ 9223372036854775807) (hA : ∀ G, Vw enI (St B w0 G) (.slice aoA acts.length capA) acts) :
    FnC Try.prog 5 #[.slice aoA acts.length capA] B w0 [] (R0 (.bool true)) := fun F => by
  have h102 : enI.ok 102 := by show (0 : Int) ≤ 102 ∧ (102 : Int) ≤ 255; omega
  have h105 : enI.ok 105 := by show (0 : Int) ≤ 105 ∧ (105 : Int) ≤ 255; omega
  have h114 : enI.ok 114 := by show (0 : Int) ≤ 114 ∧ (114 : Int) ≤ 255; omega
  have h115 : enI.ok 115 := by show (0 : Int) ≤ 115 ∧ (115 : Int) ≤ 255; omega
  have h116 : enI.ok 116 := by show (0 : Int) ≤ 116 ∧ (116 : Int) ≤ 255; omega
  refine fn_enter Try.func5 rfl (by kernel_rfl) Try.ntmps5 (by simp) ?_
  refine Go.Sl.cw_seq ?_
  refine Go.Sl.cw_region ?_
  refine Go.Sl.ow_val rfl rfl (Go.Sl.v_assign rfl) ?_
  refine Go.Sl.ow_nil ?_
  refine Go.Sl.xw_then ?_
  refine Go.Sl.cw_seq ?_
  refine Go.Sl.cw_seq ?_
  refine Go.Sl.cw_region ?_
  refine Go.Sl.ow_val rfl rfl (Go.Sl.v_call rfl rfl (awake_c)) ?_
  refine Go.Sl.ow_val rfl rfl (Go.Sl.v_not_true rfl) ?_
  refine Go.Sl.ow_nil ?_
  refine Go.Sl.xw_then ?_
  refine Go.Sl.cw_false rfl ?_
  refine Go.Sl.cw_skip ?_
  refine Go.Sl.xw_then ?_
  refine Go.Sl.cw_seq ?_
  refine Go.Sl.cw_region ?_
  (refine Go.Sl.ow_buildL (es := ([(102 : Int), 105, 114, 115, 116])) rfl rfl Try.underlying26 Ty.em26 (iTy) rfl rfl (by simp [*]) (by simp only [List.length_cons, List.length_nil]; decide) ?_; intro ao18 c18 hL18)
  (refine ow_mark rfl rfl Try.underlying26 Try.underlying5 rfl (by assumption) (by simp) (by repeat (first | exact Go.Sl.Sel.here | apply Go.Sl.Sel.there)) ?_; intro c19 hr19)
  (refine Go.Sl.ow_call rfl rfl rfl rfl (newOwn_c (l := [102, 105, 114, 115, 116].map toB) (Vw.bytes (Rd.vw (by assumption) (by repeat (first | exact Go.Sl.Sub.here | assumption | refine Go.Sl.Sub.there ?_))))) ?_; rintro _ _ ⟨x20, rfl, hq20, rfl⟩)
  (refine Go.Sl.ow_buildL (es := ([(102 : Int), 105, 114, 115, 116])) rfl rfl Try.underlying26 Ty.em26 (iTy) rfl rfl (by simp [*]) (by simp only [List.length_cons, List.length_nil]; decide) ?_; intro ao21 c21 hL21)
  (refine ow_mark rfl rfl Try.underlying26 Try.underlying5 rfl (by assumption) (by simp) (by repeat (first | exact Go.Sl.Sel.here | apply Go.Sl.Sel.there)) ?_; intro c22 hr22)
  (refine Go.Sl.ow_call rfl rfl rfl rfl (newOther_c (l := [102, 105, 114, 115, 116].map toB) (Vw.bytes (Rd.vw (by assumption) (by repeat (first | exact Go.Sl.Sub.here | assumption | refine Go.Sl.Sub.there ?_))))) ?_; rintro _ _ ⟨x23, rfl, hq23, rfl⟩)
  refine Go.Sl.ow_val rfl rfl (Go.Sl.v_assign rfl) ?_
  refine Go.Sl.ow_val rfl rfl (Go.Sl.v_assign rfl) ?_
  refine Go.Sl.ow_nil ?_
  refine Go.Sl.xw_then ?_
  refine Go.Sl.cw_seq ?_
  refine Go.Sl.cw_seq ?_
  refine Go.Sl.cw_region ?_
  refine Go.Sl.ow_val rfl rfl (Go.Sl.v_move rfl) ?_
  refine Go.Sl.ow_val rfl rfl (Go.Sl.v_len rfl Try.underlying26 rfl) ?_
  refine Go.Sl.ow_val rfl rfl (Go.Sl.v_move rfl) ?_
  refine Go.Sl.ow_nil ?_
  refine Go.Sl.xw_then ?_
  refine Go.Sl.cw_block ?_
  have hqa : OwnAt meet0a x20.1 x20.2 := hq20
  have hqo : OtherAt meet0o x23.1 x23.2 := hq23
  refine Go.Sl.cw_loop2 (ι := (Mx)) [(0, _), (3, _), (4, _), (24, _), (25, _)] ⟨rfl, rfl, rfl, rfl, rfl, trivial⟩ ((fun x => [(26, .int .i64 x.i)])) ((fun x => x.i ≤ acts.length ∧ x.i ≤ 80 ∧ Meet x.i x.a x.o ∧ OwnAt x.a x20.1 x.c ∧ OtherAt x.o x23.1 x.d)) ((fun x => acts.length - x.i)) ((fun x => x.c :: x.d :: F)) ((⟨0, meet0a, meet0o, x20.2, x23.2⟩ : Mx)) (by repeat (first | exact True.intro | refine And.intro rfl ?_)) (by first | exact Go.Sl.Cov.refl _ | (intro p; simp only [List.flatten_cons, List.flatten_nil, List.flatten_append, List.append_nil, List.nil_append, Go.Sl.cnt_append, Go.Sl.cnt_cons, Go.Sl.cnt_nil, List.set_cons_zero, List.set_cons_succ, List.length_nil, List.length_cons, Nat.zero_add, List.append]; omega)) ?_ ?_
  · exact ⟨Nat.zero_le _, by simp, Meet.start, hqa, hqo⟩
  rintro ⟨i, a, o, c, d⟩ ⟨hi, hi80, hM, hOa, hOo⟩
  dsimp only at hi hi80 hM hOa hOo ⊢
  refine Go.Sl.cw_seq ?_
  refine Go.Sl.cw_region ?_
  refine Go.Sl.ow_val rfl rfl (Go.Sl.v_lss rfl rfl) ?_
  refine Go.Sl.ow_nil ?_
  refine Go.Sl.xw_then ?_
  refine Go.Sl.cw_seq ?_
  refine Go.Sl.cw_dec rfl (fun hc27 => ?_) (fun hc27 => ?_)
  refine Go.Sl.cw_skip ?_
  refine Go.Sl.xw_then ?_
  rotate_left
  refine Go.Sl.cw_exit ?_
  refine Go.Sl.xw_then_exit ?_
  refine Go.Sl.xw_round_exit ?_
  refine Go.Sl.xw_block_exit ?_
  refine Go.Sl.xw_then ?_
  refine Go.Sl.cw_seq ?_
  refine Go.Sl.cw_region ?_
  refine Go.Sl.ow_val rfl rfl (Go.Sl.v_assign rfl) ?_
  refine Go.Sl.ow_nil ?_
  refine Go.Sl.xw_then ?_
  refine Go.Sl.cw_ret ?_
  refine Go.Sl.ret1 rfl (Go.Sl.res_tmp rfl) ?_
  rotate_left
  · have hi2 : i < acts.length := by omega
    have hao := (hA []).ok _ (List.getElem_mem hi2)
    have hao2 : 0 ≤ acts[i] ∧ acts[i] ≤ 255 := hao
    have h4 := tmod4 hao2.1
    refine Go.Sl.cw_seq ?_
    refine Go.Sl.cw_block ?_
    refine Go.Sl.cw_seq ?_
    refine Go.Sl.cw_region ?_
    refine Go.Sl.ow_val rfl rfl (Go.Sl.v_move rfl) ?_
    refine Go.Sl.ow_val rfl rfl (Go.Sl.v_indexAddr_vw Try.underlying26 (iTy) rfl rfl (hA []) rfl (by omega)) ?_
    refine Go.Sl.ow_val rfl rfl (Go.Sl.v_load rfl (Go.Sl.Vw.var (iTy) (hA _) (by omega))) ?_
    refine Go.Sl.ow_val rfl rfl (Go.Sl.v_assign rfl) ?_
    refine Go.Sl.ow_val rfl rfl (Go.Sl.v_assign rfl) ?_
    refine Go.Sl.ow_nil ?_
    refine Go.Sl.xw_then ?_
    refine Go.Sl.cw_seq ?_
    refine Go.Sl.cw_seq ?_
    refine Go.Sl.cw_region ?_
    refine Go.Sl.ow_val rfl rfl (Go.Sl.v_move rfl) ?_
    refine Go.Sl.ow_val rfl rfl (Go.Sl.v_geq rfl rfl) ?_
    refine Go.Sl.ow_nil ?_
    refine Go.Sl.xw_then ?_
    refine Go.Sl.cw_dec rfl (fun hc32 => ?_) (fun hc32 => ?_)
    refine Go.Sl.cw_exit ?_
    refine Go.Sl.xw_then_exit ?_
    refine Go.Sl.xw_block_other rfl ?_
    refine Go.Sl.xw_then_exit ?_
    refine Go.Sl.xw_round_exit ?_
    refine Go.Sl.xw_block_exit ?_
    refine Go.Sl.xw_then ?_
    refine Go.Sl.cw_seq ?_
    refine Go.Sl.cw_region ?_
    refine Go.Sl.ow_val rfl rfl (Go.Sl.v_assign rfl) ?_
    refine Go.Sl.ow_nil ?_
    refine Go.Sl.xw_then ?_
    refine Go.Sl.cw_ret ?_
    refine Go.Sl.ret1 rfl (Go.Sl.res_tmp rfl) ?_
    rotate_left
    refine Go.Sl.cw_skip ?_
    refine Go.Sl.xw_then ?_
    rotate_left
    · exact done0 rfl (by first | exact Go.Sl.Cov.refl _ | (intro p; simp only [List.flatten_cons, List.flatten_nil, List.flatten_append, List.append_nil, List.nil_append, Go.Sl.cnt_append, Go.Sl.cnt_cons, Go.Sl.cnt_nil, List.set_cons_zero, List.set_cons_succ, List.length_nil, List.length_cons, Nat.zero_add, List.append]; omega))
    refine Go.Sl.cw_cut2 (ι := (Mx)) [(0, _), (3, _), (4, _), (24, _), (25, _), (26, _)] ⟨rfl, rfl, rfl, rfl, rfl, rfl, trivial⟩ ((fun _ => [])) ((fun x => x.i = i + 1 ∧ Meet x.i x.a x.o ∧ OwnAt x.a x20.1 x.c ∧ OtherAt x.o x23.1 x.d)) ((fun x => x.c :: x.d :: F)) ?_ ?_
    · refine Go.Sl.cw_seq ?_
      refine Go.Sl.cw_region ?_
      refine Go.Sl.ow_val rfl rfl (Go.Sl.v_move rfl) ?_
      refine Go.Sl.ow_val rfl rfl (Go.Sl.v_rem rfl rfl (by decide)) ?_
      refine Go.Sl.ow_nil ?_
      refine Go.Sl.xw_then ?_
      refine Go.Sl.cw_block ?_
      refine Go.Sl.cw_cut2 (ι := (Bool)) [(0, _), (3, _), (4, _), (5, _), (24, _), (25, _), (26, _), (34, _)] ⟨rfl, rfl, rfl, rfl, rfl, rfl, rfl, rfl, trivial⟩ ((fun b => [(66, .bool b)])) ((fun _ => True)) ((fun _ => c :: d :: F)) ?_ ?_
      · refine Go.Sl.cw_seq ?_
        refine Go.Sl.cw_region ?_
        refine Go.Sl.ow_val rfl rfl (Go.Sl.v_eql rfl rfl) ?_
        refine Go.Sl.ow_val rfl rfl (Go.Sl.v_assign rfl) ?_
        refine Go.Sl.ow_nil ?_
        refine Go.Sl.xw_then ?_
        refine Go.Sl.cw_dec rfl (fun hc66 => ?_) (fun hc66 => ?_)
        refine Go.Sl.cw_skip ?_
        rotate_left
        refine Go.Sl.cw_region ?_
        refine Go.Sl.ow_val rfl rfl (Go.Sl.v_eql rfl rfl) ?_
        refine Go.Sl.ow_val rfl rfl (Go.Sl.v_assign rfl) ?_
        refine Go.Sl.ow_nil ?_
        rotate_left
        all_goals exact xw_joint _ trivial (by first | exact Go.Sl.Cov.refl _ | (intro p; simp only [List.flatten_cons, List.flatten_nil, List.flatten_append, List.append_nil, List.nil_append, Go.Sl.cnt_append, Go.Sl.cnt_cons, Go.Sl.cnt_nil, List.set_cons_zero, List.set_cons_succ, List.length_nil, List.length_cons, Nat.zero_add, List.append]; omega)) ⟨rfl, (by repeat (first | exact True.intro | refine And.intro rfl ?_))⟩
      rintro b _
      have hi79 : i < 80 := by omega
      have hok0 := ok_no
      have hni : enI.ok (i : Int) := by show (0 : Int) ≤ i ∧ (i : Int) ≤ 255; omega
      have h103 : enI.ok 103 := by show (0 : Int) ≤ 103 ∧ (103 : Int) ≤ 255; omega
      have hob := hM.ok
      cases b
      · refine Go.Sl.cw_false rfl ?_
        refine Go.Sl.cw_cut2 (ι := (Bool)) [(0, _), (3, _), (4, _), (24, _), (25, _), (26, _)] ⟨rfl, rfl, rfl, rfl, rfl, rfl, trivial⟩ ((fun b => [(98, .bool b)])) ((fun _ => True)) ((fun _ => c :: d :: F)) ?_ ?_
        · refine Go.Sl.cw_region ?_
          refine Go.Sl.ow_val rfl rfl (Go.Sl.v_eql rfl rfl) ?_
          refine Go.Sl.ow_val rfl rfl (Go.Sl.v_assign rfl) ?_
          refine Go.Sl.ow_nil ?_
          all_goals exact xw_joint _ trivial (by first | exact Go.Sl.Cov.refl _ | (intro p; simp only [List.flatten_cons, List.flatten_nil, List.flatten_append, List.append_nil, List.nil_append, Go.Sl.cnt_append, Go.Sl.cnt_cons, Go.Sl.cnt_nil, List.set_cons_zero, List.set_cons_succ, List.length_nil, List.length_cons, Nat.zero_add, List.append]; omega)) ⟨rfl, (by repeat (first | exact True.intro | refine And.intro rfl ?_))⟩
        rintro b _
        cases b
        · refine Go.Sl.cw_false rfl ?_
          refine Go.Sl.cw_cut2 (ι := (Mx)) [(0, _), (3, _), (4, _), (24, _), (25, _), (26, _)] ⟨rfl, rfl, rfl, rfl, rfl, rfl, trivial⟩ ((fun _ => [])) ((fun x => Meet i x.a x.o ∧ x.o.retired = [] ∧ OwnAt x.a x20.1 x.c ∧ OtherAt x.o x23.1 x.d)) ((fun x => x.c :: x.d :: F)) ?_ ?_
          · refine Go.Sl.cw_seq ?_
            refine Go.Sl.cw_region ?_
            refine Go.Sl.ow_val rfl rfl (Go.Sl.v_move rfl) ?_
            (refine Go.Sl.ow_call rfl rfl rfl rfl (retired_c hOo (by repeat (first | exact Go.Sl.Sub.here | assumption | refine Go.Sl.Sub.there ?_)) hM.ow) ?_; rintro _ _ ⟨x36, rfl, hq36, rfl⟩)
            refine Go.Sl.ow_val rfl rfl (Go.Sl.v_len rfl Try.underlying32 rfl) ?_
            refine Go.Sl.ow_val rfl rfl (Go.Sl.v_move rfl) ?_
            refine Go.Sl.ow_nil ?_
            refine Go.Sl.xw_then ?_
            refine Go.Sl.cw_block ?_
            refine Go.Sl.cw_loop2 (ι := (Mx)) [(0, _), (3, _), (4, _), (24, _), (25, _), (26, _), (36, _), (37, _)] ⟨rfl, rfl, rfl, rfl, rfl, rfl, rfl, rfl, trivial⟩ ((fun x => [(38, .int .i64 x.i)])) ((fun x => x.i ≤ o.retired.length ∧ x.o.retired = o.retired.drop x.i ∧ Meet i x.a x.o ∧ OwnAt x.a x20.1 x.c ∧ OtherAt x.o x23.1 x.d)) ((fun x => o.retired.length - x.i)) ((fun x => x.c :: x.d :: x36.2.2 :: F)) ((⟨0, a, o, c, d⟩ : Mx)) (by repeat (first | exact True.intro | refine And.intro rfl ?_)) (by first | exact Go.Sl.Cov.refl _ | (intro p; simp only [List.flatten_cons, List.flatten_nil, List.flatten_append, List.append_nil, List.nil_append, Go.Sl.cnt_append, Go.Sl.cnt_cons, Go.Sl.cnt_nil, List.set_cons_zero, List.set_cons_succ, List.length_nil, List.length_cons, Nat.zero_add, List.append]; omega)) ?_ ?_
            · exact ⟨Nat.zero_le _, rfl, hM, hOa, hOo⟩
            rintro ⟨j, a2, o2, c2, d2⟩ ⟨hj, hdr, hM2, hOa2, hOo2⟩
            dsimp only at hj hdr hM2 hOa2 hOo2 ⊢
            refine Go.Sl.cw_seq ?_
            refine Go.Sl.cw_region ?_
            refine Go.Sl.ow_val rfl rfl (Go.Sl.v_lss rfl rfl) ?_
            refine Go.Sl.ow_nil ?_
            refine Go.Sl.xw_then ?_
            refine Go.Sl.cw_seq ?_
            refine Go.Sl.cw_dec rfl (fun hc39 => ?_) (fun hc39 => ?_)
            refine Go.Sl.cw_skip ?_
            refine Go.Sl.xw_then ?_
            refine Go.Sl.cw_seq ?_
            refine Go.Sl.cw_block ?_
            refine Go.Sl.cw_seq ?_
            refine Go.Sl.cw_region ?_
            rotate_left
            refine Go.Sl.cw_exit ?_
            refine Go.Sl.xw_then_exit ?_
            refine Go.Sl.xw_round_exit ?_
            refine Go.Sl.xw_block_exit ?_
            rotate_left
            · have hj2 : j < o.retired.length := by omega
              rw [List.drop_eq_getElem_cons hj2] at hdr
              obtain ⟨r1, r2, hM3⟩ := hM2.retire hdr
              have hokn := hq36.ok _ (List.getElem_mem hj2)
              have hfo2 := findE_okM hOo2.ok o2.now
              have hret : ∀ {G : List Hp} {R : Hp → List Hp} {v : Value}, Sel G c2 R → Vw enB (St B w0 G) v (findE o2.now o2.l).id.data.toList → Go.Sl.Fn Try.prog 22 #[.pointer (some ⟨x20.1, 0, none⟩), .int .u64 o.retired[j], v] B w0 G fun u G' => ∃ c' : Hp, u = .int .i64 0 ∧ OwnAt ⟨a2.most, a2.next, a2.l.filter fun e => decide (e.seq ≠ o.retired[j])⟩ x20.1 c' ∧ G' = R c' := fun hsel hV => by
                have h := retire_c (B := B) (w0 := w0) (seq := o.retired[j]) hsel hOa2 hM2.aw hV
                rw [r1] at h
                exact h
              have htold : ∀ {G : List Hp} {R : Hp → List Hp}, Sel G d2 R → Go.Sl.Fn Try.prog 14 #[.pointer (some ⟨x23.1, 0, none⟩), .int .u64 o.retired[j]] B w0 G fun u G' => ∃ c' : Hp, u = .tuple #[] ∧ OtherAt ⟨o2.most, o2.l, o2.now, o2.prior, o.retired.drop (j + 1)⟩ x23.1 c' ∧ G' = R c' := fun hsel => by
                have h := told_c (B := B) (w0 := w0) (seq := o.retired[j]) hsel hOo2 hM2.ow
                rw [r2] at h
                exact h
              refine Go.Sl.ow_val rfl rfl (Go.Sl.v_indexAddr_ls Try.underlying32 (uTy) rfl rfl (by assumption) rfl (by omega)) ?_
              refine Go.Sl.ow_val rfl rfl (Go.Sl.v_load rfl (Go.Sl.Vw.var (uTy) ((hq36.vw (by repeat (first | exact Go.Sl.Sub.here | assumption | refine Go.Sl.Sub.there ?_)))) (by omega))) ?_
              refine Go.Sl.ow_val rfl rfl (Go.Sl.v_assign rfl) ?_
              refine Go.Sl.ow_nil ?_
              refine Go.Sl.xw_then ?_
              refine Go.Sl.cw_seq ?_
              refine Go.Sl.cw_seq ?_
              refine Go.Sl.cw_region ?_
              refine Go.Sl.ow_val rfl rfl (Go.Sl.v_move rfl) ?_
              refine Go.Sl.ow_val rfl rfl (Go.Sl.v_move rfl) ?_
              refine Go.Sl.ow_val rfl rfl (Go.Sl.v_move rfl) ?_
              refine Go.Sl.ow_val rfl rfl (Go.Sl.v_call rfl rfl (now_c hOo2 (by repeat (first | exact Go.Sl.Sub.here | assumption | refine Go.Sl.Sub.there ?_)) hM2.ow)) ?_
              refine Go.Sl.ow_val rfl rfl (v_field Try.underlying30 rfl rfl Ty.sc9 rfl rfl) ?_
              (refine Go.Sl.ow_bytes rfl rfl Try.underlying26 Try.underlying9 Try.underlying5 rfl ?_; intro ao47 cap47 c47 hb47)
              (refine Go.Sl.ow_call rfl rfl rfl rfl (hret (by repeat (first | exact Go.Sl.Sel.here | apply Go.Sl.Sel.there)) (Rd.vw (by assumption) (by repeat (first | exact Go.Sl.Sub.here | assumption | refine Go.Sl.Sub.there ?_)))) ?_; rintro _ _ ⟨x48, rfl, hq48, rfl⟩)
              refine Go.Sl.ow_val rfl rfl (Go.Sl.v_neq rfl rfl) ?_
              refine Go.Sl.ow_nil ?_
              refine Go.Sl.xw_then ?_
              refine Go.Sl.cw_false rfl ?_
              refine Go.Sl.cw_skip ?_
              refine Go.Sl.xw_then ?_
              refine Go.Sl.cw_region ?_
              refine Go.Sl.ow_val rfl rfl (Go.Sl.v_move rfl) ?_
              refine Go.Sl.ow_val rfl rfl (Go.Sl.v_move rfl) ?_
              (refine Go.Sl.ow_call rfl rfl rfl rfl (htold (by repeat (first | exact Go.Sl.Sel.here | apply Go.Sl.Sel.there))) ?_; rintro _ _ ⟨x52, rfl, hq52, rfl⟩)
              refine Go.Sl.ow_nil ?_
              refine Go.Sl.xw_block ?_
              refine Go.Sl.xw_then ?_
              refine Go.Sl.cw_region ?_
              refine Go.Sl.ow_val rfl rfl (Go.Sl.v_add rfl rfl (Go.Sl.nw_i64 (by omega) (by omega))) ?_
              refine Go.Sl.ow_val rfl rfl (Go.Sl.v_move rfl) ?_
              refine Go.Sl.ow_nil ?_
              all_goals first
                | exact absurd rfl hc49
                | exact xw_round (⟨j + 1, _, _, x48, x52⟩ : Mx) ⟨by dsimp only; omega, rfl, hM3, hq48, hq52⟩ (by dsimp only; omega) (by first | exact Go.Sl.Cov.refl _ | (intro p; simp only [List.flatten_cons, List.flatten_nil, List.flatten_append, List.append_nil, List.nil_append, Go.Sl.cnt_append, Go.Sl.cnt_cons, Go.Sl.cnt_nil, List.set_cons_zero, List.set_cons_succ, List.length_nil, List.length_cons, Nat.zero_add, List.append]; omega)) (by repeat (first | exact True.intro | refine And.intro rfl ?_))
            · exact xw_joint (⟨0, a2, o2, c2, d2⟩ : Mx) ⟨hM2, by rw [hdr]; exact List.drop_eq_nil_of_le (by omega), hOa2, hOo2⟩ (by first | exact Go.Sl.Cov.refl _ | (intro p; simp only [List.flatten_cons, List.flatten_nil, List.flatten_append, List.append_nil, List.nil_append, Go.Sl.cnt_append, Go.Sl.cnt_cons, Go.Sl.cnt_nil, List.set_cons_zero, List.set_cons_succ, List.length_nil, List.length_cons, Nat.zero_add, List.append]; omega)) (by repeat (first | exact True.intro | refine And.intro rfl ?_))
          · rintro ⟨_, a2, o2, c2, d2⟩ ⟨hM2, hr2, hOa2, hOo2⟩
            dsimp only at hM2 hr2 hOa2 hOo2 ⊢
            have hr0 : o2.retired.length = 0 := by rw [hr2]; rfl
            have hsm := hM2.same hr2
            have hob2 := hM2.ok
            refine Go.Sl.cw_seq ?_
            refine Go.Sl.cw_region ?_
            refine Go.Sl.ow_val rfl rfl (Go.Sl.v_move rfl) ?_
            (refine Go.Sl.ow_call rfl rfl rfl rfl (retired_c hOo2 (by repeat (first | exact Go.Sl.Sub.here | assumption | refine Go.Sl.Sub.there ?_)) hM2.ow) ?_; rintro _ _ ⟨x55, rfl, hq55, rfl⟩)
            refine Go.Sl.ow_val rfl rfl (Go.Sl.v_len rfl Try.underlying32 rfl) ?_
            refine Go.Sl.ow_val rfl rfl (Go.Sl.v_neq rfl rfl) ?_
            refine Go.Sl.ow_val rfl rfl (Go.Sl.v_move rfl) ?_
            refine Go.Sl.ow_dec 58 rfl (fun hc58 => ?_) (fun hc58 => ?_)
            (exfalso; omega)
            refine Go.Sl.ow_val rfl rfl (Go.Sl.v_move rfl) ?_
            (refine Go.Sl.ow_call rfl rfl rfl rfl (ownList_c hOa2 (by repeat (first | exact Go.Sl.Sub.here | assumption | refine Go.Sl.Sub.there ?_)) hM2.aw) ?_; rintro _ _ ⟨x60, rfl, hq60, rfl⟩)
            refine Go.Sl.ow_val rfl rfl (Go.Sl.v_move rfl) ?_
            (refine Go.Sl.ow_call rfl rfl rfl rfl (otherList_c hOo2 (by repeat (first | exact Go.Sl.Sub.here | assumption | refine Go.Sl.Sub.there ?_)) hM2.ow) ?_; rintro _ _ ⟨x62, rfl, hq62, rfl⟩)
            refine Go.Sl.ow_val rfl rfl (Go.Sl.v_call rfl rfl (same_c (hq60.vw (by repeat (first | exact Go.Sl.Sub.here | assumption | refine Go.Sl.Sub.there ?_))) (hq62.vw (by repeat (first | exact Go.Sl.Sub.here | assumption | refine Go.Sl.Sub.there ?_))) (by omega))) ?_
            refine Go.Sl.ow_val rfl rfl (Go.Sl.v_not rfl) ?_
            refine Go.Sl.ow_val rfl rfl (Go.Sl.v_pick_false rfl rfl) ?_
            refine Go.Sl.ow_nil ?_
            refine Go.Sl.xw_then ?_
            refine Go.Sl.cw_dec rfl (fun hc65 => ?_) (fun hc65 => ?_)
            refine Go.Sl.cw_seq ?_
            refine Go.Sl.cw_region ?_
            refine Go.Sl.ow_val rfl rfl (Go.Sl.v_assign rfl) ?_
            refine Go.Sl.ow_nil ?_
            refine Go.Sl.xw_then ?_
            refine Go.Sl.cw_ret ?_
            refine Go.Sl.xw_block_ret ?_
            refine Go.Sl.xw_joint_ret ?_
            refine Go.Sl.xw_block_ret ?_
            refine Go.Sl.xw_then_ret ?_
            refine Go.Sl.xw_round_ret ?_
            refine Go.Sl.xw_block_ret ?_
            refine Go.Sl.xw_then_ret ?_
            refine Go.Sl.ret1 rfl (Go.Sl.res_tmp rfl) ?_
            rotate_left
            refine Go.Sl.cw_skip ?_
            refine Go.Sl.xw_block ?_
            rotate_left
            all_goals first
              | exact absurd (by omega) hc58
              | exact absurd hc57 (by omega)
              | exact xw_joint (⟨i + 1, a2, o2, c2, d2⟩ : Mx) ⟨rfl, hM2.later, hOa2, hOo2⟩ (by first | exact Go.Sl.Cov.refl _ | (intro p; simp only [List.flatten_cons, List.flatten_nil, List.flatten_append, List.append_nil, List.nil_append, Go.Sl.cnt_append, Go.Sl.cnt_cons, Go.Sl.cnt_nil, List.set_cons_zero, List.set_cons_succ, List.length_nil, List.length_cons, Nat.zero_add, List.append]; omega)) (by repeat (first | exact True.intro | refine And.intro rfl ?_))
              | exact absurd hsm.symm hc65
        · obtain ⟨s1, hM'⟩ := hM.switch
          have hfo := findE_okM hOo.ok o.now
          have hfn := findE_okM (sw_ok hOo.ok) o.switch.1.now
          have hsw : ∀ {G : List Hp} {R : Hp → List Hp}, Sel G d R → Go.Sl.Fn Try.prog 13 #[.pointer (some ⟨x23.1, 0, none⟩)] B w0 G fun u G' => ∃ c' : Hp, u = .bool (!decide (findE o.switch.1.now o.switch.1.l = findE o.now o.l)) ∧ OtherAt o.switch.1 x23.1 c' ∧ G' = R c' := fun hsel => by
            have h := switch_c (B := B) (w0 := w0) hsel hOo hM.ow
            rw [s1] at h
            exact h
          refine Go.Sl.cw_true rfl ?_
          refine Go.Sl.cw_seq ?_
          refine Go.Sl.cw_region ?_
          refine Go.Sl.ow_val rfl rfl (Go.Sl.v_move rfl) ?_
          refine Go.Sl.ow_val rfl rfl (Go.Sl.v_call rfl rfl (now_c hOo (by repeat (first | exact Go.Sl.Sub.here | assumption | refine Go.Sl.Sub.there ?_)) hM.ow)) ?_
          (refine Go.Sl.ow_alloc rfl rfl Ty.ze30 ?_; intro b9)
          refine Go.Sl.ow_storeE rfl (eTy) rfl rfl .here (by first | rfl | assumption) (by assumption) ?_
          refine Go.Sl.ow_nil ?_
          refine Go.Sl.xw_then ?_
          refine Go.Sl.cw_seq ?_
          refine Go.Sl.cw_any Ty.mixed ?_
          refine Go.Sl.aw_pure 0 rfl (by decide +kernel) rfl rfl (Go.Sl.v_move rfl) rfl ?_
          refine Go.Sl.aw_pure 2 rfl (by decide +kernel) rfl rfl (Go.Sl.v_move rfl) rfl ?_
          refine Go.Sl.aw_step2 1 4 (by decide +kernel) rfl rfl ?_ ?_
          (refine Go.Sl.ow_call rfl rfl rfl rfl (hsw (by repeat (first | exact Go.Sl.Sel.here | apply Go.Sl.Sel.there))) ?_; rintro _ _ ⟨x103, rfl, hq103, rfl⟩)
          refine Go.Sl.ow_nil ?_
          refine Go.Sl.xw_nx ?_
          refine Go.Sl.aw_step2 3 4 (by decide +kernel) rfl rfl ?_ ?_
          refine Go.Sl.ow_val rfl rfl (Go.Sl.v_call rfl rfl (now_c (by assumption) (by repeat (first | exact Go.Sl.Sub.here | assumption | refine Go.Sl.Sub.there ?_)) hM'.ow)) ?_
          refine Go.Sl.ow_nil ?_
          refine Go.Sl.xw_nx ?_
          refine Go.Sl.aw_step1 4 (by decide +kernel) rfl ?_
          refine Go.Sl.ow_val rfl rfl (Go.Sl.v_load rfl (Go.Sl.Var.atE (eTy) .here (by assumption))) ?_
          refine Go.Sl.ow_nil ?_
          refine Go.Sl.xw_nx ?_
          refine Go.Sl.aw_pure 5 rfl (by decide +kernel) rfl rfl (Go.Sl.v_eqlA rfl rfl Ty.gt30 (eqE hfn hfo)) rfl ?_
          refine Go.Sl.aw_pure 6 rfl (by decide +kernel) rfl rfl (Go.Sl.v_eqlB Try.underlying4 rfl rfl) rfl ?_
          refine Go.Sl.aw_end (by decide +kernel) ?_
          refine Go.Sl.xw_np ?_
          refine Go.Sl.xw_then ?_
          refine Go.Sl.cw_dec rfl (fun hc108 => ?_) (fun hc108 => ?_)
          refine Go.Sl.cw_seq ?_
          refine Go.Sl.cw_region ?_
          refine Go.Sl.ow_val rfl rfl (Go.Sl.v_assign rfl) ?_
          refine Go.Sl.ow_nil ?_
          refine Go.Sl.xw_then ?_
          refine Go.Sl.cw_ret ?_
          refine Go.Sl.xw_block_ret ?_
          refine Go.Sl.xw_joint_ret ?_
          refine Go.Sl.xw_block_ret ?_
          refine Go.Sl.xw_then_ret ?_
          refine Go.Sl.xw_round_ret ?_
          refine Go.Sl.xw_block_ret ?_
          refine Go.Sl.xw_then_ret ?_
          refine Go.Sl.ret1 rfl (Go.Sl.res_tmp rfl) ?_
          rotate_left
          refine Go.Sl.cw_skip ?_
          refine Go.Sl.xw_block ?_
          rotate_left
          refine Go.Sl.ow_val rfl rfl (Go.Sl.v_load rfl (Go.Sl.Var.atE (eTy) .here (by assumption))) ?_
          refine Go.Sl.ow_nil ?_
          refine Go.Sl.xw_nx ?_
          refine Go.Sl.aw_step1 3 (by decide +kernel) rfl ?_
          refine Go.Sl.ow_val rfl rfl (Go.Sl.v_call rfl rfl (now_c (by assumption) (by repeat (first | exact Go.Sl.Sub.here | assumption | refine Go.Sl.Sub.there ?_)) hM'.ow)) ?_
          refine Go.Sl.ow_nil ?_
          refine Go.Sl.xw_nx ?_
          refine Go.Sl.aw_pure 5 rfl (by decide +kernel) rfl rfl (Go.Sl.v_eqlA rfl rfl Ty.gt30 (eqE hfn hfo)) rfl ?_
          refine Go.Sl.aw_pure 6 rfl (by decide +kernel) rfl rfl (Go.Sl.v_eqlB Try.underlying4 rfl rfl) rfl ?_
          refine Go.Sl.aw_end (by decide +kernel) ?_
          refine Go.Sl.xw_np ?_
          refine Go.Sl.xw_then ?_
          refine Go.Sl.cw_dec rfl (fun hc108 => ?_) (fun hc108 => ?_)
          refine Go.Sl.cw_seq ?_
          refine Go.Sl.cw_region ?_
          refine Go.Sl.ow_val rfl rfl (Go.Sl.v_assign rfl) ?_
          refine Go.Sl.ow_nil ?_
          refine Go.Sl.xw_then ?_
          refine Go.Sl.cw_ret ?_
          refine Go.Sl.xw_block_ret ?_
          refine Go.Sl.xw_joint_ret ?_
          refine Go.Sl.xw_block_ret ?_
          refine Go.Sl.xw_then_ret ?_
          refine Go.Sl.xw_round_ret ?_
          refine Go.Sl.xw_block_ret ?_
          refine Go.Sl.xw_then_ret ?_
          refine Go.Sl.ret1 rfl (Go.Sl.res_tmp rfl) ?_
          rotate_left
          refine Go.Sl.cw_skip ?_
          refine Go.Sl.xw_block ?_
          rotate_left
          refine Go.Sl.ow_val rfl rfl (Go.Sl.v_load rfl (Go.Sl.Var.atE (eTy) .here (by assumption))) ?_
          refine Go.Sl.ow_nil ?_
          refine Go.Sl.xw_nx ?_
          refine Go.Sl.aw_step1 1 (by decide +kernel) rfl ?_
          (refine Go.Sl.ow_call rfl rfl rfl rfl (hsw (by repeat (first | exact Go.Sl.Sel.here | apply Go.Sl.Sel.there))) ?_; rintro _ _ ⟨x103, rfl, hq103, rfl⟩)
          refine Go.Sl.ow_nil ?_
          refine Go.Sl.xw_nx ?_
          refine Go.Sl.aw_step1 3 (by decide +kernel) rfl ?_
          refine Go.Sl.ow_val rfl rfl (Go.Sl.v_call rfl rfl (now_c (by assumption) (by repeat (first | exact Go.Sl.Sub.here | assumption | refine Go.Sl.Sub.there ?_)) hM'.ow)) ?_
          refine Go.Sl.ow_nil ?_
          refine Go.Sl.xw_nx ?_
          refine Go.Sl.aw_pure 5 rfl (by decide +kernel) rfl rfl (Go.Sl.v_eqlA rfl rfl Ty.gt30 (eqE hfn hfo)) rfl ?_
          refine Go.Sl.aw_pure 6 rfl (by decide +kernel) rfl rfl (Go.Sl.v_eqlB Try.underlying4 rfl rfl) rfl ?_
          refine Go.Sl.aw_end (by decide +kernel) ?_
          refine Go.Sl.xw_np ?_
          refine Go.Sl.xw_then ?_
          refine Go.Sl.cw_dec rfl (fun hc108 => ?_) (fun hc108 => ?_)
          refine Go.Sl.cw_seq ?_
          refine Go.Sl.cw_region ?_
          refine Go.Sl.ow_val rfl rfl (Go.Sl.v_assign rfl) ?_
          refine Go.Sl.ow_nil ?_
          refine Go.Sl.xw_then ?_
          refine Go.Sl.cw_ret ?_
          refine Go.Sl.xw_block_ret ?_
          refine Go.Sl.xw_joint_ret ?_
          refine Go.Sl.xw_block_ret ?_
          refine Go.Sl.xw_then_ret ?_
          refine Go.Sl.xw_round_ret ?_
          refine Go.Sl.xw_block_ret ?_
          refine Go.Sl.xw_then_ret ?_
          refine Go.Sl.ret1 rfl (Go.Sl.res_tmp rfl) ?_
          rotate_left
          refine Go.Sl.cw_skip ?_
          refine Go.Sl.xw_block ?_
          rotate_left
          all_goals first
            | exact (notb hc108).elim
            | exact xw_joint (⟨i + 1, a, o.switch.1, c, x103⟩ : Mx) ⟨rfl, hM'.later, hOa, hq103⟩ (by first | exact Go.Sl.Cov.refl _ | (intro p; simp only [List.flatten_cons, List.flatten_nil, List.flatten_append, List.append_nil, List.nil_append, Go.Sl.cnt_append, Go.Sl.cnt_cons, Go.Sl.cnt_nil, List.set_cons_zero, List.set_cons_succ, List.length_nil, List.length_cons, Nat.zero_add, List.append]; omega)) (by repeat (first | exact True.intro | refine And.intro rfl ?_))
      · by_cases hlt : (a.l.length : Int) < a.most
        · obtain ⟨g1, g2, hM'⟩ := hM.give (tok := tokI i) hi79 hlt
          have hg := hM.giveYes (tok := tokI i) hi79 hlt
          have hne := hM.aw.next
          have hoke : enE.ok ⟨a.next, gB i, tokI i⟩ := ⟨hne.1, by dsimp only; omega, rfl⟩
          have hgive : ∀ {G : List Hp} {R : Hp → List Hp} {v : Value}, Sel G c R → Vw enB (St B w0 G) v ([103, (i : Int)].map toB) → Go.Sl.Fn Try.prog 21 #[.pointer (some ⟨x20.1, 0, none⟩), v, .agg ((tokI i).map (Value.int .u8)).toArray] B w0 G fun u G' => ∃ c' : Hp, u = .tuple #[enE.val ⟨a.next, gB i, tokI i⟩, .int .i64 0] ∧ OwnAt ⟨a.most, a.next + 1, a.l ++ [⟨a.next, gB i, tokI i⟩]⟩ x20.1 c' ∧ G' = R c' := fun hsel hV => by
            have h := give_c (B := B) (w0 := w0) hsel hOa hM.aw hV (tok := tokI i) rfl
            rw [hg] at h
            exact h
          have hadd1 : ∀ {G : List Hp} {R : Hp → List Hp}, Sel G d R → Go.Sl.Fn Try.prog 12 #[.pointer (some ⟨x23.1, 0, none⟩), enE.val ⟨a.next, gB i, tokI i⟩, .int .u64 0] B w0 G fun u G' => ∃ c' : Hp, u = .int .i64 0 ∧ OtherAt ⟨o.most, o.l ++ [⟨a.next, gB i, tokI i⟩], o.now, o.prior, o.retired⟩ x23.1 c' ∧ G' = R c' := fun hsel => by
            have h := add_c (B := B) (w0 := w0) (prior := 0) hsel hOo hM.ow hoke (by omega)
            rw [g1] at h
            exact h
          have hadd2 : ∀ {G : List Hp} {R : Hp → List Hp} {d' : Hp}, OtherAt ⟨o.most, o.l ++ [⟨a.next, gB i, tokI i⟩], o.now, o.prior, o.retired⟩ x23.1 d' → Sel G d' R → Go.Sl.Fn Try.prog 12 #[.pointer (some ⟨x23.1, 0, none⟩), enE.val ⟨a.next, gB i, tokI i⟩, .int .u64 0] B w0 G fun u G' => ∃ c' : Hp, u = .int .i64 0 ∧ OtherAt ⟨o.most, o.l ++ [⟨a.next, gB i, tokI i⟩], o.now, o.prior, o.retired⟩ x23.1 c' ∧ G' = R c' := fun hO hsel => by
            have h := add_c (B := B) (w0 := w0) (prior := 0) hsel hO hM'.ow hoke (by omega)
            rw [g2] at h
            exact h
          refine Go.Sl.cw_true rfl ?_
          refine Go.Sl.cw_seq ?_
          refine Go.Sl.cw_region ?_
          refine Go.Sl.ow_val rfl rfl (Go.Sl.v_move rfl) ?_
          refine Go.Sl.ow_val rfl rfl (Go.Sl.v_move rfl) ?_
          refine Go.Sl.ow_val rfl rfl (Go.Sl.v_convert Try.underlying3 Try.underlying5 rfl (Go.Sl.nw_u8 (by omega) (by omega))) ?_
          (refine Go.Sl.ow_buildL (es := ([(103 : Int), (i : Int)])) rfl rfl Try.underlying26 Ty.em26 (iTy) rfl rfl (by simp [*]) (by simp only [List.length_cons, List.length_nil]; decide) ?_; intro ao73 c73 hL73)
          refine Go.Sl.ow_val rfl rfl (Go.Sl.v_move rfl) ?_
          refine Go.Sl.ow_val rfl rfl (Go.Sl.v_convert Try.underlying3 Try.underlying5 rfl (Go.Sl.nw_u8 (by omega) (by omega))) ?_
          refine Go.Sl.ow_val rfl rfl (Go.Sl.v_build rfl (b_tok)) ?_
          (refine Go.Sl.ow_call rfl rfl rfl rfl (hgive (by repeat (first | exact Go.Sl.Sel.here | apply Go.Sl.Sel.there)) (Vw.bytes (Ls.vw (by assumption) (by repeat (first | exact Go.Sl.Sub.here | assumption | refine Go.Sl.Sub.there ?_))))) ?_; rintro _ _ ⟨x77, rfl, hq77, rfl⟩)
          refine Go.Sl.ow_val rfl rfl (Go.Sl.v_move rfl) ?_
          refine Go.Sl.ow_val rfl rfl (v_extractL rfl rfl) ?_
          refine Go.Sl.ow_val rfl rfl (v_extractL rfl rfl) ?_
          (refine Go.Sl.ow_alloc rfl rfl Ty.ze30 ?_; intro b7)
          refine Go.Sl.ow_storeE rfl (eTy) rfl rfl .here (by first | rfl | assumption) (by assumption) ?_
          refine Go.Sl.ow_val rfl rfl (Go.Sl.v_assign rfl) ?_
          refine Go.Sl.ow_nil ?_
          refine Go.Sl.xw_then ?_
          refine Go.Sl.cw_seq ?_
          refine Go.Sl.cw_seq ?_
          refine Go.Sl.cw_region ?_
          refine Go.Sl.ow_val rfl rfl (Go.Sl.v_move rfl) ?_
          refine Go.Sl.ow_val rfl rfl (Go.Sl.v_neq rfl rfl) ?_
          refine Go.Sl.ow_nil ?_
          refine Go.Sl.xw_then ?_
          refine Go.Sl.cw_false rfl ?_
          refine Go.Sl.cw_skip ?_
          refine Go.Sl.xw_then ?_
          refine Go.Sl.cw_seq ?_
          refine Go.Sl.cw_region ?_
          refine Go.Sl.ow_val rfl rfl (Go.Sl.v_move rfl) ?_
          refine Go.Sl.ow_val rfl rfl (Go.Sl.v_load rfl (Go.Sl.Var.atN Ty.ag30 .here Go.Sl.GetN.all (by first | rfl | assumption))) ?_
          (refine Go.Sl.ow_call rfl rfl rfl rfl (hadd1 (by repeat (first | exact Go.Sl.Sel.here | apply Go.Sl.Sel.there))) ?_; rintro _ _ ⟨x90, rfl, hq90, rfl⟩)
          refine Go.Sl.ow_val rfl rfl (Go.Sl.v_neq rfl rfl) ?_
          refine Go.Sl.ow_val rfl rfl (Go.Sl.v_move rfl) ?_
          refine Go.Sl.ow_dec 92 rfl (fun hc92 => ?_) (fun hc92 => ?_)
          (exfalso; omega)
          refine Go.Sl.ow_val rfl rfl (Go.Sl.v_move rfl) ?_
          refine Go.Sl.ow_val rfl rfl (Go.Sl.v_load rfl (Go.Sl.Var.atN Ty.ag30 .here Go.Sl.GetN.all (by first | rfl | assumption))) ?_
          (refine Go.Sl.ow_call rfl rfl rfl rfl (hadd2 (by assumption) (by repeat (first | exact Go.Sl.Sel.here | apply Go.Sl.Sel.there))) ?_; rintro _ _ ⟨x95, rfl, hq95, rfl⟩)
          refine Go.Sl.ow_val rfl rfl (Go.Sl.v_neq rfl rfl) ?_
          refine Go.Sl.ow_val rfl rfl (Go.Sl.v_pick_false rfl rfl) ?_
          refine Go.Sl.ow_nil ?_
          refine Go.Sl.xw_then ?_
          refine Go.Sl.cw_false rfl ?_
          refine Go.Sl.cw_skip ?_
          refine Go.Sl.xw_block ?_
          all_goals first
            | exact absurd rfl hc81
            | exact absurd rfl hc91
            | exact absurd rfl hc96
            | exact xw_joint (⟨i + 1, _, _, x77, x95⟩ : Mx) ⟨rfl, hM', hq77, hq95⟩ (by first | exact Go.Sl.Cov.refl _ | (intro p; simp only [List.flatten_cons, List.flatten_nil, List.flatten_append, List.append_nil, List.nil_append, Go.Sl.cnt_append, Go.Sl.cnt_cons, Go.Sl.cnt_nil, List.set_cons_zero, List.set_cons_succ, List.length_nil, List.length_cons, Nat.zero_add, List.append]; omega)) (by repeat (first | exact True.intro | refine And.intro rfl ?_))
        · have hg := Meet.giveNo (i := i) (tok := tokI i) hlt
          have hgive : ∀ {G : List Hp} {R : Hp → List Hp} {v : Value}, Sel G c R → Vw enB (St B w0 G) v ([103, (i : Int)].map toB) → Go.Sl.Fn Try.prog 21 #[.pointer (some ⟨x20.1, 0, none⟩), v, .agg ((tokI i).map (Value.int .u8)).toArray] B w0 G fun u G' => ∃ c' : Hp, u = .tuple #[enE.val noEntry, .int .i64 11] ∧ OwnAt a x20.1 c' ∧ G' = R c' := fun hsel hV => by
            have h := give_c (B := B) (w0 := w0) hsel hOa hM.aw hV (tok := tokI i) rfl
            rw [hg] at h
            exact h
          refine Go.Sl.cw_true rfl ?_
          refine Go.Sl.cw_seq ?_
          refine Go.Sl.cw_region ?_
          refine Go.Sl.ow_val rfl rfl (Go.Sl.v_move rfl) ?_
          refine Go.Sl.ow_val rfl rfl (Go.Sl.v_move rfl) ?_
          refine Go.Sl.ow_val rfl rfl (Go.Sl.v_convert Try.underlying3 Try.underlying5 rfl (Go.Sl.nw_u8 (by omega) (by omega))) ?_
          (refine Go.Sl.ow_buildL (es := ([(103 : Int), (i : Int)])) rfl rfl Try.underlying26 Ty.em26 (iTy) rfl rfl (by simp [*]) (by simp only [List.length_cons, List.length_nil]; decide) ?_; intro ao73 c73 hL73)
          refine Go.Sl.ow_val rfl rfl (Go.Sl.v_move rfl) ?_
          refine Go.Sl.ow_val rfl rfl (Go.Sl.v_convert Try.underlying3 Try.underlying5 rfl (Go.Sl.nw_u8 (by omega) (by omega))) ?_
          refine Go.Sl.ow_val rfl rfl (Go.Sl.v_build rfl (b_tok)) ?_
          (refine Go.Sl.ow_call rfl rfl rfl rfl (hgive (by repeat (first | exact Go.Sl.Sel.here | apply Go.Sl.Sel.there)) (Vw.bytes (Ls.vw (by assumption) (by repeat (first | exact Go.Sl.Sub.here | assumption | refine Go.Sl.Sub.there ?_))))) ?_; rintro _ _ ⟨x77, rfl, hq77, rfl⟩)
          refine Go.Sl.ow_val rfl rfl (Go.Sl.v_move rfl) ?_
          refine Go.Sl.ow_val rfl rfl (v_extractL rfl rfl) ?_
          refine Go.Sl.ow_val rfl rfl (v_extractL rfl rfl) ?_
          (refine Go.Sl.ow_alloc rfl rfl Ty.ze30 ?_; intro b7)
          refine Go.Sl.ow_storeE rfl (eTy) rfl rfl .here (by first | rfl | assumption) (by assumption) ?_
          refine Go.Sl.ow_val rfl rfl (Go.Sl.v_assign rfl) ?_
          refine Go.Sl.ow_nil ?_
          refine Go.Sl.xw_then ?_
          refine Go.Sl.cw_seq ?_
          refine Go.Sl.cw_seq ?_
          refine Go.Sl.cw_region ?_
          refine Go.Sl.ow_val rfl rfl (Go.Sl.v_move rfl) ?_
          refine Go.Sl.ow_val rfl rfl (Go.Sl.v_neq rfl rfl) ?_
          refine Go.Sl.ow_nil ?_
          refine Go.Sl.xw_then ?_
          refine Go.Sl.cw_true rfl ?_
          refine Go.Sl.cw_seq ?_
          refine Go.Sl.cw_seq ?_
          refine Go.Sl.cw_region ?_
          refine Go.Sl.ow_val rfl rfl (Go.Sl.v_move rfl) ?_
          refine Go.Sl.ow_val rfl rfl (Go.Sl.v_neq rfl rfl) ?_
          refine Go.Sl.ow_val rfl rfl (Go.Sl.v_move rfl) ?_
          refine Go.Sl.ow_dec 84 rfl (fun hc84 => ?_) (fun hc84 => ?_)
          (exfalso; omega)
          refine Go.Sl.ow_val rfl rfl (Go.Sl.v_move rfl) ?_
          refine Go.Sl.ow_val rfl rfl (Go.Sl.v_call rfl rfl (wants_c (by assumption) (by repeat (first | exact Go.Sl.Sub.here | assumption | refine Go.Sl.Sub.there ?_)) hM.aw)) ?_
          refine Go.Sl.ow_val rfl rfl (Go.Sl.v_pick_false rfl rfl) ?_
          refine Go.Sl.ow_nil ?_
          refine Go.Sl.xw_then ?_
          refine Go.Sl.cw_dec rfl (fun hc87 => ?_) (fun hc87 => ?_)
          (exfalso; omega)
          refine Go.Sl.cw_skip ?_
          refine Go.Sl.xw_then ?_
          refine Go.Sl.cw_exit ?_
          refine Go.Sl.xw_then_exit ?_
          refine Go.Sl.xw_block_exit ?_
          all_goals first
            | exact absurd rfl hc84
            | exact absurd hc87 hlt
            | exact xw_joint (⟨i + 1, a, o, x77, d⟩ : Mx) ⟨rfl, hM.later, hq77, hOo⟩ (by first | exact Go.Sl.Cov.refl _ | (intro p; simp only [List.flatten_cons, List.flatten_nil, List.flatten_append, List.append_nil, List.nil_append, Go.Sl.cnt_append, Go.Sl.cnt_cons, Go.Sl.cnt_nil, List.set_cons_zero, List.set_cons_succ, List.length_nil, List.length_cons, Nat.zero_add, List.append]; omega)) (by repeat (first | exact True.intro | refine And.intro rfl ?_))
    · rintro ⟨i', a, o, c, d⟩ ⟨hi', hM, hOa, hOo⟩
      dsimp only at hi' hM hOa hOo ⊢
      subst hi'
      have hob := hM.ok
      have hfo := findE_okM hOo.ok o.now
      have hfs : (findE o.now o.l).id.data.toList.length = (findE o.now o.l).id.size := bsz _
      have hhas : ∀ {G : List Hp} {v : Value}, Go.Sl.Sub c G → Vw enB (St B w0 G) v (findE o.now o.l).id.data.toList → Go.Sl.Fn Try.prog 26 #[.pointer (some ⟨x20.1, 0, none⟩), v] B w0 G fun u G' => u = .bool true ∧ G' = G := fun hs hV => by
        have h := has_c (B := B) (w0 := w0) hOa hs hM.aw hV
        rw [hM.nowIn] at h
        exact h
      refine Go.Sl.cw_seq ?_
      refine Go.Sl.cw_seq ?_
      refine Go.Sl.cw_region ?_
      refine Go.Sl.ow_val rfl rfl (Go.Sl.v_move rfl) ?_
      refine Go.Sl.ow_val rfl rfl (Go.Sl.v_move rfl) ?_
      refine Go.Sl.ow_val rfl rfl (Go.Sl.v_call rfl rfl (now_c hOo (by repeat (first | exact Go.Sl.Sub.here | assumption | refine Go.Sl.Sub.there ?_)) hM.ow)) ?_
      refine Go.Sl.ow_val rfl rfl (v_field Try.underlying30 rfl rfl Ty.sc9 rfl rfl) ?_
      (refine Go.Sl.ow_bytes rfl rfl Try.underlying26 Try.underlying9 Try.underlying5 rfl ?_; intro ao113 cap113 c113 hb113)
      refine Go.Sl.ow_val rfl rfl (Go.Sl.v_call rfl rfl (hhas (by repeat (first | exact Go.Sl.Sub.here | assumption | refine Go.Sl.Sub.there ?_)) (Rd.vw (by assumption) (by repeat (first | exact Go.Sl.Sub.here | assumption | refine Go.Sl.Sub.there ?_))))) ?_
      refine Go.Sl.ow_val rfl rfl (Go.Sl.v_not_true rfl) ?_
      refine Go.Sl.ow_nil ?_
      refine Go.Sl.xw_then ?_
      refine Go.Sl.cw_false rfl ?_
      refine Go.Sl.cw_skip ?_
      refine Go.Sl.xw_then ?_
      refine Go.Sl.cw_seq ?_
      refine Go.Sl.cw_region ?_
      refine Go.Sl.ow_val rfl rfl (Go.Sl.v_move rfl) ?_
      (refine Go.Sl.ow_call rfl rfl rfl rfl (otherList_c hOo (by repeat (first | exact Go.Sl.Sub.here | assumption | refine Go.Sl.Sub.there ?_)) hM.ow) ?_; rintro _ _ ⟨x117, rfl, hq117, rfl⟩)
      refine Go.Sl.ow_val rfl rfl (Go.Sl.v_len rfl Try.underlying31 rfl) ?_
      refine Go.Sl.ow_val rfl rfl (Go.Sl.v_move rfl) ?_
      refine Go.Sl.ow_nil ?_
      refine Go.Sl.xw_then ?_
      refine Go.Sl.cw_block ?_
      refine Go.Sl.cw_loop2 (ι := (Nat)) [(0, _), (3, _), (4, _), (24, _), (25, _), (26, _), (117, _), (118, _)] ⟨rfl, rfl, rfl, rfl, rfl, rfl, rfl, rfl, trivial⟩ ((fun j => [(119, .int .i64 j)])) ((fun j => j ≤ o.l.length)) ((fun j => o.l.length - j)) ((fun _ => x117.2.2 :: c :: d :: F)) (0) (by repeat (first | exact True.intro | refine And.intro rfl ?_)) (by first | exact Go.Sl.Cov.refl _ | (intro p; simp only [List.flatten_cons, List.flatten_nil, List.flatten_append, List.append_nil, List.nil_append, Go.Sl.cnt_append, Go.Sl.cnt_cons, Go.Sl.cnt_nil, List.set_cons_zero, List.set_cons_succ, List.length_nil, List.length_cons, Nat.zero_add, List.append]; omega)) ?_ ?_
      · exact Nat.zero_le _
      rintro j hj
      refine Go.Sl.cw_seq ?_
      refine Go.Sl.cw_region ?_
      refine Go.Sl.ow_val rfl rfl (Go.Sl.v_lss rfl rfl) ?_
      refine Go.Sl.ow_nil ?_
      refine Go.Sl.xw_then ?_
      refine Go.Sl.cw_seq ?_
      refine Go.Sl.cw_dec rfl (fun hc120 => ?_) (fun hc120 => ?_)
      refine Go.Sl.cw_skip ?_
      refine Go.Sl.xw_then ?_
      refine Go.Sl.cw_seq ?_
      refine Go.Sl.cw_block ?_
      refine Go.Sl.cw_seq ?_
      refine Go.Sl.cw_region ?_
      rotate_left
      refine Go.Sl.cw_exit ?_
      refine Go.Sl.xw_then_exit ?_
      refine Go.Sl.xw_round_exit ?_
      refine Go.Sl.xw_block_exit ?_
      refine Go.Sl.xw_block ?_
      refine Go.Sl.xw_then ?_
      refine Go.Sl.cw_region ?_
      refine Go.Sl.ow_val rfl rfl (Go.Sl.v_add rfl rfl (Go.Sl.nw_i64 (by omega) (by omega))) ?_
      refine Go.Sl.ow_val rfl rfl (Go.Sl.v_move rfl) ?_
      refine Go.Sl.ow_nil ?_
      rotate_left
      · have hj2 : j < o.l.length := by omega
        have hokj := hOo.ok _ (List.getElem_mem hj2)
        have hfd := hM.find hj2
        have hfind : ∀ {G : List Hp}, Go.Sl.Sub c G → Go.Sl.Fn Try.prog 25 #[.pointer (some ⟨x20.1, 0, none⟩), .int .u64 (o.l[j]).seq] B w0 G fun u G' => u = .tuple #[enE.val o.l[j], .bool true] ∧ G' = G := fun hs => by
          have h := find_c (B := B) (w0 := w0) (seq := (o.l[j]).seq) hOa hs hM.aw
          rw [hfd.1, hfd.2] at h
          exact h
        refine Go.Sl.ow_val rfl rfl (Go.Sl.v_indexAddr_ls Try.underlying31 (eTy) rfl rfl (by assumption) rfl (by omega)) ?_
        refine Go.Sl.ow_val rfl rfl (Go.Sl.v_load rfl (Go.Sl.Vw.var (eTy) (Go.Sl.Ls.vw (by assumption) (by repeat (first | exact Go.Sl.Sub.here | assumption | refine Go.Sl.Sub.there ?_))) (by omega))) ?_
        (refine Go.Sl.ow_alloc rfl rfl Ty.ze30 ?_; intro b13)
        refine Go.Sl.ow_storeE rfl (eTy) rfl rfl .here (by first | rfl | assumption) (by assumption) ?_
        refine Go.Sl.ow_nil ?_
        refine Go.Sl.xw_then ?_
        refine Go.Sl.cw_seq ?_
        refine Go.Sl.cw_region ?_
        refine Go.Sl.ow_val rfl rfl (Go.Sl.v_move rfl) ?_
        refine Go.Sl.ow_val rfl rfl (Go.Sl.v_fieldAddr0 Ty.fd30_0 rfl) ?_
        refine Go.Sl.ow_val rfl rfl (Go.Sl.v_load rfl (Go.Sl.Var.at1 Ty.sc27 .here (Go.Sl.GetN.lit rfl))) ?_
        refine Go.Sl.ow_val rfl rfl (Go.Sl.v_call rfl rfl (hfind (by repeat (first | exact Go.Sl.Sub.here | assumption | refine Go.Sl.Sub.there ?_)))) ?_
        refine Go.Sl.ow_val rfl rfl (Go.Sl.v_move rfl) ?_
        refine Go.Sl.ow_val rfl rfl (v_extractL rfl rfl) ?_
        refine Go.Sl.ow_val rfl rfl (v_extractL rfl rfl) ?_
        (refine Go.Sl.ow_alloc rfl rfl Ty.ze30 ?_; intro b14)
        refine Go.Sl.ow_storeE rfl (eTy) rfl rfl .here (by first | rfl | assumption) (by assumption) ?_
        refine Go.Sl.ow_val rfl rfl (Go.Sl.v_assign rfl) ?_
        refine Go.Sl.ow_nil ?_
        refine Go.Sl.xw_then ?_
        refine Go.Sl.cw_seq ?_
        refine Go.Sl.cw_region ?_
        refine Go.Sl.ow_val rfl rfl (Go.Sl.v_move rfl) ?_
        refine Go.Sl.ow_val rfl rfl (Go.Sl.v_not_true rfl) ?_
        refine Go.Sl.ow_val rfl rfl (Go.Sl.v_move rfl) ?_
        refine Go.Sl.ow_val rfl rfl (Go.Sl.v_load rfl (Go.Sl.Var.atE (eTy) .here (by assumption))) ?_
        refine Go.Sl.ow_val rfl rfl (Go.Sl.v_load rfl (Go.Sl.Var.atE (eTy) (.there .here) (by assumption))) ?_
        refine Go.Sl.ow_val rfl rfl (Go.Sl.v_neqA rfl rfl Ty.gt30 (eqE hokj hokj)) ?_
        refine Go.Sl.ow_val rfl rfl (Go.Sl.v_pick_false rfl rfl) ?_
        refine Go.Sl.ow_nil ?_
        refine Go.Sl.xw_then ?_
        refine Go.Sl.cw_dec rfl (fun hc136 => ?_) (fun hc136 => ?_)
        refine Go.Sl.cw_seq ?_
        refine Go.Sl.cw_region ?_
        refine Go.Sl.ow_val rfl rfl (Go.Sl.v_assign rfl) ?_
        refine Go.Sl.ow_nil ?_
        refine Go.Sl.xw_then ?_
        refine Go.Sl.cw_ret ?_
        refine Go.Sl.xw_block_ret ?_
        refine Go.Sl.xw_then_ret ?_
        refine Go.Sl.xw_round_ret ?_
        refine Go.Sl.xw_block_ret ?_
        refine Go.Sl.xw_block_ret ?_
        refine Go.Sl.xw_then_ret ?_
        refine Go.Sl.xw_round_ret ?_
        refine Go.Sl.xw_block_ret ?_
        refine Go.Sl.xw_then_ret ?_
        refine Go.Sl.ret1 rfl (Go.Sl.res_tmp rfl) ?_
        rotate_left
        refine Go.Sl.cw_skip ?_
        refine Go.Sl.xw_block ?_
        refine Go.Sl.xw_then ?_
        refine Go.Sl.cw_region ?_
        refine Go.Sl.ow_val rfl rfl (Go.Sl.v_add rfl rfl (Go.Sl.nw_i64 (by omega) (by omega))) ?_
        refine Go.Sl.ow_val rfl rfl (Go.Sl.v_move rfl) ?_
        refine Go.Sl.ow_nil ?_
        rotate_left
        all_goals first
          | exact absurd rfl hc136
          | exact xw_round (j + 1) (by omega) (by omega) (by first | exact Go.Sl.Cov.refl _ | (intro p; simp only [List.flatten_cons, List.flatten_nil, List.flatten_append, List.append_nil, List.nil_append, Go.Sl.cnt_append, Go.Sl.cnt_cons, Go.Sl.cnt_nil, List.set_cons_zero, List.set_cons_succ, List.length_nil, List.length_cons, Nat.zero_add, List.append]; omega)) (by repeat (first | exact True.intro | refine And.intro rfl ?_))
      · exact xw_round (⟨i + 1, a, o, c, d⟩ : Mx) ⟨by dsimp only; omega, by dsimp only; omega, hM, hOa, hOo⟩ (by dsimp only; omega) (by first | exact Go.Sl.Cov.refl _ | (intro p; simp only [List.flatten_cons, List.flatten_nil, List.flatten_append, List.append_nil, List.nil_append, Go.Sl.cnt_append, Go.Sl.cnt_cons, Go.Sl.cnt_nil, List.set_cons_zero, List.set_cons_succ, List.length_nil, List.length_cons, Nat.zero_add, List.append]; omega)) (by repeat (first | exact True.intro | refine And.intro rfl ?_))
  · exact done0 rfl (by first | exact Go.Sl.Cov.refl _ | (intro p; simp only [List.flatten_cons, List.flatten_nil, List.flatten_append, List.append_nil, List.nil_append, Go.Sl.cnt_append, Go.Sl.cnt_cons, Go.Sl.cnt_nil, List.set_cons_zero, List.set_cons_succ, List.length_nil, List.length_cons, Nat.zero_add, List.append]; omega))

/-- a byte as it lies in memory -/
theorem form_u8 {H : Type} {enc : TypeId × Value → H} {w : World} {fuel : Nat} {cs : List Value} {y : DataW H × List MemPlace} (h : DataW.trod enc Try.prog w 0 (fun _ => true) true fuel 5 cs = some y) : ∃ a : Int, cs = enI.f a ∧ enI.ok a := by
  obtain ⟨n, e, w0⟩ := form_int Try.underlying5 h
  exact ⟨n, e, bounds_u8 w0⟩

theorem oldVw {α : Type} [Inhabited α] {En : Enc α} {B : Nat} {w0 : World} {ao : Option Addr} {len cap : Nat} {F : Nat → α} {P : Program} {e : TypeId} (he : EncTy P e En) (h : OldSl B w0 En.size ao len (fun i => En.f (F i))) (hok : ∀ i, i < len → En.ok (F i)) (hc : len ≤ cap) (G : List Hp) :
    Vw En (St B w0 G) (.slice ao ((List.range len).map F).length cap) ((List.range len).map F) := by
  have hoks : ∀ a ∈ (List.range len).map F, En.ok a := fun a ha => by
    obtain ⟨i, hi, rfl⟩ := List.mem_map.1 ha
    exact hok i (List.mem_range.1 hi)
  refine ⟨⟨ao, cap, rfl, by simpa using hc⟩, hoks, fun ao' n' cap' hv hl => ?_⟩
  injection hv with e1 e2 e3
  subst e1
  obtain ⟨b, o, h1, h2, h3⟩ := h.get 0 (by simpa using hl)
  subst h1
  refine ⟨rfl, fun i u hu => ?_⟩
  simp only [bOf_some, oOf_some]
  have hp := he.pos
  have hlen : (((List.range len).map F).flatMap En.f).length = len * En.size := by
    rw [fm_len (k := En.size) fun a ha => he.len a (hoks a ha)]
    simp
  have hi : i < len * En.size := by rw [← hlen]; exact (List.getElem?_eq_some_iff.1 hu).1
  have hq : i / En.size < len := Nat.div_lt_of_lt_mul (by rw [Nat.mul_comm]; exact hi)
  have hm := Nat.mod_lt i hp
  have hdm : i = i / En.size * En.size + i % En.size := by rw [Nat.mul_comm]; exact (Nat.div_add_mod i En.size).symm
  obtain ⟨b', o', g1, g2, g3⟩ := h.get (i / En.size) hq
  injection g1 with g1
  injection g1 with g4 g5
  subst g4
  subst g5
  have hfl := he.len _ (hok _ hq)
  have hu2 : (En.f (F (i / En.size)))[i % En.size]? = some u := by
    have hx : i % En.size < (En.f (F (i / En.size))).length := by rw [hfl]; exact hm
    have := fm_get (f := En.f) (k := En.size) (l := (List.range len).map F) (i := i / En.size) (j := i % En.size) (fun a ha => he.len a (hoks a ha)) (by simp [hq]) (List.getElem?_eq_getElem hx)
    rw [← hdm, hu] at this
    rw [List.getElem?_eq_getElem hx]
    exact this.symm
  have := g3 _ _ hu2
  rw [Nat.add_assoc, ← hdm] at this
  exact Cell.old g2 this

theorem walk {H : Type} {enc : TypeId × Value → H} (W : World) (base : Nat) (args : Array Value) (ds : List (DataW H)) (p : List MemPlace)
    (hval : ∀ (j : Nat) t v, Try.f5.params[j]? = some t → args[j]? = some v → Value.okWide Try.prog W .any base t v)
    (hA : DataW.TrodAll enc Try.prog W 0 (fun _ => true) true Try.f5.params.toList args.toList ds p) :
    Calls Try.prog 5 args W fun e w' => e = .returned (.bool true) ∧ Below W.heap.size W w' := by
  rw [Try.params5] at hA hval
  obtain ⟨v2, vs2, d2, ds2, p2, q2, hargs, rfl, rfl, h2, r2⟩ := trodAll_cons hA
  obtain ⟨rfl, rfl, rfl⟩ := trodAll_nil r2
  obtain rfl : args = #[v2] := by cases args; simp_all
  obtain ⟨ao, len, cap, rfl⟩ := okWide_slice Try.underlying26 (hval 0 26 v2 rfl rfl)
  obtain ⟨fu, h2⟩ := h2
  obtain ⟨hlc, hm, f, hf, o⟩ := oldSl (size := 1) Try.underlying26 (by kernel_rfl) (by decide) h2 enI.f enI.ok (fun fuel cs y h => form_u8 h)
  unfold maxLen at hm
  have hv := oldVw iTy o hf hlc
  have hlen : ((List.range len).map f).length = len := by simp
  have key := (law (by rw [hlen]; omega) hv []).call
  rw [hlen] at key
  exact key

theorem own : ownKnob Try.prog.godebug = none := by kernel_rfl
theorem laidOut : laidOutB Try.prog = true := by kernel_rfl
theorem reads : ∀ t ∈ Try.f5.params.toList, Try.prog.readableRec t = true ∧ t < Try.prog.types.size := by
  rw [Try.params5]
  intro t ht
  simp only [List.mem_cons, List.not_mem_nil, or_false] at ht
  rcases ht with rfl
  · exact ⟨by kernel_rfl, of_decide_eq_true (by kernel_rfl)⟩

set_option maxRecDepth 100000 in
theorem lifted (os : Os) (started : os.Started) (H : Type) (enc : TypeId × Value → H) :
    ReturnsInHanded {} Try.checked os 5 .any (Rows.idsMeetSpec.pre6 enc Try.prog Try.f5 Rows.idsMeetRow.domain false) (Rows.idsMeetSpec.post enc Try.prog Try.f5 false true false false) := by
  refine returnsInHanded_of_change (C := Try.checked) own started (by kernel_rfl) Try.func5
    (ChangeSpec.witness6 (enc := enc) (C := Try.checked) false ⟨#[], #[.slice none 0 0], []⟩ 8 (by kernel_rfl) (by kernel_rfl) (by kernel_rfl) (by kernel_rfl)) ?_
  intro W base args ds gs before hval hW _ _
  have hW' := hW
  obtain ⟨p, q, hA0, hV, rfl, _, _⟩ := hW
  obtain ⟨rfl, rfl⟩ := trodVars_none hV
  have hA : DataW.TrodAll enc Try.prog W 0 (fun _ => true) true Try.f5.params.toList args.toList ds p := hA0
  have hlen := trodAll_len hA
  refine (walk W base args ds p hval hA).mono fun e W' ⟨he, bel⟩ => ?_
  subst he
  rw [Try.params5] at hlen
  match ds, hlen.2, hA, hW' with
  | [d0], _, hA, hW' => exact ⟨_, rfl, _, _, _, [], _, [], hW', trodAll_mk1 (shut_bool Try.underlying4 _), trodAll_stays laidOut bel reads hA, rfl, bel.frame _, fun h => by cases h⟩

theorem over : Rows.idsMeetRow.holds Try.pinned (OpenSpec.ofChange Rows.idsMeetSpec) :=
  OpenClaim.holds_of_wide 5 Try.f5 rfl rfl rfl rfl rfl rfl rfl ⟨rfl, rfl, rfl, rfl, rfl⟩ rfl rfl rfl rfl rfl (by kernel_rfl) Try.func5 (by kernel_rfl)
    (of_decide_eq_true (by kernel_rfl)) (by unfold Func.isWrapper; first | (rw [if_pos (by decide +kernel)]; kernel_rfl) | (rw [if_neg (by decide +kernel)]; exact ⟨rfl, rfl⟩))
    (fun os started H enc _ => lifted os started H enc)

theorem proved : Rows.IdsMeetSaid := over

end Go.Proofs.Ytfilpenkihdjiaa.lawIdsMeet
