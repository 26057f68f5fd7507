/- What the laws on ids share: a fixed fact, names, equal lists; a first id; nil ones. Conditions: numbers fit their types, lists are short. -/
import Derived.Test.YtfilpenkihdjiaaOtherAdd
namespace Go.Proofs.Ytfilpenkihdjiaa
open Go Go.Sl Go.Proofs
set_option linter.unusedVariables false
set_option linter.unusedSimpArgs false

section
variable {P : Program} {ops : Array Oper} {Q : Exit → Act → World → Prop} {B : Nat} {w0 : World} {N : Nat} {G : List Hp} {E : Env} {ty U : TypeId}
open Go.RowKit
/-! ### []byte of []byte: a mark -/
theorem ow_mark {α : Type} {En : Enc α} {d : Nat} {x : Operand} {e e' n cap : Nat} {ao : Option Addr} {c : Hp} {l : List α} {R : Hp → List Hp} {pos : String} {af : Array Edge} {g : Option (Nat × Bool)} {rest : List Oper} (hg : Env.guard E ops g = some true) (hd : Nat.blt d N = true)
    (hU : P.underlying U = some (.slice e)) (he : P.underlying e = some (.int .u8)) (hx : Env.ev E x = some (.slice ao n cap)) (hL : Ls En e' (.slice ao n cap) c l) (hl : 0 < l.length) (hs : Sel G c R)
    (h : ∀ c', Rd En (.slice ao n cap) c' l → OW P ops Q B w0 N (R c') ((d, .slice ao n cap) :: E) rest) :
    OW P ops Q B w0 N G E (⟨some d, .convert U U x, ty, pos, af, g⟩ :: rest) := fun a w ha hw => by
  have hn := hL.len
  subst hn
  unfold wpList
  rw [if_pos (ha.guard (o := ⟨some d, .convert U U x, ty, pos, af, g⟩) hg)]
  refine .inl ?_
  unfold Oper.wp
  have hsl := hL.sl
  have hok := hL.ok
  generalize hxs : l.flatMap En.f = xs at hsl
  generalize hlen : l.length = n at *
  cases hsl with
  | nil => omega
  | @row b n cap pre xs spare post hx' hsp hn =>
    have hb := hw.read hs (List.Mem.head _)
    have hsh : w.shape? b = some (e', (pre ++ (xs ++ (spare ++ post))).toArray.size) := by simp [World.shape?, hb]
    have h3 : (execOp a.eval ⟨some d, .convert U U x, ty, pos, af, g⟩).run P w = .ok (.value (.slice (some ⟨b, pre.length, none⟩) n cap)) (w.freeze ⟨b, (pre ++ (xs ++ (spare ++ post))).toArray.size, none⟩ 1) := by
      simp [execOp, ha.ev hx, convert, run_underlying hU, run_underlying he, markStringish, hsh]
    rw [h3]
    have hlt := (Array.getElem?_eq_some_iff.1 hb).1
    have hw2 : (w.freeze ⟨b, (pre ++ (xs ++ (spare ++ post))).toArray.size, none⟩ 1).heap[b]? = some (.cells (pre ++ (xs ++ (spare ++ post))).toArray e' ((pre ++ (xs ++ (spare ++ post))).toArray.size, (pre ++ (xs ++ (spare ++ post))).toArray.size + 1)) := by
      unfold World.freeze
      rw [if_neg (by decide)]
      simp only [Array.getElem?_modify, if_true, hb, Option.map_some]
      rfl
    have hst := hw.write (w' := w.freeze ⟨b, (pre ++ (xs ++ (spare ++ post))).toArray.size, none⟩ 1) hs (by unfold World.freeze; rw [if_neg (by decide)]) (by unfold World.freeze; rw [if_neg (by decide)]) (by unfold World.freeze; rw [if_neg (by decide)]) (by unfold World.freeze; rw [if_neg (by decide)]; simp) hw2 (fun k hk => by
      unfold World.freeze
      rw [if_neg (by decide)]
      simp only [Array.getElem?_modify]
      rw [if_neg (fun h => hk h.symm)])
    refine h _ (fun B w0 G hs => ⟨⟨_, _, by rw [hlen], by omega⟩, hok, fun ao n' cap' hv hl' => ?_⟩) _ _ (ha.put (by simpa using hd) _) hst
    injection hv with g1 g2 g3
    subst g1
    refine ⟨rfl, fun i u hu => ?_⟩
    rw [hxs] at hu
    have hi : i < xs.length := (List.getElem?_eq_some_iff.1 hu).1
    refine Cell.sub hs (.head _) ?_
    simp only [oOf_some, List.getElem?_toArray]
    rw [List.getElem?_append_right (by omega), Nat.add_sub_cancel_left, List.getElem?_append_left hi]
    exact hu

end

theorem same_c {B : Nat} {w0 : World} {G : List Hp} {v v' : Value} {l l' : List Entry} (hV : Vw enE (St B w0 G) v l) (hV' : Vw enE (St B w0 G) v' l') (hl : l.length ≤ 100000000) :
    Go.Sl.Fn Try.prog 17 #[v, v'] B w0 G fun u G' => u = .bool (decide (l = l')) ∧ G' = G := by
  refine Fn.pure ?_
  obtain ⟨ao, cap, rfl, hc⟩ := hV.view
  obtain ⟨ao', cap', rfl, hc'⟩ := hV'.view
  refine fn_enter Try.func17 rfl (by kernel_rfl) Try.ntmps17 (by simp) ?_
  refine Go.Sl.cw_seq ?_
  refine Go.Sl.cw_region ?_
  refine Go.Sl.ow_val rfl rfl (Go.Sl.v_assign rfl) ?_
  refine Go.Sl.ow_nil ?_
  refine Go.Sl.xw_then ?_
  refine Go.Sl.cw_seq ?_
  refine Go.Sl.cw_seq ?_
  refine Go.Sl.cw_region ?_
  refine Go.Sl.ow_val rfl rfl (Go.Sl.v_move rfl) ?_
  refine Go.Sl.ow_val rfl rfl (Go.Sl.v_len rfl Try.underlying31 rfl) ?_
  refine Go.Sl.ow_val rfl rfl (Go.Sl.v_move rfl) ?_
  refine Go.Sl.ow_val rfl rfl (Go.Sl.v_len rfl Try.underlying31 rfl) ?_
  refine Go.Sl.ow_val rfl rfl (Go.Sl.v_neq rfl rfl) ?_
  refine Go.Sl.ow_nil ?_
  refine Go.Sl.xw_then ?_
  refine Go.Sl.cw_dec rfl (fun hc10 => ?_) (fun hc10 => ?_)
  refine Go.Sl.cw_seq ?_
  refine Go.Sl.cw_region ?_
  refine Go.Sl.ow_val rfl rfl (Go.Sl.v_assign rfl) ?_
  refine Go.Sl.ow_nil ?_
  refine Go.Sl.xw_then ?_
  refine Go.Sl.cw_ret ?_
  refine Go.Sl.xw_then_ret ?_
  refine Go.Sl.ret1 rfl (Go.Sl.res_tmp rfl) ?_
  rotate_left
  refine Go.Sl.cw_skip ?_
  refine Go.Sl.xw_then ?_
  refine Go.Sl.cw_seq ?_
  refine Go.Sl.cw_seq ?_
  refine Go.Sl.cw_region ?_
  refine Go.Sl.ow_val rfl rfl (Go.Sl.v_move rfl) ?_
  refine Go.Sl.ow_val rfl rfl (Go.Sl.v_len rfl Try.underlying31 rfl) ?_
  refine Go.Sl.ow_val rfl rfl (Go.Sl.v_move rfl) ?_
  refine Go.Sl.ow_nil ?_
  refine Go.Sl.xw_then ?_
  refine Go.Sl.cw_block ?_
  rotate_left
  · refine ⟨?_, (by first | exact Go.Sl.Cov.refl _ | (intro p; simp only [List.flatten_cons, List.flatten_nil, List.flatten_append, List.append_nil, List.nil_append, Go.Sl.cnt_append, Go.Sl.cnt_cons, Go.Sl.cnt_nil, List.set_cons_zero, List.set_cons_succ, List.length_nil, List.length_cons, Nat.zero_add, List.append]; omega))⟩
    rw [decide_eq_false]
    intro h
    subst h
    exact hc10 rfl
  · refine Go.Sl.cw_loop2 (ι := (Nat)) [(0, _), (1, _), (12, _)] ⟨rfl, rfl, rfl, trivial⟩ ((fun i => [(13, .int .i64 i)])) ((fun i => i ≤ l.length ∧ ∀ j (h : j < l.length) (h' : j < l'.length), j < i → l[j] = l'[j])) ((fun i => l.length - i)) ((fun _ => G)) (0) (by repeat (first | exact True.intro | refine And.intro rfl ?_)) (by first | exact Go.Sl.Cov.refl _ | (intro p; simp only [List.flatten_cons, List.flatten_nil, List.flatten_append, List.append_nil, List.nil_append, Go.Sl.cnt_append, Go.Sl.cnt_cons, Go.Sl.cnt_nil, List.set_cons_zero, List.set_cons_succ, List.length_nil, List.length_cons, Nat.zero_add, List.append]; omega)) ?_ ?_
    · exact ⟨Nat.zero_le _, fun j _ _ h => absurd h (by omega)⟩
    rintro i ⟨hi, hno⟩
    refine Go.Sl.cw_seq ?_
    refine Go.Sl.cw_region ?_
    refine Go.Sl.ow_val rfl rfl (Go.Sl.v_lss rfl rfl) ?_
    refine Go.Sl.ow_nil ?_
    refine Go.Sl.xw_then ?_
    refine Go.Sl.cw_seq ?_
    refine Go.Sl.cw_dec rfl (fun hc14 => ?_) (fun hc14 => ?_)
    refine Go.Sl.cw_skip ?_
    refine Go.Sl.xw_then ?_
    refine Go.Sl.cw_seq ?_
    refine Go.Sl.cw_block ?_
    refine Go.Sl.cw_seq ?_
    refine Go.Sl.cw_region ?_
    refine Go.Sl.ow_val rfl rfl (Go.Sl.v_move rfl) ?_
    refine Go.Sl.ow_val rfl rfl (Go.Sl.v_assign rfl) ?_
    refine Go.Sl.ow_nil ?_
    refine Go.Sl.xw_then ?_
    refine Go.Sl.cw_seq ?_
    refine Go.Sl.cw_quiet Ty.mixed (by decide +kernel) ?_
    refine Go.Sl.kw_val rfl rfl (Go.Sl.v_move rfl) ?_
    refine Go.Sl.kw_val rfl rfl (Go.Sl.v_move rfl) ?_
    rotate_left
    refine Go.Sl.cw_exit ?_
    refine Go.Sl.xw_then_exit ?_
    refine Go.Sl.xw_round_exit ?_
    refine Go.Sl.xw_block_exit ?_
    refine Go.Sl.xw_then ?_
    refine Go.Sl.cw_seq ?_
    refine Go.Sl.cw_region ?_
    refine Go.Sl.ow_val rfl rfl (Go.Sl.v_assign rfl) ?_
    refine Go.Sl.ow_nil ?_
    refine Go.Sl.xw_then ?_
    refine Go.Sl.cw_ret ?_
    refine Go.Sl.ret1 rfl (Go.Sl.res_tmp rfl) ?_
    rotate_left
    · have h1 : i < l.length := by omega
      have h2 : i < l'.length := by omega
      refine Go.Sl.kw_val rfl rfl (Go.Sl.v_indexAddr_vw Try.underlying31 (eTy) rfl rfl (by assumption) rfl (by omega)) ?_
      refine Go.Sl.kw_val rfl rfl (Go.Sl.v_load rfl (Go.Sl.Vw.var (eTy) (hV) (by omega))) ?_
      refine Go.Sl.kw_val rfl rfl (Go.Sl.v_move rfl) ?_
      refine Go.Sl.kw_val rfl rfl (Go.Sl.v_move rfl) ?_
      refine Go.Sl.kw_val rfl rfl (Go.Sl.v_indexAddr_vw Try.underlying31 (eTy) rfl rfl (by assumption) rfl (by omega)) ?_
      refine Go.Sl.kw_val rfl rfl (Go.Sl.v_load rfl (Go.Sl.Vw.var (eTy) (by assumption) (by omega))) ?_
      refine Go.Sl.kw_val rfl rfl (Go.Sl.v_neqA rfl rfl Ty.gt30 (eqE (hV.ok _ (List.getElem_mem h1)) (hV'.ok _ (List.getElem_mem h2)))) ?_
      refine Go.Sl.kw_nil ?_
      refine Go.Sl.xw_then ?_
      refine Go.Sl.cw_dec rfl (fun hc24 => ?_) (fun hc24 => ?_)
      refine Go.Sl.cw_seq ?_
      refine Go.Sl.cw_region ?_
      refine Go.Sl.ow_val rfl rfl (Go.Sl.v_assign rfl) ?_
      refine Go.Sl.ow_nil ?_
      refine Go.Sl.xw_then ?_
      refine Go.Sl.cw_ret ?_
      refine Go.Sl.xw_block_ret ?_
      refine Go.Sl.xw_then_ret ?_
      refine Go.Sl.xw_round_ret ?_
      refine Go.Sl.xw_block_ret ?_
      refine Go.Sl.xw_then_ret ?_
      refine Go.Sl.ret1 rfl (Go.Sl.res_tmp rfl) ?_
      rotate_left
      refine Go.Sl.cw_skip ?_
      refine Go.Sl.xw_block ?_
      refine Go.Sl.xw_then ?_
      refine Go.Sl.cw_region ?_
      refine Go.Sl.ow_val rfl rfl (Go.Sl.v_add rfl rfl (Go.Sl.nw_i64 (by omega) (by omega))) ?_
      refine Go.Sl.ow_val rfl rfl (Go.Sl.v_move rfl) ?_
      refine Go.Sl.ow_nil ?_
      rotate_left
      · refine ⟨?_, (by first | exact Go.Sl.Cov.refl _ | (intro p; simp only [List.flatten_cons, List.flatten_nil, List.flatten_append, List.append_nil, List.nil_append, Go.Sl.cnt_append, Go.Sl.cnt_cons, Go.Sl.cnt_nil, List.set_cons_zero, List.set_cons_succ, List.length_nil, List.length_cons, Nat.zero_add, List.append]; omega))⟩
        rw [decide_eq_false]
        intro h
        subst h
        exact hc24 rfl
      · exact xw_round (i + 1) ⟨by omega, fun j h h' hj => by
          by_cases hji : j = i
          · subst hji; simpa using hc24
          · exact hno j h h' (by omega)⟩ (by omega) (by first | exact Go.Sl.Cov.refl _ | (intro p; simp only [List.flatten_cons, List.flatten_nil, List.flatten_append, List.append_nil, List.nil_append, Go.Sl.cnt_append, Go.Sl.cnt_cons, Go.Sl.cnt_nil, List.set_cons_zero, List.set_cons_succ, List.length_nil, List.length_cons, Nat.zero_add, List.append]; omega)) (by repeat (first | exact True.intro | refine And.intro rfl ?_))
    · refine ⟨?_, (by first | exact Go.Sl.Cov.refl _ | (intro p; simp only [List.flatten_cons, List.flatten_nil, List.flatten_append, List.append_nil, List.nil_append, Go.Sl.cnt_append, Go.Sl.cnt_cons, Go.Sl.cnt_nil, List.set_cons_zero, List.set_cons_succ, List.length_nil, List.length_cons, Nat.zero_add, List.append]; omega))⟩
      rw [decide_eq_true]
      exact List.ext_getElem (by omega) fun j h h' => hno j h h' (by omega)

def enI : Enc Int := ⟨fun n => [.int .u8 n], 1, fun n => .int .u8 n, fun n => 0 ≤ n ∧ n ≤ 255⟩
theorem iTy : EncTy Try.prog 5 enI := EncTy.scalar Ty.sc5 rfl (fun _ => rfl) (fun _ => rfl)
def toB (n : Int) : UInt8 := UInt8.ofNat n.toNat
theorem toB_val {n : Int} (h : enI.ok n) : ((toB n).toNat : Int) = n := by
  have h1 : 0 ≤ n ∧ n ≤ 255 := h
  unfold toB
  rw [UInt8.toNat_ofNat_of_lt' (by show n.toNat < 256; omega)]
  omega
theorem Vw.bytes {S : World → Prop} {v : Value} {l : List Int} (h : Vw enI S v l) : Vw enB S v (l.map toB) := by
  obtain ⟨ao, cap, hv, hc⟩ := h.view
  have hf : ∀ k : List Int, (∀ a ∈ k, enI.ok a) → (k.map toB).flatMap enB.f = k.flatMap enI.f := by
    intro k hk
    induction k with
    | nil => rfl
    | cons a k ih =>
      simp only [List.map_cons, List.flatMap_cons, ih fun x hx => hk x (List.mem_cons_of_mem _ hx)]
      congr 1
      show [Value.int .u8 (toB a).toNat] = [Value.int .u8 a]
      rw [toB_val (hk a (by simp))]
  refine ⟨⟨ao, cap, by rw [List.length_map]; exact hv, by simpa using hc⟩, fun _ _ => trivial, fun ao n cap e hl => ?_⟩
  obtain ⟨h1, h2⟩ := h.get ao n cap e (by simpa using hl)
  exact ⟨h1, fun i u hu => h2 i u (by rw [← hf l h.ok]; exact hu)⟩

def nameB (k : Int) : ByteArray := ⟨#[105, 100]⟩ ++ str ([97 + k.tmod 9].map toB)
theorem tmod9 {k : Int} (h : 0 ≤ k) : 0 ≤ k.tmod 9 ∧ k.tmod 9 ≤ 8 := by
  have := Int.emod_nonneg k (b := 9) (by decide)
  have := Int.emod_lt_of_pos k (b := 9) (by decide)
  rw [Int.tmod_eq_emod_of_nonneg h]
  omega
theorem nameB_size (k : Int) : (nameB k).size = 3 := rfl
theorem name_c {B : Nat} {w0 : World} {G : List Hp} {k : Int} (hk : 0 ≤ k ∧ k ≤ 255) :
    Go.Sl.Fn Try.prog 10 #[.int .u8 k] B w0 G fun u G' => u = .string (nameB k) ∧ G' = G := by
  refine Fn.pure ?_
  have h1 := tmod9 hk.1
  have hok : enI.ok (97 + k.tmod 9) := by show 0 ≤ 97 + k.tmod 9 ∧ 97 + k.tmod 9 ≤ 255; omega
  refine fn_enter Try.func10 rfl (by kernel_rfl) Try.ntmps10 (by simp) ?_
  refine Go.Sl.cw_seq ?_
  refine Go.Sl.cw_region ?_
  refine Go.Sl.ow_val rfl rfl (Go.Sl.v_assign rfl) ?_
  refine Go.Sl.ow_nil ?_
  refine Go.Sl.xw_then ?_
  refine Go.Sl.cw_seq ?_
  refine Go.Sl.cw_region ?_
  refine Go.Sl.ow_val rfl rfl (Go.Sl.v_move rfl) ?_
  refine Go.Sl.ow_val rfl rfl (Go.Sl.v_rem rfl rfl (by decide)) ?_
  refine Go.Sl.ow_val rfl rfl (Go.Sl.v_add rfl rfl (Go.Sl.nw_u8 (by omega) (by omega))) ?_
  (refine Go.Sl.ow_buildL (es := [(97 + k.tmod 9)]) rfl rfl Try.underlying26 Ty.em26 (iTy) rfl rfl (by simp [*]) (by simp only [List.length_cons, List.length_nil]; decide) ?_; intro ao6 c6 hL6)
  refine Go.Sl.ow_val rfl rfl (Go.Sl.v_str Try.underlying9 Try.underlying26 Try.underlying5 rfl (Vw.bytes (Go.Sl.Ls.vw (by assumption) (by repeat (first | exact Go.Sl.Sub.here | assumption | refine Go.Sl.Sub.there ?_))))) ?_
  refine Go.Sl.ow_val rfl rfl (Go.Sl.v_addS rfl rfl (Nat.le_of_ble_eq_true rfl)) ?_
  refine Go.Sl.ow_val rfl rfl (Go.Sl.v_assign rfl) ?_
  refine Go.Sl.ow_nil ?_
  refine Go.Sl.xw_then ?_
  refine Go.Sl.cw_ret ?_
  refine Go.Sl.ret1 rfl (Go.Sl.res_tmp rfl) ?_
  exact ⟨rfl, (by first | exact Go.Sl.Cov.refl _ | (intro p; simp only [List.flatten_cons, List.flatten_nil, List.flatten_append, List.append_nil, List.nil_append, Go.Sl.cnt_append, Go.Sl.cnt_cons, Go.Sl.cnt_nil, List.set_cons_zero, List.set_cons_succ, List.length_nil, List.length_cons, Nat.zero_add, List.append]; omega))⟩

def entry1 : Entry := ⟨1, ⟨#[98]⟩, zero16⟩
theorem b_entry1 : Build Try.prog 30 #[(0, .int .u64 1), (1, .string ⟨#[98]⟩)] (.agg entry1.cells.toArray) := fun w => by kernel_rfl
def aw0 : OtherM := ⟨min (max 3 1) 4, [firstE (str [97])], 0, 0, []⟩
def aw1 : OtherM := ⟨3, [firstE (str [97]), entry1], 0, 0, []⟩
def aw2 : OtherM := ⟨3, [entry1], 1, 0, [0]⟩
theorem aw_add : aw0.add entry1 0 = (aw1, 0) := by kernel_rfl
theorem aw_switch : aw1.switch = (aw2, true) := by kernel_rfl
theorem aw_wf0 : aw0.WF := ⟨by decide, by decide, by decide, by decide, by decide⟩
theorem aw_wf1 : aw1.WF := ⟨by decide, by decide, by decide, by decide, by decide⟩
theorem aw_wf2 : aw2.WF := ⟨by decide, by decide, by decide, by decide, by decide⟩
theorem ok_e1 : enE.ok entry1 := by refine ⟨by decide, by decide, rfl⟩
theorem aw_add_c {B : Nat} {w0 : World} {G : List Hp} {R : Hp → List Hp} {b : Nat} {c : Hp} (hsel : Sel G c R) (hO : OtherAt aw0 b c) :
    Go.Sl.Fn Try.prog 12 #[.pointer (some ⟨b, 0, none⟩), enE.val entry1, .int .u64 0] B w0 G fun u G' => ∃ c' : Hp, u = .int .i64 0 ∧ OtherAt aw1 b c' ∧ G' = R c' := by
  have h := add_c (B := B) (w0 := w0) hsel hO aw_wf0 ok_e1 (prior := 0) (by decide)
  rw [aw_add] at h
  exact h
theorem aw_switch_c {B : Nat} {w0 : World} {G : List Hp} {R : Hp → List Hp} {b : Nat} {c : Hp} (hsel : Sel G c R) (hO : OtherAt aw1 b c) :
    Go.Sl.Fn Try.prog 13 #[.pointer (some ⟨b, 0, none⟩)] B w0 G fun u G' => ∃ c' : Hp, u = .bool true ∧ OtherAt aw2 b c' ∧ G' = R c' := by
  have h := switch_c (B := B) (w0 := w0) hsel hO aw_wf1
  rw [aw_switch] at h
  exact h
theorem aw_now : enE.val (findE aw2.now aw2.l) = .agg entry1.cells.toArray := by kernel_rfl

theorem v_field {P : Program} {N : Nat} {S : World → Prop} {E : Env} {T ty : TypeId} {x : Operand} {k off : Nat} {cs : List Value} {v : Value} {fs : Array Field} {fl : Field} (hT : P.underlying T = some (.struct fs)) (hf : fs[k]? = some fl) (ho : fl.offset = off) (hsc : Scalar P fl.type) (hx : Env.ev E x = some (.agg cs.toArray)) (hv : cs[off]? = some v) : OpV P S N E (.field T x k) ty v := fun a w ha _ => by
  subst ho
  have h1 := hsc.agg w
  simp [execOp, ha.ev hx, Instr.field, run_underlying hT, hf, asAgg, part, Sem.run_bind, h1, hv, Oper.quietUpon]

theorem aw_id : (findE aw2.now aw2.l).id = ⟨#[98]⟩ := by kernel_rfl
theorem bounds_u64 {n : Int} (h : (Lit.int .u64 n).wf = true) : 0 ≤ n ∧ n ≤ 18446744073709551615 := by
  simp [Lit.wf, IntKind.min, IntKind.max, IntKind.signed, IntKind.bits] at h
  omega
theorem bounds_u8 {n : Int} (h : (Lit.int .u8 n).wf = true) : 0 ≤ n ∧ n ≤ 255 := by
  simp [Lit.wf, IntKind.min, IntKind.max, IntKind.signed, IntKind.bits] at h
  omega
theorem form_str {H : Type} {enc : TypeId × Value → H} {w : World} {fuel : Nat} {cs : List Value} {y : DataW H × List MemPlace} (h : DataW.trod enc Try.prog w 0 (fun _ => true) true fuel 9 cs = some y) : ∃ s : ByteArray, cs = [.string s] := by
  cases fuel with
  | zero => simp [DataW.trod] at h
  | succ fuel =>
    have ht := Try.underlying9
    match cs, h with
    | [], h => simp [DataW.trod, ht] at h
    | [v], h => cases v <;> first | exact ⟨_, rfl⟩ | simp [DataW.trod, ht] at h
    | v :: u :: r, h => cases v <;> simp [DataW.trod, ht] at h
theorem awake_c {B : Nat} {w0 : World} {G : List Hp} :
    Go.Sl.Fn Try.prog 7 #[] B w0 G fun u G' => u = .bool true ∧ G' = G := by
  refine Fn.pure ?_
  have hok : enI.ok 97 := by show (0 : Int) ≤ 97 ∧ (97 : Int) ≤ 255; omega
  have hoe18 := len18 _ ok_e1
  have hoe1 := one18 _ ok_e1
  refine fn_enter Try.func7 rfl (by kernel_rfl) Try.ntmps7 (by simp) ?_
  refine Go.Sl.cw_seq ?_
  refine Go.Sl.cw_region ?_
  refine Go.Sl.ow_val rfl rfl (Go.Sl.v_assign rfl) ?_
  refine Go.Sl.ow_nil ?_
  refine Go.Sl.xw_then ?_
  refine Go.Sl.cw_seq ?_
  refine Go.Sl.cw_region ?_
  (refine Go.Sl.ow_buildL (es := [((97 : Int))]) rfl rfl Try.underlying26 Ty.em26 (iTy) rfl rfl (by simp [*]) (by simp only [List.length_cons, List.length_nil]; decide) ?_; intro ao3 c3 hL3)
  (refine ow_mark rfl rfl Try.underlying26 Try.underlying5 rfl (by assumption) (by simp) (by repeat (first | exact Go.Sl.Sel.here | apply Go.Sl.Sel.there)) ?_; intro c4 hr4)
  (refine Go.Sl.ow_call rfl rfl rfl rfl (newOther_c (l := [97]) (Vw.bytes (l := [97]) (Rd.vw (by assumption) (by repeat (first | exact Go.Sl.Sub.here | assumption | refine Go.Sl.Sub.there ?_))))) ?_; rintro _ _ ⟨x5, rfl, hq5, rfl⟩)
  refine Go.Sl.ow_val rfl rfl (Go.Sl.v_assign rfl) ?_
  refine Go.Sl.ow_nil ?_
  refine Go.Sl.xw_then ?_
  refine Go.Sl.cw_seq ?_
  refine Go.Sl.cw_region ?_
  refine Go.Sl.ow_val rfl rfl (Go.Sl.v_move rfl) ?_
  refine Go.Sl.ow_val rfl rfl (Go.Sl.v_build rfl (b_entry1)) ?_
  (refine Go.Sl.ow_call rfl rfl rfl rfl (aw_add_c (by repeat (first | exact Go.Sl.Sel.here | apply Go.Sl.Sel.there)) (by assumption)) ?_; rintro _ _ ⟨x8, rfl, hq8, rfl⟩)
  refine Go.Sl.ow_val rfl rfl (Go.Sl.v_assign rfl) ?_
  refine Go.Sl.ow_nil ?_
  refine Go.Sl.xw_then ?_
  refine Go.Sl.cw_seq ?_
  refine Go.Sl.cw_region ?_
  refine Go.Sl.ow_val rfl rfl (Go.Sl.v_move rfl) ?_
  refine Go.Sl.ow_val rfl rfl (Go.Sl.v_eql rfl rfl) ?_
  refine Go.Sl.ow_val rfl rfl (Go.Sl.v_move rfl) ?_
  refine Go.Sl.ow_dec 11 rfl (fun hc11 => ?_) (fun hc11 => ?_)
  rotate_left; (exfalso; omega); rotate_right
  refine Go.Sl.ow_val rfl rfl (Go.Sl.v_move rfl) ?_
  (refine Go.Sl.ow_call rfl rfl rfl rfl (aw_switch_c (by repeat (first | exact Go.Sl.Sel.here | apply Go.Sl.Sel.there)) (by assumption)) ?_; rintro _ _ ⟨x13, rfl, hq13, rfl⟩)
  refine Go.Sl.ow_val rfl rfl (Go.Sl.v_pick_true rfl rfl) ?_
  refine Go.Sl.ow_val rfl rfl (Go.Sl.v_move rfl) ?_
  refine Go.Sl.ow_val rfl rfl (Go.Sl.v_move rfl) ?_
  (refine Go.Sl.ow_call rfl rfl rfl rfl (retired_c (m := aw2) (by assumption) (by repeat (first | exact Go.Sl.Sub.here | assumption | refine Go.Sl.Sub.there ?_)) aw_wf2) ?_; rintro _ _ ⟨x17, rfl, hq17, rfl⟩)
  refine Go.Sl.ow_val rfl rfl (Go.Sl.v_len rfl Try.underlying32 rfl) ?_
  refine Go.Sl.ow_val rfl rfl (Go.Sl.v_eql rfl rfl) ?_
  refine Go.Sl.ow_val rfl rfl (Go.Sl.v_pick_true rfl rfl) ?_
  refine Go.Sl.ow_val rfl rfl (Go.Sl.v_move rfl) ?_
  refine Go.Sl.ow_dec 21 rfl (fun hc21 => ?_) (fun hc21 => ?_)
  refine Go.Sl.ow_val rfl rfl (Go.Sl.v_move rfl) ?_
  refine Go.Sl.ow_val rfl rfl (Go.Sl.v_call rfl rfl (now_c (m := aw2) (by assumption) (by repeat (first | exact Go.Sl.Sub.here | assumption | refine Go.Sl.Sub.there ?_)) aw_wf2)) ?_
  refine Go.Sl.ow_val rfl rfl (v_field Try.underlying30 rfl rfl Ty.sc9 rfl rfl) ?_
  refine Go.Sl.ow_val rfl rfl (Go.Sl.v_eqlS rfl rfl) ?_
  refine Go.Sl.ow_val rfl rfl (Go.Sl.v_pick_true rfl rfl) ?_
  refine Go.Sl.ow_val rfl rfl (Go.Sl.v_assign rfl) ?_
  refine Go.Sl.ow_nil ?_
  refine Go.Sl.xw_then ?_
  refine Go.Sl.cw_ret ?_
  refine Go.Sl.ret1 rfl (Go.Sl.res_tmp rfl) ?_
  rotate_left
  refine Go.Sl.ow_skip rfl rfl ?_
  refine Go.Sl.ow_skip rfl rfl ?_
  refine Go.Sl.ow_skip rfl rfl ?_
  refine Go.Sl.ow_skip rfl rfl ?_
  refine Go.Sl.ow_val rfl rfl (Go.Sl.v_pick_false rfl rfl) ?_
  refine Go.Sl.ow_val rfl rfl (Go.Sl.v_assign rfl) ?_
  refine Go.Sl.ow_nil ?_
  refine Go.Sl.xw_then ?_
  refine Go.Sl.cw_ret ?_
  refine Go.Sl.ret1 rfl (Go.Sl.res_tmp rfl) ?_
  rotate_left
  · refine ⟨?_, (by first | exact Go.Sl.Cov.refl _ | (intro p; simp only [List.flatten_cons, List.flatten_nil, List.flatten_append, List.append_nil, List.nil_append, Go.Sl.cnt_append, Go.Sl.cnt_cons, Go.Sl.cnt_nil, List.set_cons_zero, List.set_cons_succ, List.length_nil, List.length_cons, Nat.zero_add, List.append]; omega))⟩
    rw [decide_eq_true aw_id]
  · exact absurd rfl hc21

/-- an entry as it lies in memory -/
theorem form_entry {H : Type} {enc : TypeId × Value → H} {w : World} {fuel : Nat} {cs : List Value} {y : DataW H × List MemPlace} (h : DataW.trod enc Try.prog w 0 (fun _ => true) true fuel 30 cs = some y) : ∃ e : Entry, cs = e.cells ∧ enE.ok e := by
  obtain ⟨hl, fuel', hf⟩ := form_struct Try.underlying30 h
  have hc : Try.prog.cellsOf 30 = 18 := by kernel_rfl
  rw [hc] at hl
  have g0 : ∃ z, DataW.trod enc Try.prog w 0 (fun _ => true) true fuel' 27 ((cs.drop 0).take (Try.prog.cellsOf 27)) = some z := hf 0 _ rfl
  obtain ⟨z0, h0⟩ := g0
  have g1 : ∃ z, DataW.trod enc Try.prog w 0 (fun _ => true) true fuel' 9 ((cs.drop 1).take (Try.prog.cellsOf 9)) = some z := hf 1 _ rfl
  obtain ⟨z1, h1⟩ := g1
  have g2 : ∃ z, DataW.trod enc Try.prog w 0 (fun _ => true) true fuel' 28 ((cs.drop 2).take (Try.prog.cellsOf 28)) = some z := hf 2 _ rfl
  obtain ⟨z2, h2⟩ := g2
  have c0 : Try.prog.cellsOf 27 = 1 := by kernel_rfl
  have c1 : Try.prog.cellsOf 9 = 1 := by kernel_rfl
  have c2 : Try.prog.cellsOf 28 = 16 := by kernel_rfl
  rw [c0] at h0
  rw [c1] at h1
  rw [c2] at h2
  obtain ⟨n, e0, w0⟩ := form_int Try.underlying27 h0
  obtain ⟨s, e1⟩ := form_str h1
  obtain ⟨l, e2, l2, _⟩ := form_ints Try.underlying28 Try.underlying5 (by kernel_rfl) (by kernel_rfl) h2
  refine ⟨⟨n, s, l⟩, ?_, ?_⟩
  · rw [show cs = cs.drop 0 from rfl, drop_take_drop cs 0 1, drop_take_drop cs (0 + 1) 1, drop_take_drop cs (0 + 1 + 1) 16]
    rw [e0, show (cs.drop (0 + 1)).take 1 = [.string s] from e1, show (cs.drop (0 + 1 + 1)).take 16 = l.map (Value.int .u8) from e2, List.drop_eq_nil_of_le (by omega)]
    simp [Entry.cells]
  · have := bounds_u64 w0
    exact ⟨this.1, this.2, l2⟩
end Go.Proofs.Ytfilpenkihdjiaa
