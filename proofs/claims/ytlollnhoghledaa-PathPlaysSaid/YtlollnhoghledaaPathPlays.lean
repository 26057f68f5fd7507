/- PathPlays: whatever the input it returns true, and the input reads as it did. Conditions: none. -/
import Derived.Test.YtlollnhoghledaaPathAct
import Derived.Test.YtlollnhoghledaaArgs
namespace Go.Proofs.Ytlollnhoghledaa.lawPathPlays
open Go Go.Sl Go.Proofs Go.RowKit Go.ChangeShapes Go.WideShapes Go.ChangeAt Go.Proofs.Ytlollnhoghledaa
set_option linter.unusedVariables false
set_option linter.unusedSimpArgs false

def ActM.w (a : ActM) : List Int := if a.raw = true then a.any else [a.word.tmod 3, 0, 0, 0, 0, 0, 0, 0]
def ActM.s (a : ActM) : Int := if a.raw = true then a.size else a.size.tmod 2000
theorem ActM.w_len {a : ActM} (h : a.WF) : a.w.length = 8 := by
  unfold ActM.w
  split
  · exact h.any
  · rfl
theorem ActM.s_ok {a : ActM} (h : a.WF) : -9223372036854775808 ≤ a.s ∧ a.s ≤ 9223372036854775807 := by
  have := h.size
  unfold ActM.s
  split
  · exact this
  · have h1 := Int.tmod_lt_of_pos a.size (b := 2000) (by decide)
    have h2 := Int.lt_tmod_of_pos a.size (b := 2000) (by decide)
    omega
theorem b1 {x : Int} : Build Try.prog 33 #[(0, .int .u8 x)] (.agg (by8 [x, 0, 0, 0, 0, 0, 0, 0]).toArray) := fun w => by kernel_rfl
theorem set8 {l w : List Int} (hl : l.length = 8) (hw : w.length = 8) : SetN (.cells (by8 l).toArray 33 (0, 0)) 0 (by8 w) (.cells (by8 w).toArray 33 (0, 0)) := SetN.all (by simp [hl, hw])
theorem setAct {l : List Value} {a : ActM} (hl : l.length = 13) (ha : a.any.length = 8) : SetN (.cells l.toArray 46 (0, 0)) 0 a.cells a.obj := SetN.all (by simp [ActM.cells, ha, hl])
theorem lk {E : Env} {t : Nat} {k : IntKind} {a b : Int} (h : Env.look E t = some (.int k a)) (e : a = b) : Env.look E t = some (.int k b) := e ▸ h
theorem lkb {E : Env} {t : Nat} {a b : Bool} (h : Env.look E t = some (.bool a)) (e : a = b) : Env.look E t = some (.bool b) := e ▸ h

theorem cw_nilChunk {P : Program} {Q : Exit → Go.Act → World → Prop} {B : Nat} {w0 : World} {N : Nat} {G : List Hp} {E : Env} {c : Code} (h : CW P Q B w0 N ([] :: G) E c) : CW P Q B w0 N G E c :=
  fun a w ha hw => h a w ha ⟨hw.below, hw.base, by simpa using hw.has, by simpa using hw.nodup⟩

structure Ix where
  i : Nat
  m : PathM
  now : Int
  ao : Option Addr
  cap : Nat
  ch : Hp
structure Inv (number : Int) (x : Ix) : Prop where
  wf : x.m.WF
  num : x.m.number = number
  now0 : 0 ≤ x.now
  sl : IsSl 33 8 (.slice x.ao x.m.many x.cap) x.ch x.m.many (by8 (x.m.ws.take x.m.many).flatten)
theorem Inv.same {number : Int} {x : Ix} (h : Inv number x) {m' : PathM} {now' : Int} (hwf : m'.WF) (hn : m'.number = x.m.number) (hm : m'.many = x.m.many) (hw : m'.ws = x.m.ws) (h0 : 0 ≤ now') : Inv number ⟨x.i, m', now', x.ao, x.cap, x.ch⟩ :=
  ⟨hwf, hn.trans h.num, h0, by
    have := h.sl
    dsimp only
    rw [hm, hw]
    exact this⟩
theorem came_pos {m : PathM} {s : Int} (h : m.WF) (hs : 0 < s) : min (m.inn + s) 1537228672809129301 = (m.came s).inn := by
  have := h.inn
  show _ = plusF m.inn s 1537228672809129301
  unfold plusF
  rw [if_neg (by omega)]
  split <;> omega
theorem came_neg {m : PathM} {s : Int} (hs : ¬ 0 < s) : m.inn = (m.came s).inn := by
  show _ = plusF m.inn s 1537228672809129301
  unfold plusF
  rw [if_pos (by omega)]
theorem sent_pos {m : PathM} {s : Int} (h : m.WF) (hs : 0 < s) : min (m.out + s) 4611686018427387903 = (m.sent s).out := by
  have := h.out
  show _ = plusF m.out s 4611686018427387903
  unfold plusF
  rw [if_neg (by omega)]
  split <;> omega
theorem sent_neg {m : PathM} {s : Int} (hs : ¬ 0 < s) : m.out = (m.sent s).out := by
  show _ = plusF m.out s 4611686018427387903
  unfold plusF
  rw [if_pos (by omega)]
theorem resp2 {m : PathM} {w : List Int} : (m.response w).2 = (decide (m.state = 1) && decide (w = m.word)) := by
  unfold PathM.response
  by_cases h1 : m.state = 1 <;> by_cases h2 : m.word = w
  · subst h2; simp [h1]
  · simp [h1, h2, Ne.symm h2]
  · simp [h1]
  · simp [h1]
theorem tick2 {m : PathM} {t : Int} : (m.tick t).2 = (decide (m.state = 1) && decide (m.till ≤ t)) := by
  unfold PathM.tick
  by_cases h1 : m.state = 1 <;> by_cases h2 : m.till ≤ t
  · rw [if_neg (by omega)]; simp [h1, h2]
  · rw [if_pos (by omega)]; simp [h1, h2]
  · simp [h1]
  · simp [h1]
theorem no1 {m : PathM} (h : m.state = 1) (hc : m.asksV.2 ≠ m.asks) : False := by
  apply hc
  unfold PathM.asksV
  cases h2 : m.asks <;> simp [h]
theorem no2 {m : PathM} (h : ¬ m.state = 1) (hc : m.asksV.2 ≠ false) : False := by
  apply hc
  unfold PathM.asksV
  simp [h]
theorem no3 {m : PathM} (h : m.asksV.2 = true) (hc : ¬ m.asksV.1 = m.word) : False := by
  unfold PathM.asksV at *
  split at h
  · rename_i h1
    rw [if_pos h1] at hc
    exact hc rfl
  · exact Bool.noConfusion h
theorem words_set {ws : List (List Int)} {n : Nat} {w : List Int} (hn : n < ws.length) : by8 (ws.take n).flatten ++ by8 w = by8 ((ws.set n w).take (n + 1)).flatten := by
  have : (ws.set n w).take (n + 1) = ws.take n ++ [w] := by
    rw [List.take_add_one]
    simp [List.getElem?_set, hn]
    exact List.take_set_of_le (Nat.le_refl n)
  rw [this]
  simp [by8]
theorem words_drop {ws : List (List Int)} {n : Nat} (h4 : ws.length = 4) (h8 : ∀ w ∈ ws, w.length = 8) (h0 : 0 < n) (hn : n ≤ 4) : (by8 (ws.take n).flatten).drop (1 * 8) = by8 ((ws.drop 1 ++ ws.drop 3).take (n - 1)).flatten := by
  cases ws with
  | nil => simp at h4
  | cons a t =>
    cases n with
    | zero => omega
    | succ k =>
      have ha := h8 a (by simp)
      simp at h4
      simp only [List.take_succ_cons, List.flatten_cons, List.drop_succ_cons, List.drop_zero, Nat.add_sub_cancel, by8, List.map_append]
      rw [List.drop_left' (by simp [ha]), List.take_append_of_le_length (by omega)]
theorem sl_view {e : TypeId} {size : Nat} {v : Value} {c : Hp} {n : Nat} {xs : List Value} (h : IsSl e size v c n xs) : ∃ ao cap, v = .slice ao n cap := by
  cases h with
  | nil => exact ⟨_, _, rfl⟩
  | row => exact ⟨_, _, rfl⟩
theorem sl_get {e : TypeId} {size : Nat} {v : Value} {c : Hp} {n : Nat} {xs : List Value} (h : IsSl e size v c n xs) (h0 : 0 < n) : ∃ b o cap obj, v = .slice (some ⟨b, o, none⟩) n cap ∧ c = [(b, obj)] ∧ GetN obj o xs ∧ xs.length = n * size := by
  cases h with
  | nil => omega
  | @row b n cap pre xs spare post hx hs hn => exact ⟨b, _, cap, _, rfl, rfl, GetN.part rfl, hx⟩
theorem bs8' {a b c d e f g h : Int} : ∀ w : World, (Instr.buildSlice 32 1 #[(0, .agg (by8 [a, b, c, d, e, f, g, h]).toArray)]).run Try.prog w = .ok (.slice (some ⟨w.heap.size, 0, none⟩) 1 1) (w.alloc (.cells (by8 [a, b, c, d, e, f, g, h]).toArray 33)) := fun w => by kernel_rfl
theorem bs8 {l : List Int} (hl : l.length = 8) : ∀ w : World, (Instr.buildSlice 32 1 #[(0, .agg (by8 l).toArray)]).run Try.prog w = .ok (.slice (some ⟨w.heap.size, 0, none⟩) 1 1) (w.alloc (.cells (by8 l).toArray 33)) := by
  match l, hl with
  | [a, b, c, d, e, f, g, h], _ => exact bs8'

set_option maxHeartbeats 4000000 in
theorem law {B : Nat} {w0 : World} {ao : Option Addr} {n cn : Nat} {f : Nat → ActM} {known : Bool} {number : Int} (hn : n ≤ 9223372036854775807) (hnum : 0 ≤ number ∧ number ≤ 18446744073709551615)
    (h1 : OldSl B w0 13 ao n (fun i => (f i).cells)) (hf : ∀ i, i < n → (f i).WF) :
    FnC Try.prog 5 #[.bool known, .int .u64 number, .slice ao n cn] B w0 [] (R0 (.bool true)) := fun F => by
  refine fn_enter Try.func5 rfl (by kernel_rfl) Try.ntmps5 (by simp) ?_
  refine Go.Sl.cw_seq ?_
  refine Go.Sl.cw_region ?_
  refine Go.Sl.ow_val rfl rfl (Go.Sl.v_assign rfl) ?_
  refine Go.Sl.ow_nil ?_
  refine Go.Sl.xw_then ?_
  refine Go.Sl.cw_seq ?_
  refine Go.Sl.cw_seq ?_
  refine Go.Sl.cw_region ?_
  refine Go.Sl.ow_val rfl rfl (Go.Sl.v_call rfl rfl (Go.Sl.Fn.c0r (awake_c))) ?_
  refine Go.Sl.ow_val rfl rfl (Go.Sl.v_not_true rfl) ?_
  refine Go.Sl.ow_nil ?_
  refine Go.Sl.xw_then ?_
  refine Go.Sl.cw_false rfl ?_
  refine Go.Sl.cw_skip ?_
  refine Go.Sl.xw_then ?_
  refine Go.Sl.cw_seq ?_
  refine Go.Sl.cw_region ?_
  refine Go.Sl.ow_val rfl rfl (Go.Sl.v_move rfl) ?_
  refine Go.Sl.ow_val rfl rfl (Go.Sl.v_move rfl) ?_
  refine ow_call rfl rfl rfl rfl (Fn.c0 new_c) ?_
  rintro _ _ ⟨_, ⟨ba, rfl, rfl⟩, rfl⟩
  refine Go.Sl.ow_val rfl rfl (Go.Sl.v_assign rfl) ?_
  refine Go.Sl.ow_nil ?_
  refine Go.Sl.xw_then ?_
  refine Go.Sl.cw_seq ?_
  refine Go.Sl.cw_region ?_
  refine Go.Sl.ow_val rfl rfl (Go.Sl.v_assign rfl) ?_
  refine Go.Sl.ow_val rfl rfl (Go.Sl.v_assign rfl) ?_
  refine Go.Sl.ow_val rfl rfl (Go.Sl.v_assign rfl) ?_
  refine Go.Sl.ow_nil ?_
  refine Go.Sl.xw_then ?_
  refine cw_seq_cut (ι := Unit) (fun _ => True) (fun _ => [[(ba, (pathNew number known).obj)]] ++ F)
    (fun _ => [(1, .int .u64 number), (2, .slice ao n cn), (7, .pointer (some ⟨ba, 0, none⟩)), (8, .int .u8 (if known = true then 2 else 0)), (9, .int .u64 0), (10, .int .u64 0)]) ?_ (fun _ _ => ?_)
  · refine Go.Sl.cw_seq ?_
    refine Go.Sl.cw_region ?_
    refine Go.Sl.ow_val rfl rfl (Go.Sl.v_move rfl) ?_
    refine Go.Sl.ow_nil ?_
    refine Go.Sl.xw_then ?_
    refine Go.Sl.cw_bool rfl (fun hc32 => ?_) (fun hc32 => ?_)
    refine Go.Sl.cw_region ?_
    refine Go.Sl.ow_val rfl rfl (Go.Sl.v_assign rfl) ?_
    refine Go.Sl.ow_nil ?_
    rotate_left
    refine Go.Sl.cw_skip ?_
    rotate_left
    · exact xw_joint () trivial (.inr (by repeat (first | exact List.Sublist.refl _ | refine List.Sublist.cons_cons _ ?_ | refine List.Sublist.cons _ ?_))) ⟨rfl, rfl, rfl, lk rfl (by simp [hc32]), rfl, rfl, trivial⟩
    · exact xw_joint () trivial (.inr (by repeat (first | exact List.Sublist.refl _ | refine List.Sublist.cons_cons _ ?_ | refine List.Sublist.cons _ ?_))) ⟨rfl, rfl, rfl, lk rfl (by simp [hc32]), rfl, rfl, trivial⟩
  refine Go.Sl.cw_seq ?_
  refine Go.Sl.cw_region ?_
  (refine Go.Sl.ow_alloc rfl rfl Ty.ze33 ?_; intro b11)
  refine Go.Sl.ow_nil ?_
  refine Go.Sl.xw_then ?_
  refine Go.Sl.cw_seq ?_
  refine Go.Sl.cw_region ?_
  refine Go.Sl.ow_val rfl rfl (Go.Sl.v_assign rfl) ?_
  refine Go.Sl.ow_val rfl rfl (Go.Sl.v_assign rfl) ?_
  refine Go.Sl.ow_nil ?_
  refine Go.Sl.xw_then ?_
  refine Go.Sl.cw_seq ?_
  refine Go.Sl.cw_region ?_
  refine Go.Sl.ow_val rfl rfl (Go.Sl.v_assign rfl) ?_
  refine Go.Sl.ow_nil ?_
  refine Go.Sl.xw_then ?_
  refine Go.Sl.cw_seq ?_
  refine Go.Sl.cw_region ?_
  refine Go.Sl.ow_val rfl rfl (Go.Sl.v_assign rfl) ?_
  refine Go.Sl.ow_nil ?_
  refine Go.Sl.xw_then ?_
  refine Go.Sl.cw_seq ?_
  refine Go.Sl.cw_seq ?_
  refine Go.Sl.cw_region ?_
  refine Go.Sl.ow_val rfl rfl (Go.Sl.v_move rfl) ?_
  refine Go.Sl.ow_val rfl rfl (Go.Sl.v_len rfl Try.underlying44 rfl) ?_
  refine Go.Sl.ow_val rfl rfl (Go.Sl.v_move rfl) ?_
  refine Go.Sl.ow_nil ?_
  refine Go.Sl.xw_then ?_
  refine Go.Sl.cw_block ?_
  refine cw_nilChunk ?_
  refine cw_loop (ι := Ix) (fun x => x.i ≤ n ∧ x.i ≤ 80 ∧ x.now ≤ 65535 * x.i ∧ Inv number x) (fun x => n - x.i) (fun x => [x.ch, [(b11, .cells (by8 x.m.word).toArray 33 (0, 0))], [(ba, x.m.obj)]] ++ F)
    (fun x => [(1, .int .u64 number), (7, .pointer (some ⟨ba, 0, none⟩)), (8, .int .u8 x.m.state), (9, .int .u64 x.m.inn), (10, .int .u64 x.m.out), (11, .pointer (some ⟨b11, 0, none⟩)), (12, .int .u64 x.m.till), (13, .int .u64 x.now), (14, .bool x.m.asks), (15, .slice x.ao x.m.many x.cap), (33, .slice ao n cn), (34, .int .i64 n), (35, .int .i64 x.i)])
    ⟨0, pathNew number known, 0, none, 0, []⟩ ⟨by simp, by simp, by simp, ⟨pathNew_wf hnum, rfl, by simp, .nil⟩⟩ (by repeat (first | exact List.Sublist.refl _ | refine List.Sublist.cons_cons _ ?_ | refine List.Sublist.cons _ ?_)) ⟨rfl, rfl, rfl, rfl, rfl, rfl, rfl, rfl, rfl, rfl, rfl, rfl, rfl, trivial⟩ ?_
  rintro ⟨i, m, now, ao2, cap, ch⟩ ⟨hi, hi80, hnow, hI⟩
  dsimp only at hi hi80 hnow ⊢
  have hwf := hI.wf
  have hnow0 := hI.now0
  dsimp only at hwf hnow0
  refine Go.Sl.cw_seq ?_
  refine Go.Sl.cw_region ?_
  refine Go.Sl.ow_val rfl rfl (Go.Sl.v_lss rfl rfl) ?_
  refine Go.Sl.ow_nil ?_
  refine Go.Sl.xw_then ?_
  refine Go.Sl.cw_seq ?_
  refine Go.Sl.cw_dec rfl (fun hc36 => ?_) (fun hc36 => ?_)
  refine Go.Sl.cw_skip ?_
  refine Go.Sl.xw_then ?_
  refine Go.Sl.cw_seq ?_
  refine Go.Sl.cw_block ?_
  refine Go.Sl.cw_seq ?_
  refine Go.Sl.cw_region ?_
  refine Go.Sl.ow_val rfl rfl (Go.Sl.v_move rfl) ?_
  rotate_left
  refine Go.Sl.cw_exit ?_
  refine Go.Sl.xw_then_exit ?_
  refine Go.Sl.xw_round_exit ?_
  refine Go.Sl.xw_block_exit ?_
  refine Go.Sl.xw_then ?_
  refine Go.Sl.cw_seq ?_
  refine Go.Sl.cw_region ?_
  refine Go.Sl.ow_val rfl rfl (Go.Sl.v_assign rfl) ?_
  refine Go.Sl.ow_nil ?_
  refine Go.Sl.xw_then ?_
  refine Go.Sl.cw_ret ?_
  refine Go.Sl.ret1 rfl (Go.Sl.res_tmp rfl) ?_
  rotate_left
  · obtain ⟨b1', o1, hao, hv⟩ := h1.varN (P := Try.prog) Ty.ag46 (i := i) (by omega) (by simp [ActM.cells, (hf i (by omega)).any])
    have hfi := hf i (by omega)
    have hwt := hfi.wait
    have hany := hfi.any
    have hacl : (f i).cells.length = 13 := by simp [ActM.cells, hany]
    have hone : ∀ u ∈ (f i).cells, u.oneCell' = true := by
      intro u hu
      simp only [ActM.cells, List.mem_append, List.mem_cons, List.not_mem_nil, or_false] at hu
      rcases hu with (rfl | rfl | rfl | rfl) | hu | rfl
      · rfl
      · rfl
      · rfl
      · rfl
      · exact by8_one _ u hu
      · rfl
    have ho1 : ∀ u ∈ by8 [(f i).word.tmod 3, 0, 0, 0, 0, 0, 0, 0], u.oneCell' = true := by8_one _
    have ho2 : (by8 [(f i).word.tmod 3, 0, 0, 0, 0, 0, 0, 0]).length = 8 := rfl
    have ho3 : ∀ u ∈ by8 (f i).any, u.oneCell' = true := by8_one _
    have ho4 : (by8 (f i).any).length = 8 := by simp [hany]
    refine Go.Sl.ow_val rfl rfl (Go.Sl.v_indexAddr Try.underlying44 Ty.el44 rfl (by first | rfl | assumption) rfl rfl (by omega)) ?_
    refine Go.Sl.ow_val rfl rfl (Go.Sl.v_load rfl (hv _)) ?_
    (refine Go.Sl.ow_alloc rfl rfl Ty.ze46 ?_; intro b17)
    refine Go.Sl.ow_val rfl rfl (Go.Sl.v_assign rfl) ?_
    refine Go.Sl.ow_storeN rfl rfl rfl Ty.ag46 (by first | rfl | assumption) (by first | assumption | simp) .here (setAct (a := f i) (by decide) hany) ?_
    refine Go.Sl.ow_nil ?_
    refine Go.Sl.xw_then ?_
    refine Go.Sl.cw_seq ?_
    refine Go.Sl.cw_seq ?_
    refine Go.Sl.cw_region ?_
    refine Go.Sl.ow_val rfl rfl (Go.Sl.v_move rfl) ?_
    refine Go.Sl.ow_val rfl rfl (Go.Sl.v_geq rfl rfl) ?_
    refine Go.Sl.ow_nil ?_
    refine Go.Sl.xw_then ?_
    refine Go.Sl.cw_dec rfl (fun hc41 => ?_) (fun hc41 => ?_)
    refine Go.Sl.cw_exit ?_
    refine Go.Sl.xw_then_exit ?_
    refine Go.Sl.xw_block_other rfl ?_
    refine Go.Sl.xw_then_exit ?_
    refine Go.Sl.xw_round_exit ?_
    refine Go.Sl.xw_block_exit ?_
    refine Go.Sl.xw_then ?_
    refine Go.Sl.cw_seq ?_
    refine Go.Sl.cw_region ?_
    refine Go.Sl.ow_val rfl rfl (Go.Sl.v_assign rfl) ?_
    refine Go.Sl.ow_nil ?_
    refine Go.Sl.xw_then ?_
    refine Go.Sl.cw_ret ?_
    refine Go.Sl.ret1 rfl (Go.Sl.res_tmp rfl) ?_
    rotate_left
    refine Go.Sl.cw_skip ?_
    refine Go.Sl.xw_then ?_
    refine Go.Sl.cw_seq ?_
    refine Go.Sl.cw_region ?_
    refine Go.Sl.ow_val rfl rfl (Go.Sl.v_move rfl) ?_
    refine Go.Sl.ow_val rfl rfl (Go.Sl.v_fieldAddr0 Ty.fd46_3 rfl) ?_
    refine Go.Sl.ow_val rfl rfl (Go.Sl.v_load rfl (Go.Sl.Var.at1 Ty.sc27 .here (ActM.g_wait))) ?_
    refine Go.Sl.ow_val rfl rfl (Go.Sl.v_convert Try.underlying27 Try.underlying26 rfl (Go.Sl.nw_u64 (by omega) (by omega))) ?_
    refine Go.Sl.ow_val rfl rfl (Go.Sl.v_add rfl rfl (Go.Sl.nw_u64 (by omega) (by omega))) ?_
    refine Go.Sl.ow_val rfl rfl (Go.Sl.v_assign rfl) ?_
    refine Go.Sl.ow_nil ?_
    refine Go.Sl.xw_then ?_
    refine Go.Sl.cw_seq ?_
    refine Go.Sl.cw_region ?_
    refine Go.Sl.ow_val rfl rfl (Go.Sl.v_fieldAddr0 Ty.fd46_1 rfl) ?_
    refine Go.Sl.ow_val rfl rfl (Go.Sl.v_load rfl (Go.Sl.Var.at1 Ty.sc5 .here (ActM.g_word))) ?_
    refine Go.Sl.ow_val rfl rfl (Go.Sl.v_rem rfl rfl (by decide)) ?_
    refine Go.Sl.ow_val rfl rfl (Go.Sl.v_build rfl (b1)) ?_
    (refine Go.Sl.ow_alloc rfl rfl Ty.ze33 ?_; intro b18)
    refine Go.Sl.ow_storeN rfl rfl rfl Ty.ag33 (by first | rfl | assumption) (by first | assumption | simp) .here (set8 (l := zero8) (w := [(f i).word.tmod 3, 0, 0, 0, 0, 0, 0, 0]) rfl rfl) ?_
    refine Go.Sl.ow_nil ?_
    refine Go.Sl.xw_then ?_
    rotate_left
    · exact done0 rfl (by repeat (first | exact List.Sublist.refl _ | refine List.Sublist.cons_cons _ ?_ | refine List.Sublist.cons _ ?_))
    refine cw_seq_cut (ι := Unit) (fun _ => True) (fun _ => [[(b18, .cells (by8 (f i).w).toArray 33 (0, 0))], [(b17, (f i).obj)], ch, [(b11, .cells (by8 m.word).toArray 33 (0, 0))], [(ba, m.obj)]] ++ F) (fun _ => [(1, .int .u64 number), (7, .pointer (some ⟨ba, 0, none⟩)), (17, .pointer (some ⟨b17, 0, none⟩)), (18, .pointer (some ⟨b18, 0, none⟩)), (8, .int .u8 m.state), (9, .int .u64 m.inn), (10, .int .u64 m.out), (11, .pointer (some ⟨b11, 0, none⟩)), (12, .int .u64 m.till), (13, .int .u64 (now + (f i).wait)), (14, .bool m.asks), (15, .slice ao2 m.many cap), (33, .slice ao n cn), (34, .int .i64 n), (35, .int .i64 i)]) ?_ (fun _ _ => ?_)
    · refine Go.Sl.cw_seq ?_
      refine Go.Sl.cw_region ?_
      refine Go.Sl.ow_val rfl rfl (Go.Sl.v_fieldAddr0 Ty.fd46_5 rfl) ?_
      refine Go.Sl.ow_val rfl rfl (Go.Sl.v_load rfl (Go.Sl.Var.at1 Ty.sc4 (.there .here) (ActM.g_raw hany))) ?_
      refine Go.Sl.ow_nil ?_
      refine Go.Sl.xw_then ?_
      refine Go.Sl.cw_bool rfl (fun hc52 => ?_) (fun hc52 => ?_)
      refine Go.Sl.cw_region ?_
      refine Go.Sl.ow_val rfl rfl (Go.Sl.v_fieldAddr0 Ty.fd46_4 rfl) ?_
      refine Go.Sl.ow_val rfl rfl (Go.Sl.v_load rfl (Go.Sl.Var.atN Ty.ag33 (.there .here) (ActM.g_any) (by first | rfl | assumption))) ?_
      refine Go.Sl.ow_storeN rfl rfl rfl Ty.ag33 (by first | rfl | assumption) (by first | assumption | simp) .here (set8 (l := [(f i).word.tmod 3, 0, 0, 0, 0, 0, 0, 0]) (w := (f i).any) rfl hany) ?_
      refine Go.Sl.ow_nil ?_
      rotate_left
      refine Go.Sl.cw_skip ?_
      rotate_left
      · refine xw_joint () trivial (.inr ?_) ⟨rfl, rfl, rfl, rfl, rfl, rfl, rfl, rfl, rfl, rfl, rfl, rfl, rfl, rfl, rfl, trivial⟩
        rw [show (f i).w = (f i).any from by simp [ActM.w, hc52]]
        exact (by repeat (first | exact List.Sublist.refl _ | refine List.Sublist.cons_cons _ ?_ | refine List.Sublist.cons _ ?_))
      · refine xw_joint () trivial (.inr ?_) ⟨rfl, rfl, rfl, rfl, rfl, rfl, rfl, rfl, rfl, rfl, rfl, rfl, rfl, rfl, rfl, trivial⟩
        rw [show (f i).w = [(f i).word.tmod 3, 0, 0, 0, 0, 0, 0, 0] from by simp [ActM.w, hc52]]
        exact (by repeat (first | exact List.Sublist.refl _ | refine List.Sublist.cons_cons _ ?_ | refine List.Sublist.cons _ ?_))
    refine Go.Sl.cw_seq ?_
    refine Go.Sl.cw_region ?_
    refine Go.Sl.ow_val rfl rfl (Go.Sl.v_fieldAddr0 Ty.fd46_2 rfl) ?_
    refine Go.Sl.ow_val rfl rfl (Go.Sl.v_load rfl (Go.Sl.Var.at1 Ty.sc3 (.there .here) (ActM.g_size))) ?_
    refine Go.Sl.ow_val rfl rfl (Go.Sl.v_assign rfl) ?_
    refine Go.Sl.ow_nil ?_
    refine Go.Sl.xw_then ?_
    refine cw_seq_cut (ι := Unit) (fun _ => True) (fun _ => [[(b18, .cells (by8 (f i).w).toArray 33 (0, 0))], [(b17, (f i).obj)], ch, [(b11, .cells (by8 m.word).toArray 33 (0, 0))], [(ba, m.obj)]] ++ F) (fun _ => [(1, .int .u64 number), (7, .pointer (some ⟨ba, 0, none⟩)), (17, .pointer (some ⟨b17, 0, none⟩)), (18, .pointer (some ⟨b18, 0, none⟩)), (19, .int .i64 (f i).s), (8, .int .u8 m.state), (9, .int .u64 m.inn), (10, .int .u64 m.out), (11, .pointer (some ⟨b11, 0, none⟩)), (12, .int .u64 m.till), (13, .int .u64 (now + (f i).wait)), (14, .bool m.asks), (15, .slice ao2 m.many cap), (33, .slice ao n cn), (34, .int .i64 n), (35, .int .i64 i)]) ?_ (fun _ _ => ?_)
    · refine Go.Sl.cw_seq ?_
      refine Go.Sl.cw_region ?_
      refine Go.Sl.ow_val rfl rfl (Go.Sl.v_fieldAddr0 Ty.fd46_5 rfl) ?_
      refine Go.Sl.ow_val rfl rfl (Go.Sl.v_load rfl (Go.Sl.Var.at1 Ty.sc4 (.there .here) (ActM.g_raw hany))) ?_
      refine Go.Sl.ow_val rfl rfl (Go.Sl.v_not_bool rfl) ?_
      refine Go.Sl.ow_nil ?_
      refine Go.Sl.xw_then ?_
      refine Go.Sl.cw_bool rfl (fun hc59 => ?_) (fun hc59 => ?_)
      refine Go.Sl.cw_region ?_
      refine Go.Sl.ow_val rfl rfl (Go.Sl.v_fieldAddr0 Ty.fd46_2 rfl) ?_
      refine Go.Sl.ow_val rfl rfl (Go.Sl.v_load rfl (Go.Sl.Var.at1 Ty.sc3 (.there .here) (ActM.g_size))) ?_
      refine Go.Sl.ow_val rfl rfl (Go.Sl.v_rem rfl rfl (by decide)) ?_
      refine Go.Sl.ow_val rfl rfl (Go.Sl.v_assign rfl) ?_
      refine Go.Sl.ow_nil ?_
      rotate_left
      refine Go.Sl.cw_skip ?_
      rotate_left
      · exact xw_joint () trivial (.inr (by repeat (first | exact List.Sublist.refl _ | refine List.Sublist.cons_cons _ ?_ | refine List.Sublist.cons _ ?_))) ⟨rfl, rfl, rfl, rfl, lk rfl (by simp at hc59; simp [ActM.s, hc59]), rfl, rfl, rfl, rfl, rfl, rfl, rfl, rfl, rfl, rfl, rfl, trivial⟩
      · exact xw_joint () trivial (.inr (by repeat (first | exact List.Sublist.refl _ | refine List.Sublist.cons_cons _ ?_ | refine List.Sublist.cons _ ?_))) ⟨rfl, rfl, rfl, rfl, lk rfl (by simp at hc59; simp [ActM.s, hc59]), rfl, rfl, rfl, rfl, rfl, rfl, rfl, rfl, rfl, rfl, rfl, trivial⟩
    skip
    have hsb := ActM.s_ok hfi
    have hwl := ActM.w_len hfi
    have hwl2 : (by8 (f i).w).length = 8 := by simp [hwl]
    have hwo : ∀ u ∈ by8 (f i).w, u.oneCell' = true := by8_one _
    have hml := hwf.word
    have hml2 : (by8 m.word).length = 8 := by simp [hml]
    have hin := hwf.inn
    have hout := hwf.out
    have htill := hwf.till
    refine cw_seq_cut (ι := Ix) (fun x => x.i = i ∧ x.now = now + (f i).wait ∧ Inv number x) (fun x => [x.ch, [(b11, .cells (by8 x.m.word).toArray 33 (0, 0))], [(ba, x.m.obj)]] ++ F)
      (fun x => [(1, .int .u64 number), (7, .pointer (some ⟨ba, 0, none⟩)), (8, .int .u8 x.m.state), (9, .int .u64 x.m.inn), (10, .int .u64 x.m.out), (11, .pointer (some ⟨b11, 0, none⟩)), (12, .int .u64 x.m.till), (13, .int .u64 x.now), (14, .bool x.m.asks), (15, .slice x.ao x.m.many x.cap), (33, .slice ao n cn), (34, .int .i64 n), (35, .int .i64 x.i)]) ?_ ?_
    · have hnw : 0 ≤ now + (f i).wait := by omega
      refine Go.Sl.cw_seq ?_
      refine Go.Sl.cw_region ?_
      refine Go.Sl.ow_val rfl rfl (Go.Sl.v_fieldAddr0 Ty.fd46_0 rfl) ?_
      refine Go.Sl.ow_val rfl rfl (Go.Sl.v_load rfl (Go.Sl.Var.at1 Ty.sc5 (.there .here) (ActM.g_kind))) ?_
      refine Go.Sl.ow_val rfl rfl (Go.Sl.v_rem rfl rfl (by decide)) ?_
      refine Go.Sl.ow_nil ?_
      refine Go.Sl.xw_then ?_
      refine Go.Sl.cw_block ?_
      refine Go.Sl.cw_seq ?_
      refine Go.Sl.cw_seq ?_
      refine Go.Sl.cw_region ?_
      refine Go.Sl.ow_val rfl rfl (Go.Sl.v_eql rfl rfl) ?_
      refine Go.Sl.ow_val rfl rfl (Go.Sl.v_assign rfl) ?_
      refine Go.Sl.ow_nil ?_
      refine Go.Sl.xw_then ?_
      refine Go.Sl.cw_dec rfl (fun hc72 => ?_) (fun hc72 => ?_)
      refine Go.Sl.cw_skip ?_
      refine Go.Sl.xw_then ?_
      refine Go.Sl.cw_dec rfl (fun hc72 => ?_) (fun hc72 => ?_)
      rotate_left; (exfalso; omega); rotate_right
      refine Go.Sl.cw_seq ?_
      refine Go.Sl.cw_region ?_
      refine Go.Sl.ow_val rfl rfl (Go.Sl.v_move rfl) ?_
      refine Go.Sl.ow_val rfl rfl (Go.Sl.v_move rfl) ?_
      (refine Go.Sl.ow_call rfl rfl rfl rfl (Go.Sl.Fn.c1q (.there (.there (.there (.there .here)))) (came_c hwf hsb.1 hsb.2)) ?_; rintro _ _ ⟨rfl, rfl⟩)
      refine Go.Sl.ow_nil ?_
      refine Go.Sl.xw_then ?_
      refine Go.Sl.cw_seq ?_
      refine Go.Sl.cw_region ?_
      refine Go.Sl.ow_val rfl rfl (Go.Sl.v_move rfl) ?_
      refine Go.Sl.ow_val rfl rfl (Go.Sl.v_gtr rfl rfl) ?_
      refine Go.Sl.ow_nil ?_
      refine Go.Sl.xw_then ?_
      refine Go.Sl.cw_dec rfl (fun hc79 => ?_) (fun hc79 => ?_)
      refine Go.Sl.cw_region ?_
      refine Go.Sl.ow_val rfl rfl (Go.Sl.v_move rfl) ?_
      refine Go.Sl.ow_val rfl rfl (Go.Sl.v_move rfl) ?_
      refine Go.Sl.ow_val rfl rfl (Go.Sl.v_convert Try.underlying3 Try.underlying26 rfl (Go.Sl.nw_u64 (by omega) (by omega))) ?_
      refine Go.Sl.ow_val rfl rfl (Go.Sl.v_add rfl rfl (Go.Sl.nw_u64 (by omega) (by omega))) ?_
      refine Go.Sl.ow_val rfl rfl (Go.Sl.v_min rfl rfl) ?_
      refine Go.Sl.ow_val rfl rfl (Go.Sl.v_assign rfl) ?_
      refine Go.Sl.ow_nil ?_
      refine Go.Sl.xw_block ?_
      rotate_left
      refine Go.Sl.cw_skip ?_
      refine Go.Sl.xw_block ?_
      rotate_left
      refine Go.Sl.cw_region ?_
      refine Go.Sl.ow_val rfl rfl (Go.Sl.v_eql rfl rfl) ?_
      refine Go.Sl.ow_val rfl rfl (Go.Sl.v_assign rfl) ?_
      refine Go.Sl.ow_nil ?_
      refine Go.Sl.xw_then ?_
      refine Go.Sl.cw_dec rfl (fun hc72 => ?_) (fun hc72 => ?_)
      refine Go.Sl.cw_seq ?_
      refine Go.Sl.cw_region ?_
      refine Go.Sl.ow_val rfl rfl (Go.Sl.v_move rfl) ?_
      refine Go.Sl.ow_val rfl rfl (Go.Sl.v_move rfl) ?_
      (refine Go.Sl.ow_call rfl rfl rfl rfl (Go.Sl.Fn.c1q (.there (.there (.there (.there .here)))) (came_c hwf hsb.1 hsb.2)) ?_; rintro _ _ ⟨rfl, rfl⟩)
      refine Go.Sl.ow_nil ?_
      refine Go.Sl.xw_then ?_
      refine Go.Sl.cw_seq ?_
      refine Go.Sl.cw_region ?_
      refine Go.Sl.ow_val rfl rfl (Go.Sl.v_move rfl) ?_
      refine Go.Sl.ow_val rfl rfl (Go.Sl.v_gtr rfl rfl) ?_
      refine Go.Sl.ow_nil ?_
      refine Go.Sl.xw_then ?_
      refine Go.Sl.cw_dec rfl (fun hc79 => ?_) (fun hc79 => ?_)
      refine Go.Sl.cw_region ?_
      refine Go.Sl.ow_val rfl rfl (Go.Sl.v_move rfl) ?_
      refine Go.Sl.ow_val rfl rfl (Go.Sl.v_move rfl) ?_
      refine Go.Sl.ow_val rfl rfl (Go.Sl.v_convert Try.underlying3 Try.underlying26 rfl (Go.Sl.nw_u64 (by omega) (by omega))) ?_
      refine Go.Sl.ow_val rfl rfl (Go.Sl.v_add rfl rfl (Go.Sl.nw_u64 (by omega) (by omega))) ?_
      refine Go.Sl.ow_val rfl rfl (Go.Sl.v_min rfl rfl) ?_
      refine Go.Sl.ow_val rfl rfl (Go.Sl.v_assign rfl) ?_
      refine Go.Sl.ow_nil ?_
      refine Go.Sl.xw_block ?_
      rotate_left
      refine Go.Sl.cw_skip ?_
      refine Go.Sl.xw_block ?_
      rotate_left
      refine Go.Sl.cw_seq ?_
      refine Go.Sl.cw_seq ?_
      refine Go.Sl.cw_region ?_
      refine Go.Sl.ow_val rfl rfl (Go.Sl.v_eql rfl rfl) ?_
      refine Go.Sl.ow_val rfl rfl (Go.Sl.v_assign rfl) ?_
      refine Go.Sl.ow_nil ?_
      refine Go.Sl.xw_then ?_
      refine Go.Sl.cw_dec rfl (fun hc85 => ?_) (fun hc85 => ?_)
      refine Go.Sl.cw_skip ?_
      refine Go.Sl.xw_then ?_
      refine Go.Sl.cw_dec rfl (fun hc85 => ?_) (fun hc85 => ?_)
      rotate_left; (exfalso; omega); rotate_right
      refine Go.Sl.cw_seq ?_
      refine Go.Sl.cw_region ?_
      refine Go.Sl.ow_val rfl rfl (Go.Sl.v_move rfl) ?_
      refine Go.Sl.ow_val rfl rfl (Go.Sl.v_move rfl) ?_
      (refine Go.Sl.ow_call rfl rfl rfl rfl (Go.Sl.Fn.c1q (.there (.there (.there (.there .here)))) (sent_c hwf hsb.1 hsb.2)) ?_; rintro _ _ ⟨rfl, rfl⟩)
      refine Go.Sl.ow_nil ?_
      refine Go.Sl.xw_then ?_
      refine Go.Sl.cw_seq ?_
      refine Go.Sl.cw_region ?_
      refine Go.Sl.ow_val rfl rfl (Go.Sl.v_move rfl) ?_
      refine Go.Sl.ow_val rfl rfl (Go.Sl.v_gtr rfl rfl) ?_
      refine Go.Sl.ow_nil ?_
      refine Go.Sl.xw_then ?_
      refine Go.Sl.cw_dec rfl (fun hc92 => ?_) (fun hc92 => ?_)
      refine Go.Sl.cw_region ?_
      refine Go.Sl.ow_val rfl rfl (Go.Sl.v_move rfl) ?_
      refine Go.Sl.ow_val rfl rfl (Go.Sl.v_move rfl) ?_
      refine Go.Sl.ow_val rfl rfl (Go.Sl.v_convert Try.underlying3 Try.underlying26 rfl (Go.Sl.nw_u64 (by omega) (by omega))) ?_
      refine Go.Sl.ow_val rfl rfl (Go.Sl.v_add rfl rfl (Go.Sl.nw_u64 (by omega) (by omega))) ?_
      refine Go.Sl.ow_val rfl rfl (Go.Sl.v_min rfl rfl) ?_
      refine Go.Sl.ow_val rfl rfl (Go.Sl.v_assign rfl) ?_
      refine Go.Sl.ow_nil ?_
      refine Go.Sl.xw_block ?_
      rotate_left
      refine Go.Sl.cw_skip ?_
      refine Go.Sl.xw_block ?_
      rotate_left
      refine Go.Sl.cw_region ?_
      refine Go.Sl.ow_val rfl rfl (Go.Sl.v_eql rfl rfl) ?_
      refine Go.Sl.ow_val rfl rfl (Go.Sl.v_assign rfl) ?_
      refine Go.Sl.ow_nil ?_
      refine Go.Sl.xw_then ?_
      refine Go.Sl.cw_dec rfl (fun hc85 => ?_) (fun hc85 => ?_)
      refine Go.Sl.cw_seq ?_
      refine Go.Sl.cw_region ?_
      refine Go.Sl.ow_val rfl rfl (Go.Sl.v_move rfl) ?_
      refine Go.Sl.ow_val rfl rfl (Go.Sl.v_move rfl) ?_
      (refine Go.Sl.ow_call rfl rfl rfl rfl (Go.Sl.Fn.c1q (.there (.there (.there (.there .here)))) (sent_c hwf hsb.1 hsb.2)) ?_; rintro _ _ ⟨rfl, rfl⟩)
      refine Go.Sl.ow_nil ?_
      refine Go.Sl.xw_then ?_
      refine Go.Sl.cw_seq ?_
      refine Go.Sl.cw_region ?_
      refine Go.Sl.ow_val rfl rfl (Go.Sl.v_move rfl) ?_
      refine Go.Sl.ow_val rfl rfl (Go.Sl.v_gtr rfl rfl) ?_
      refine Go.Sl.ow_nil ?_
      refine Go.Sl.xw_then ?_
      refine Go.Sl.cw_dec rfl (fun hc92 => ?_) (fun hc92 => ?_)
      refine Go.Sl.cw_region ?_
      refine Go.Sl.ow_val rfl rfl (Go.Sl.v_move rfl) ?_
      refine Go.Sl.ow_val rfl rfl (Go.Sl.v_move rfl) ?_
      refine Go.Sl.ow_val rfl rfl (Go.Sl.v_convert Try.underlying3 Try.underlying26 rfl (Go.Sl.nw_u64 (by omega) (by omega))) ?_
      refine Go.Sl.ow_val rfl rfl (Go.Sl.v_add rfl rfl (Go.Sl.nw_u64 (by omega) (by omega))) ?_
      refine Go.Sl.ow_val rfl rfl (Go.Sl.v_min rfl rfl) ?_
      refine Go.Sl.ow_val rfl rfl (Go.Sl.v_assign rfl) ?_
      refine Go.Sl.ow_nil ?_
      refine Go.Sl.xw_block ?_
      rotate_left
      refine Go.Sl.cw_skip ?_
      refine Go.Sl.xw_block ?_
      rotate_left
      refine Go.Sl.cw_seq ?_
      refine Go.Sl.cw_region ?_
      refine Go.Sl.ow_val rfl rfl (Go.Sl.v_eql rfl rfl) ?_
      refine Go.Sl.ow_val rfl rfl (Go.Sl.v_assign rfl) ?_
      refine Go.Sl.ow_nil ?_
      refine Go.Sl.xw_then ?_
      refine Go.Sl.cw_dec rfl (fun hc98 => ?_) (fun hc98 => ?_)
      refine Go.Sl.cw_seq ?_
      refine Go.Sl.cw_region ?_
      refine Go.Sl.ow_val rfl rfl (Go.Sl.v_move rfl) ?_
      refine Go.Sl.ow_val rfl rfl (Go.Sl.v_load rfl (Go.Sl.Var.atN Ty.ag33 .here Go.Sl.GetN.all (by first | rfl | assumption))) ?_
      refine Go.Sl.ow_val rfl rfl (Go.Sl.v_move rfl) ?_
      refine Go.Sl.ow_val rfl rfl (Go.Sl.v_add rfl rfl (Go.Sl.nw_u64 (by omega) (by omega))) ?_
      (refine Go.Sl.ow_call rfl rfl rfl rfl (Go.Sl.Fn.c1q (.there (.there (.there (.there .here)))) (ask_c hwf hwl)) ?_; rintro _ _ ⟨rfl, rfl⟩)
      refine Go.Sl.ow_nil ?_
      refine Go.Sl.xw_then ?_
      refine Go.Sl.cw_seq ?_
      refine Go.Sl.cw_region ?_
      refine Go.Sl.ow_val rfl rfl (Go.Sl.v_move rfl) ?_
      refine Go.Sl.ow_val rfl rfl (Go.Sl.v_neq rfl rfl) ?_
      refine Go.Sl.ow_nil ?_
      refine Go.Sl.xw_then ?_
      refine Go.Sl.cw_dec rfl (fun hc106 => ?_) (fun hc106 => ?_)
      refine Go.Sl.cw_mix [4, 5, 6] [0, 1, 2, 3] Ty.mixed rfl rfl (by decide) rfl (by decide +kernel) ?_
      refine Go.Sl.hw_read rfl rfl rfl (Go.Sl.v_load rfl (Go.Sl.Var.atN Ty.ag33 .here Go.Sl.GetN.all (by first | rfl | assumption))) ?_
      refine Go.Sl.hw_pure rfl rfl (Go.Sl.v_move rfl) rfl ?_
      refine Go.Sl.hw_pure rfl rfl (Go.Sl.v_add rfl rfl (Go.Sl.nw_u64 (by omega) (by omega))) rfl ?_
      refine Go.Sl.hw_pure rfl rfl (Go.Sl.v_assign rfl) rfl ?_
      refine Go.Sl.hw_nil ?_
      refine Go.Sl.ow_storeN rfl rfl rfl Ty.ag33 (by first | rfl | assumption) (by first | assumption | simp) (.there (.there (.there .here))) (set8 hml hwl) ?_
      refine Go.Sl.ow_val rfl rfl (Go.Sl.v_assign rfl) ?_
      refine Go.Sl.ow_val rfl rfl (Go.Sl.v_assign rfl) ?_
      refine Go.Sl.ow_nil ?_
      refine Go.Sl.xw_np ?_
      refine Go.Sl.xw_block ?_
      rotate_left
      refine Go.Sl.cw_skip ?_
      refine Go.Sl.xw_block ?_
      rotate_left
      refine Go.Sl.cw_seq ?_
      refine Go.Sl.cw_region ?_
      refine Go.Sl.ow_val rfl rfl (Go.Sl.v_eql rfl rfl) ?_
      refine Go.Sl.ow_val rfl rfl (Go.Sl.v_assign rfl) ?_
      refine Go.Sl.ow_nil ?_
      refine Go.Sl.xw_then ?_
      refine Go.Sl.cw_dec rfl (fun hc110 => ?_) (fun hc110 => ?_)
      refine Go.Sl.cw_seq ?_
      refine Go.Sl.cw_region ?_
      refine Go.Sl.ow_val rfl rfl (Go.Sl.v_move rfl) ?_
      (refine Go.Sl.ow_call rfl rfl rfl rfl (Go.Sl.Fn.c1q (.there (.there (.there (.there .here)))) (told_c hwf)) ?_; rintro _ _ ⟨rfl, rfl⟩)
      refine Go.Sl.ow_nil ?_
      refine Go.Sl.xw_then ?_
      refine Go.Sl.cw_region ?_
      refine Go.Sl.ow_val rfl rfl (Go.Sl.v_assign rfl) ?_
      refine Go.Sl.ow_nil ?_
      refine Go.Sl.xw_block ?_
      rotate_left
      refine Go.Sl.cw_seq ?_
      refine Go.Sl.cw_region ?_
      refine Go.Sl.ow_val rfl rfl (Go.Sl.v_eql rfl rfl) ?_
      refine Go.Sl.ow_val rfl rfl (Go.Sl.v_assign rfl) ?_
      refine Go.Sl.ow_nil ?_
      refine Go.Sl.xw_then ?_
      refine Go.Sl.cw_dec rfl (fun hc114 => ?_) (fun hc114 => ?_)
      refine Go.Sl.cw_seq ?_
      refine Go.Sl.cw_region ?_
      refine Go.Sl.ow_val rfl rfl (Go.Sl.v_move rfl) ?_
      refine Go.Sl.ow_val rfl rfl (Go.Sl.v_load rfl (Go.Sl.Var.atN Ty.ag33 .here Go.Sl.GetN.all (by first | rfl | assumption))) ?_
      (refine Go.Sl.ow_call rfl rfl rfl rfl (Go.Sl.Fn.c1q (.there (.there (.there (.there .here)))) (lost_c hwf hwl)) ?_; rintro _ _ ⟨rfl, rfl⟩)
      refine Go.Sl.ow_nil ?_
      refine Go.Sl.xw_then ?_
      refine Go.Sl.cw_seq ?_
      refine Go.Sl.cw_region ?_
      refine Go.Sl.ow_val rfl rfl (Go.Sl.v_move rfl) ?_
      refine Go.Sl.ow_val rfl rfl (Go.Sl.v_eql rfl rfl) ?_
      refine Go.Sl.ow_val rfl rfl (Go.Sl.v_move rfl) ?_
      refine Go.Sl.ow_dec 121 rfl (fun hc121 => ?_) (fun hc121 => ?_)
      refine Go.Sl.ow_val rfl rfl (Go.Sl.v_load rfl (Go.Sl.Var.atN Ty.ag33 .here Go.Sl.GetN.all (by first | rfl | assumption))) ?_
      refine Go.Sl.ow_val rfl rfl (Go.Sl.v_load rfl (Go.Sl.Var.atN Ty.ag33 (.there (.there (.there .here))) Go.Sl.GetN.all (by first | rfl | assumption))) ?_
      refine Go.Sl.ow_val rfl rfl (Go.Sl.v_eqlA rfl rfl Ty.gt33 (eq8 hwl hml)) ?_
      refine Go.Sl.ow_val rfl rfl (Go.Sl.v_pick_true rfl rfl) ?_
      refine Go.Sl.ow_nil ?_
      refine Go.Sl.xw_then ?_
      refine Go.Sl.cw_dec rfl (fun hc125 => ?_) (fun hc125 => ?_)
      refine Go.Sl.cw_region ?_
      refine Go.Sl.ow_val rfl rfl (Go.Sl.v_assign rfl) ?_
      refine Go.Sl.ow_nil ?_
      refine Go.Sl.xw_block ?_
      rotate_left
      refine Go.Sl.cw_skip ?_
      refine Go.Sl.xw_block ?_
      rotate_left
      refine Go.Sl.ow_skip rfl rfl ?_
      refine Go.Sl.ow_skip rfl rfl ?_
      refine Go.Sl.ow_skip rfl rfl ?_
      refine Go.Sl.ow_val rfl rfl (Go.Sl.v_pick_false rfl rfl) ?_
      refine Go.Sl.ow_nil ?_
      refine Go.Sl.xw_then ?_
      refine Go.Sl.cw_false rfl ?_
      refine Go.Sl.cw_skip ?_
      refine Go.Sl.xw_block ?_
      rotate_left
      refine Go.Sl.cw_seq ?_
      refine Go.Sl.cw_region ?_
      refine Go.Sl.ow_val rfl rfl (Go.Sl.v_eql rfl rfl) ?_
      refine Go.Sl.ow_val rfl rfl (Go.Sl.v_assign rfl) ?_
      refine Go.Sl.ow_nil ?_
      refine Go.Sl.xw_then ?_
      refine Go.Sl.cw_dec rfl (fun hc126 => ?_) (fun hc126 => ?_)
      refine Go.Sl.cw_seq ?_
      refine Go.Sl.cw_region ?_
      refine Go.Sl.ow_val rfl rfl (Go.Sl.v_move rfl) ?_
      refine Go.Sl.ow_val rfl rfl (Go.Sl.v_eql rfl rfl) ?_
      refine Go.Sl.ow_val rfl rfl (Go.Sl.v_move rfl) ?_
      refine Go.Sl.ow_dec 130 rfl (fun hc130 => ?_) (fun hc130 => ?_)
      refine Go.Sl.ow_val rfl rfl (Go.Sl.v_load rfl (Go.Sl.Var.atN Ty.ag33 .here Go.Sl.GetN.all (by first | rfl | assumption))) ?_
      refine Go.Sl.ow_val rfl rfl (Go.Sl.v_load rfl (Go.Sl.Var.atN Ty.ag33 (.there (.there (.there .here))) Go.Sl.GetN.all (by first | rfl | assumption))) ?_
      refine Go.Sl.ow_val rfl rfl (Go.Sl.v_eqlA rfl rfl Ty.gt33 (eq8 hwl hml)) ?_
      refine Go.Sl.ow_val rfl rfl (Go.Sl.v_pick_true rfl rfl) ?_
      refine Go.Sl.ow_val rfl rfl (Go.Sl.v_assign rfl) ?_
      refine Go.Sl.ow_nil ?_
      refine Go.Sl.xw_then ?_
      refine Go.Sl.cw_seq ?_
      refine Go.Sl.cw_seq ?_
      refine Go.Sl.cw_region ?_
      refine Go.Sl.ow_val rfl rfl (Go.Sl.v_move rfl) ?_
      refine Go.Sl.ow_val rfl rfl (Go.Sl.v_load rfl (Go.Sl.Var.atN Ty.ag33 .here Go.Sl.GetN.all (by first | rfl | assumption))) ?_
      (refine Go.Sl.ow_call rfl rfl rfl rfl (Go.Sl.Fn.c1q (.there (.there (.there (.there .here)))) (response_c hwf hwl)) ?_; rintro _ _ ⟨rfl, rfl⟩)
      refine Go.Sl.ow_val rfl rfl (Go.Sl.v_move rfl) ?_
      refine Go.Sl.ow_val rfl rfl (Go.Sl.v_neqB Try.underlying4 rfl rfl) ?_
      refine Go.Sl.ow_nil ?_
      refine Go.Sl.xw_then ?_
      refine Go.Sl.cw_dec rfl (fun hc139 => ?_) (fun hc139 => ?_)
      refine Go.Sl.cw_seq ?_
      refine Go.Sl.cw_region ?_
      refine Go.Sl.ow_val rfl rfl (Go.Sl.v_assign rfl) ?_
      refine Go.Sl.ow_nil ?_
      refine Go.Sl.xw_then ?_
      refine Go.Sl.cw_ret ?_
      refine Go.Sl.xw_then_ret ?_
      refine Go.Sl.xw_block_ret ?_
      refine Go.Sl.xw_joint_ret ?_
      refine Go.Sl.xw_block_ret ?_
      refine Go.Sl.xw_then_ret ?_
      refine Go.Sl.xw_round_ret ?_
      refine Go.Sl.xw_block_ret ?_
      refine Go.Sl.xw_then_ret ?_
      refine Go.Sl.ret1 rfl (Go.Sl.res_tmp rfl) ?_
      rotate_left
      refine Go.Sl.cw_skip ?_
      refine Go.Sl.xw_then ?_
      refine Go.Sl.cw_seq ?_
      refine Go.Sl.cw_region ?_
      refine Go.Sl.ow_val rfl rfl (Go.Sl.v_move rfl) ?_
      refine Go.Sl.ow_nil ?_
      refine Go.Sl.xw_then ?_
      refine Go.Sl.cw_dec rfl (fun hc140 => ?_) (fun hc140 => ?_)
      refine Go.Sl.cw_region ?_
      refine Go.Sl.ow_val rfl rfl (Go.Sl.v_assign rfl) ?_
      refine Go.Sl.ow_val rfl rfl (Go.Sl.v_assign rfl) ?_
      refine Go.Sl.ow_nil ?_
      refine Go.Sl.xw_block ?_
      rotate_left
      refine Go.Sl.cw_skip ?_
      refine Go.Sl.xw_block ?_
      rotate_left
      refine Go.Sl.ow_skip rfl rfl ?_
      refine Go.Sl.ow_skip rfl rfl ?_
      refine Go.Sl.ow_skip rfl rfl ?_
      refine Go.Sl.ow_val rfl rfl (Go.Sl.v_pick_false rfl rfl) ?_
      refine Go.Sl.ow_val rfl rfl (Go.Sl.v_assign rfl) ?_
      refine Go.Sl.ow_nil ?_
      refine Go.Sl.xw_then ?_
      refine Go.Sl.cw_seq ?_
      refine Go.Sl.cw_seq ?_
      refine Go.Sl.cw_region ?_
      refine Go.Sl.ow_val rfl rfl (Go.Sl.v_move rfl) ?_
      refine Go.Sl.ow_val rfl rfl (Go.Sl.v_load rfl (Go.Sl.Var.atN Ty.ag33 .here Go.Sl.GetN.all (by first | rfl | assumption))) ?_
      (refine Go.Sl.ow_call rfl rfl rfl rfl (Go.Sl.Fn.c1q (.there (.there (.there (.there .here)))) (response_c hwf hwl)) ?_; rintro _ _ ⟨rfl, rfl⟩)
      refine Go.Sl.ow_val rfl rfl (Go.Sl.v_move rfl) ?_
      refine Go.Sl.ow_val rfl rfl (Go.Sl.v_neqB Try.underlying4 rfl rfl) ?_
      refine Go.Sl.ow_nil ?_
      refine Go.Sl.xw_then ?_
      refine Go.Sl.cw_dec rfl (fun hc139 => ?_) (fun hc139 => ?_)
      refine Go.Sl.cw_seq ?_
      refine Go.Sl.cw_region ?_
      refine Go.Sl.ow_val rfl rfl (Go.Sl.v_assign rfl) ?_
      refine Go.Sl.ow_nil ?_
      refine Go.Sl.xw_then ?_
      refine Go.Sl.cw_ret ?_
      refine Go.Sl.xw_then_ret ?_
      refine Go.Sl.xw_block_ret ?_
      refine Go.Sl.xw_joint_ret ?_
      refine Go.Sl.xw_block_ret ?_
      refine Go.Sl.xw_then_ret ?_
      refine Go.Sl.xw_round_ret ?_
      refine Go.Sl.xw_block_ret ?_
      refine Go.Sl.xw_then_ret ?_
      refine Go.Sl.ret1 rfl (Go.Sl.res_tmp rfl) ?_
      rotate_left
      refine Go.Sl.cw_skip ?_
      refine Go.Sl.xw_then ?_
      refine Go.Sl.cw_seq ?_
      refine Go.Sl.cw_region ?_
      refine Go.Sl.ow_val rfl rfl (Go.Sl.v_move rfl) ?_
      refine Go.Sl.ow_nil ?_
      refine Go.Sl.xw_then ?_
      refine Go.Sl.cw_false rfl ?_
      refine Go.Sl.cw_skip ?_
      refine Go.Sl.xw_block ?_
      rotate_left
      refine Go.Sl.cw_seq ?_
      refine Go.Sl.cw_region ?_
      refine Go.Sl.ow_val rfl rfl (Go.Sl.v_eql rfl rfl) ?_
      refine Go.Sl.ow_val rfl rfl (Go.Sl.v_assign rfl) ?_
      refine Go.Sl.ow_nil ?_
      refine Go.Sl.xw_then ?_
      refine Go.Sl.cw_dec rfl (fun hc141 => ?_) (fun hc141 => ?_)
      refine Go.Sl.cw_seq ?_
      refine Go.Sl.cw_region ?_
      refine Go.Sl.ow_val rfl rfl (Go.Sl.v_move rfl) ?_
      refine Go.Sl.ow_val rfl rfl (Go.Sl.v_load rfl (Go.Sl.Var.atN Ty.ag33 .here Go.Sl.GetN.all (by first | rfl | assumption))) ?_
      (refine Go.Sl.ow_call rfl rfl rfl rfl (Go.Sl.Fn.c1q (.there (.there (.there (.there .here)))) (challenged_c hwf hwl)) ?_; rintro _ _ ⟨rfl, rfl⟩)
      refine Go.Sl.ow_nil ?_
      refine Go.Sl.xw_then ?_
      refine Go.Sl.cw_seq ?_
      refine Go.Sl.cw_region ?_
      refine Go.Sl.ow_val rfl rfl (Go.Sl.v_move rfl) ?_
      refine Go.Sl.ow_val rfl rfl (Go.Sl.v_len rfl Try.underlying32 rfl) ?_
      refine Go.Sl.ow_val rfl rfl (Go.Sl.v_lss rfl rfl) ?_
      refine Go.Sl.ow_nil ?_
      refine Go.Sl.xw_then ?_
      refine Go.Sl.cw_dec rfl (fun hc148 => ?_) (fun hc148 => ?_)
      refine Go.Sl.cw_region ?_
      refine Go.Sl.ow_val rfl rfl (Go.Sl.v_move rfl) ?_
      refine Go.Sl.ow_val rfl rfl (Go.Sl.v_load rfl (Go.Sl.Var.atN Ty.ag33 .here Go.Sl.GetN.all (by first | rfl | assumption))) ?_
      rotate_left
      refine Go.Sl.cw_skip ?_
      refine Go.Sl.xw_block ?_
      rotate_left
      refine Go.Sl.cw_seq ?_
      refine Go.Sl.cw_region ?_
      refine Go.Sl.ow_val rfl rfl (Go.Sl.v_eql rfl rfl) ?_
      refine Go.Sl.ow_val rfl rfl (Go.Sl.v_assign rfl) ?_
      refine Go.Sl.ow_nil ?_
      refine Go.Sl.xw_then ?_
      refine Go.Sl.cw_dec rfl (fun hc153 => ?_) (fun hc153 => ?_)
      refine Go.Sl.cw_seq ?_
      refine Go.Sl.cw_region ?_
      refine Go.Sl.ow_val rfl rfl (Go.Sl.v_move rfl) ?_
      (refine Go.Sl.ow_call rfl rfl rfl rfl (Go.Sl.Fn.c1q (.there (.there (.there (.there .here)))) (answered_c hwf)) ?_; rintro _ _ ⟨rfl, rfl⟩)
      refine Go.Sl.ow_nil ?_
      refine Go.Sl.xw_then ?_
      refine Go.Sl.cw_seq ?_
      refine Go.Sl.cw_region ?_
      refine Go.Sl.ow_val rfl rfl (Go.Sl.v_move rfl) ?_
      refine Go.Sl.ow_val rfl rfl (Go.Sl.v_len rfl Try.underlying32 rfl) ?_
      refine Go.Sl.ow_val rfl rfl (Go.Sl.v_gtr rfl rfl) ?_
      refine Go.Sl.ow_nil ?_
      refine Go.Sl.xw_then ?_
      refine Go.Sl.cw_dec rfl (fun hc159 => ?_) (fun hc159 => ?_)
      refine Go.Sl.cw_region ?_
      refine Go.Sl.ow_val rfl rfl (Go.Sl.v_move rfl) ?_
      refine Go.Sl.ow_val rfl rfl (Go.Sl.v_slice_ln (l := 1) Try.underlying32 Ty.el32 rfl rfl rfl (by omega)) ?_
      refine Go.Sl.ow_val rfl rfl (Go.Sl.v_assign rfl) ?_
      refine Go.Sl.ow_nil ?_
      refine Go.Sl.xw_block ?_
      rotate_left
      refine Go.Sl.cw_skip ?_
      refine Go.Sl.xw_block ?_
      rotate_left
      refine Go.Sl.cw_seq ?_
      refine Go.Sl.cw_region ?_
      refine Go.Sl.ow_val rfl rfl (Go.Sl.v_eql rfl rfl) ?_
      refine Go.Sl.ow_val rfl rfl (Go.Sl.v_assign rfl) ?_
      refine Go.Sl.ow_nil ?_
      refine Go.Sl.xw_then ?_
      refine Go.Sl.cw_dec rfl (fun hc162 => ?_) (fun hc162 => ?_)
      refine Go.Sl.cw_seq ?_
      refine Go.Sl.cw_region ?_
      refine Go.Sl.ow_val rfl rfl (Go.Sl.v_move rfl) ?_
      refine Go.Sl.ow_val rfl rfl (Go.Sl.v_eql rfl rfl) ?_
      refine Go.Sl.ow_val rfl rfl (Go.Sl.v_move rfl) ?_
      refine Go.Sl.ow_dec 166 rfl (fun hc166 => ?_) (fun hc166 => ?_)
      refine Go.Sl.ow_val rfl rfl (Go.Sl.v_move rfl) ?_
      refine Go.Sl.ow_val rfl rfl (Go.Sl.v_move rfl) ?_
      refine Go.Sl.ow_val rfl rfl (Go.Sl.v_geq rfl rfl) ?_
      refine Go.Sl.ow_val rfl rfl (Go.Sl.v_pick_true rfl rfl) ?_
      refine Go.Sl.ow_val rfl rfl (Go.Sl.v_assign rfl) ?_
      refine Go.Sl.ow_nil ?_
      refine Go.Sl.xw_then ?_
      refine Go.Sl.cw_seq ?_
      refine Go.Sl.cw_seq ?_
      refine Go.Sl.cw_region ?_
      refine Go.Sl.ow_val rfl rfl (Go.Sl.v_move rfl) ?_
      refine Go.Sl.ow_val rfl rfl (Go.Sl.v_move rfl) ?_
      (refine Go.Sl.ow_call rfl rfl rfl rfl (Go.Sl.Fn.c1q (.there (.there (.there (.there .here)))) (tick_c hwf)) ?_; rintro _ _ ⟨rfl, rfl⟩)
      refine Go.Sl.ow_val rfl rfl (Go.Sl.v_move rfl) ?_
      refine Go.Sl.ow_val rfl rfl (Go.Sl.v_neqB Try.underlying4 rfl rfl) ?_
      refine Go.Sl.ow_nil ?_
      refine Go.Sl.xw_then ?_
      refine Go.Sl.cw_dec rfl (fun hc175 => ?_) (fun hc175 => ?_)
      refine Go.Sl.cw_seq ?_
      refine Go.Sl.cw_region ?_
      refine Go.Sl.ow_val rfl rfl (Go.Sl.v_assign rfl) ?_
      refine Go.Sl.ow_nil ?_
      refine Go.Sl.xw_then ?_
      refine Go.Sl.cw_ret ?_
      refine Go.Sl.xw_then_ret ?_
      refine Go.Sl.xw_block_ret ?_
      refine Go.Sl.xw_joint_ret ?_
      refine Go.Sl.xw_block_ret ?_
      refine Go.Sl.xw_then_ret ?_
      refine Go.Sl.xw_round_ret ?_
      refine Go.Sl.xw_block_ret ?_
      refine Go.Sl.xw_then_ret ?_
      refine Go.Sl.ret1 rfl (Go.Sl.res_tmp rfl) ?_
      rotate_left
      refine Go.Sl.cw_skip ?_
      refine Go.Sl.xw_then ?_
      refine Go.Sl.cw_seq ?_
      refine Go.Sl.cw_region ?_
      refine Go.Sl.ow_val rfl rfl (Go.Sl.v_move rfl) ?_
      refine Go.Sl.ow_nil ?_
      refine Go.Sl.xw_then ?_
      refine Go.Sl.cw_dec rfl (fun hc176 => ?_) (fun hc176 => ?_)
      refine Go.Sl.cw_region ?_
      refine Go.Sl.ow_val rfl rfl (Go.Sl.v_assign rfl) ?_
      refine Go.Sl.ow_val rfl rfl (Go.Sl.v_assign rfl) ?_
      refine Go.Sl.ow_nil ?_
      refine Go.Sl.xw_block ?_
      rotate_left
      refine Go.Sl.cw_skip ?_
      refine Go.Sl.xw_block ?_
      rotate_left
      refine Go.Sl.ow_skip rfl rfl ?_
      refine Go.Sl.ow_skip rfl rfl ?_
      refine Go.Sl.ow_skip rfl rfl ?_
      refine Go.Sl.ow_val rfl rfl (Go.Sl.v_pick_false rfl rfl) ?_
      refine Go.Sl.ow_val rfl rfl (Go.Sl.v_assign rfl) ?_
      refine Go.Sl.ow_nil ?_
      refine Go.Sl.xw_then ?_
      refine Go.Sl.cw_seq ?_
      refine Go.Sl.cw_seq ?_
      refine Go.Sl.cw_region ?_
      refine Go.Sl.ow_val rfl rfl (Go.Sl.v_move rfl) ?_
      refine Go.Sl.ow_val rfl rfl (Go.Sl.v_move rfl) ?_
      (refine Go.Sl.ow_call rfl rfl rfl rfl (Go.Sl.Fn.c1q (.there (.there (.there (.there .here)))) (tick_c hwf)) ?_; rintro _ _ ⟨rfl, rfl⟩)
      refine Go.Sl.ow_val rfl rfl (Go.Sl.v_move rfl) ?_
      refine Go.Sl.ow_val rfl rfl (Go.Sl.v_neqB Try.underlying4 rfl rfl) ?_
      refine Go.Sl.ow_nil ?_
      refine Go.Sl.xw_then ?_
      refine Go.Sl.cw_dec rfl (fun hc175 => ?_) (fun hc175 => ?_)
      refine Go.Sl.cw_seq ?_
      refine Go.Sl.cw_region ?_
      refine Go.Sl.ow_val rfl rfl (Go.Sl.v_assign rfl) ?_
      refine Go.Sl.ow_nil ?_
      refine Go.Sl.xw_then ?_
      refine Go.Sl.cw_ret ?_
      refine Go.Sl.xw_then_ret ?_
      refine Go.Sl.xw_block_ret ?_
      refine Go.Sl.xw_joint_ret ?_
      refine Go.Sl.xw_block_ret ?_
      refine Go.Sl.xw_then_ret ?_
      refine Go.Sl.xw_round_ret ?_
      refine Go.Sl.xw_block_ret ?_
      refine Go.Sl.xw_then_ret ?_
      refine Go.Sl.ret1 rfl (Go.Sl.res_tmp rfl) ?_
      rotate_left
      refine Go.Sl.cw_skip ?_
      refine Go.Sl.xw_then ?_
      refine Go.Sl.cw_seq ?_
      refine Go.Sl.cw_region ?_
      refine Go.Sl.ow_val rfl rfl (Go.Sl.v_move rfl) ?_
      refine Go.Sl.ow_nil ?_
      refine Go.Sl.xw_then ?_
      refine Go.Sl.cw_false rfl ?_
      refine Go.Sl.cw_skip ?_
      refine Go.Sl.xw_block ?_
      rotate_left
      refine Go.Sl.cw_seq ?_
      refine Go.Sl.cw_region ?_
      refine Go.Sl.ow_val rfl rfl (Go.Sl.v_fieldAddr0 Ty.fd46_1 rfl) ?_
      refine Go.Sl.ow_val rfl rfl (Go.Sl.v_load rfl (Go.Sl.Var.at1 Ty.sc5 (.there .here) (ActM.g_word))) ?_
      refine Go.Sl.ow_val rfl rfl (Go.Sl.v_rem rfl rfl (by decide)) ?_
      refine Go.Sl.ow_val rfl rfl (Go.Sl.v_eql rfl rfl) ?_
      refine Go.Sl.ow_nil ?_
      refine Go.Sl.xw_then ?_
      refine Go.Sl.cw_dec rfl (fun hc69 => ?_) (fun hc69 => ?_)
      refine Go.Sl.cw_seq ?_
      refine Go.Sl.cw_region ?_
      refine Go.Sl.ow_val rfl rfl (Go.Sl.v_move rfl) ?_
      (refine Go.Sl.ow_call rfl rfl rfl rfl (Go.Sl.Fn.c1q (.there (.there (.there (.there .here)))) (know_c hwf)) ?_; rintro _ _ ⟨rfl, rfl⟩)
      refine Go.Sl.ow_nil ?_
      refine Go.Sl.xw_then ?_
      refine Go.Sl.cw_region ?_
      refine Go.Sl.ow_val rfl rfl (Go.Sl.v_assign rfl) ?_
      refine Go.Sl.ow_val rfl rfl (Go.Sl.v_assign rfl) ?_
      refine Go.Sl.ow_nil ?_
      refine Go.Sl.xw_block ?_
      rotate_left
      refine Go.Sl.cw_skip ?_
      refine Go.Sl.xw_block ?_
      rotate_left
      · exact xw_joint (⟨i, m.came (f i).s, now + (f i).wait, ao2, cap, ch⟩ : Ix) ⟨rfl, rfl, hI.same (hwf.came hsb.2) rfl rfl rfl hnw⟩ (.inr (by repeat (first | exact List.Sublist.refl _ | refine List.Sublist.cons_cons _ ?_ | refine List.Sublist.cons _ ?_))) ⟨rfl, rfl, rfl, lk rfl (came_pos hwf hc79), rfl, rfl, rfl, rfl, rfl, rfl, rfl, rfl, rfl, trivial⟩
      · exact xw_joint (⟨i, m.came (f i).s, now + (f i).wait, ao2, cap, ch⟩ : Ix) ⟨rfl, rfl, hI.same (hwf.came hsb.2) rfl rfl rfl hnw⟩ (.inr (by repeat (first | exact List.Sublist.refl _ | refine List.Sublist.cons_cons _ ?_ | refine List.Sublist.cons _ ?_))) ⟨rfl, rfl, rfl, lk rfl (came_neg hc79), rfl, rfl, rfl, rfl, rfl, rfl, rfl, rfl, rfl, trivial⟩
      · exact xw_joint (⟨i, m.came (f i).s, now + (f i).wait, ao2, cap, ch⟩ : Ix) ⟨rfl, rfl, hI.same (hwf.came hsb.2) rfl rfl rfl hnw⟩ (.inr (by repeat (first | exact List.Sublist.refl _ | refine List.Sublist.cons_cons _ ?_ | refine List.Sublist.cons _ ?_))) ⟨rfl, rfl, rfl, lk rfl (came_pos hwf hc79), rfl, rfl, rfl, rfl, rfl, rfl, rfl, rfl, rfl, trivial⟩
      · exact xw_joint (⟨i, m.came (f i).s, now + (f i).wait, ao2, cap, ch⟩ : Ix) ⟨rfl, rfl, hI.same (hwf.came hsb.2) rfl rfl rfl hnw⟩ (.inr (by repeat (first | exact List.Sublist.refl _ | refine List.Sublist.cons_cons _ ?_ | refine List.Sublist.cons _ ?_))) ⟨rfl, rfl, rfl, lk rfl (came_neg hc79), rfl, rfl, rfl, rfl, rfl, rfl, rfl, rfl, rfl, trivial⟩
      · exact xw_joint (⟨i, m.sent (f i).s, now + (f i).wait, ao2, cap, ch⟩ : Ix) ⟨rfl, rfl, hI.same (hwf.sent hsb.2) rfl rfl rfl hnw⟩ (.inr (by repeat (first | exact List.Sublist.refl _ | refine List.Sublist.cons_cons _ ?_ | refine List.Sublist.cons _ ?_))) ⟨rfl, rfl, rfl, rfl, lk rfl (sent_pos hwf hc92), rfl, rfl, rfl, rfl, rfl, rfl, rfl, rfl, trivial⟩
      · exact xw_joint (⟨i, m.sent (f i).s, now + (f i).wait, ao2, cap, ch⟩ : Ix) ⟨rfl, rfl, hI.same (hwf.sent hsb.2) rfl rfl rfl hnw⟩ (.inr (by repeat (first | exact List.Sublist.refl _ | refine List.Sublist.cons_cons _ ?_ | refine List.Sublist.cons _ ?_))) ⟨rfl, rfl, rfl, rfl, lk rfl (sent_neg hc92), rfl, rfl, rfl, rfl, rfl, rfl, rfl, rfl, trivial⟩
      · exact xw_joint (⟨i, m.sent (f i).s, now + (f i).wait, ao2, cap, ch⟩ : Ix) ⟨rfl, rfl, hI.same (hwf.sent hsb.2) rfl rfl rfl hnw⟩ (.inr (by repeat (first | exact List.Sublist.refl _ | refine List.Sublist.cons_cons _ ?_ | refine List.Sublist.cons _ ?_))) ⟨rfl, rfl, rfl, rfl, lk rfl (sent_pos hwf hc92), rfl, rfl, rfl, rfl, rfl, rfl, rfl, rfl, trivial⟩
      · exact xw_joint (⟨i, m.sent (f i).s, now + (f i).wait, ao2, cap, ch⟩ : Ix) ⟨rfl, rfl, hI.same (hwf.sent hsb.2) rfl rfl rfl hnw⟩ (.inr (by repeat (first | exact List.Sublist.refl _ | refine List.Sublist.cons_cons _ ?_ | refine List.Sublist.cons _ ?_))) ⟨rfl, rfl, rfl, rfl, lk rfl (sent_neg hc92), rfl, rfl, rfl, rfl, rfl, rfl, rfl, rfl, trivial⟩
      · have he : m.ask (f i).w (now + (f i).wait + 50) = { m with state := 1, word := (f i).w, till := now + (f i).wait + 50, asks := true } := by simp [PathM.ask, hc106]
        have hw' := hwf.ask (t := now + (f i).wait + 50) hwl (by omega)
        rw [he] at hw' ⊢
        exact xw_joint (⟨i, { m with state := 1, word := (f i).w, till := now + (f i).wait + 50, asks := true }, now + (f i).wait, ao2, cap, ch⟩ : Ix) ⟨rfl, rfl, hI.same hw' rfl rfl rfl hnw⟩ (.inr (by repeat (first | exact List.Sublist.refl _ | refine List.Sublist.cons_cons _ ?_ | refine List.Sublist.cons _ ?_))) ⟨rfl, rfl, rfl, rfl, rfl, rfl, rfl, rfl, rfl, rfl, rfl, rfl, rfl, trivial⟩
      · rw [show m.ask (f i).w (now + (f i).wait + 50) = m from by simp at hc106; simp [PathM.ask, hc106]]
        exact xw_joint (⟨i, m, now + (f i).wait, ao2, cap, ch⟩ : Ix) ⟨rfl, rfl, hI.same hwf rfl rfl rfl hnw⟩ (.inr (by repeat (first | exact List.Sublist.refl _ | refine List.Sublist.cons_cons _ ?_ | refine List.Sublist.cons _ ?_))) ⟨rfl, rfl, rfl, rfl, rfl, rfl, rfl, rfl, rfl, rfl, rfl, rfl, rfl, trivial⟩
      · exact xw_joint (⟨i, m.told, now + (f i).wait, ao2, cap, ch⟩ : Ix) ⟨rfl, rfl, hI.same hwf.told rfl rfl rfl hnw⟩ (.inr (by repeat (first | exact List.Sublist.refl _ | refine List.Sublist.cons_cons _ ?_ | refine List.Sublist.cons _ ?_))) ⟨rfl, rfl, rfl, rfl, rfl, rfl, rfl, rfl, rfl, rfl, rfl, rfl, rfl, trivial⟩
      · have he : m.lost (f i).w = { m with asks := true } := by simp [PathM.lost, hc121, hc125]
        have hw' := hwf.lost (w := (f i).w)
        rw [he] at hw' ⊢
        exact xw_joint (⟨i, { m with asks := true }, now + (f i).wait, ao2, cap, ch⟩ : Ix) ⟨rfl, rfl, hI.same hw' rfl rfl rfl hnw⟩ (.inr (by repeat (first | exact List.Sublist.refl _ | refine List.Sublist.cons_cons _ ?_ | refine List.Sublist.cons _ ?_))) ⟨rfl, rfl, rfl, rfl, rfl, rfl, rfl, rfl, rfl, rfl, rfl, rfl, rfl, trivial⟩
      · rw [show m.lost (f i).w = m from by simp [PathM.lost, Ne.symm hc125]]
        exact xw_joint (⟨i, m, now + (f i).wait, ao2, cap, ch⟩ : Ix) ⟨rfl, rfl, hI.same hwf rfl rfl rfl hnw⟩ (.inr (by repeat (first | exact List.Sublist.refl _ | refine List.Sublist.cons_cons _ ?_ | refine List.Sublist.cons _ ?_))) ⟨rfl, rfl, rfl, rfl, rfl, rfl, rfl, rfl, rfl, rfl, rfl, rfl, rfl, trivial⟩
      · rw [show m.lost (f i).w = m from by simp [PathM.lost, hc121]]
        exact xw_joint (⟨i, m, now + (f i).wait, ao2, cap, ch⟩ : Ix) ⟨rfl, rfl, hI.same hwf rfl rfl rfl hnw⟩ (.inr (by repeat (first | exact List.Sublist.refl _ | refine List.Sublist.cons_cons _ ?_ | refine List.Sublist.cons _ ?_))) ⟨rfl, rfl, rfl, rfl, rfl, rfl, rfl, rfl, rfl, rfl, rfl, rfl, rfl, trivial⟩
      · exact absurd (by rw [resp2, hc130]; simp) hc139
      · rw [show (m.response (f i).w).1 = m.know from by simp [PathM.response, hc130, hc140]]
        exact xw_joint (⟨i, m.know, now + (f i).wait, ao2, cap, ch⟩ : Ix) ⟨rfl, rfl, hI.same hwf.know rfl rfl rfl hnw⟩ (.inr (by repeat (first | exact List.Sublist.refl _ | refine List.Sublist.cons_cons _ ?_ | refine List.Sublist.cons _ ?_))) ⟨rfl, rfl, rfl, rfl, rfl, rfl, rfl, rfl, rfl, rfl, rfl, rfl, rfl, trivial⟩
      · rw [show (m.response (f i).w).1 = m from by simp [PathM.response, Ne.symm hc140]]
        exact xw_joint (⟨i, m, now + (f i).wait, ao2, cap, ch⟩ : Ix) ⟨rfl, rfl, hI.same hwf rfl rfl rfl hnw⟩ (.inr (by repeat (first | exact List.Sublist.refl _ | refine List.Sublist.cons_cons _ ?_ | refine List.Sublist.cons _ ?_))) ⟨rfl, rfl, rfl, rfl, rfl, rfl, rfl, rfl, rfl, rfl, rfl, rfl, rfl, trivial⟩
      · exact absurd (by rw [resp2]; simp [hc130]) hc139
      · rw [show (m.response (f i).w).1 = m from by simp [PathM.response, hc130]]
        exact xw_joint (⟨i, m, now + (f i).wait, ao2, cap, ch⟩ : Ix) ⟨rfl, rfl, hI.same hwf rfl rfl rfl hnw⟩ (.inr (by repeat (first | exact List.Sublist.refl _ | refine List.Sublist.cons_cons _ ?_ | refine List.Sublist.cons _ ?_))) ⟨rfl, rfl, rfl, rfl, rfl, rfl, rfl, rfl, rfl, rfl, rfl, rfl, rfl, trivial⟩
      · have hmany := hwf.many
        have h4 := hwf.ws
        refine ow_buildSlice (size := 8) (l := [(0, .tmp 150)]) rfl rfl rfl (bs8 hwl) (by simp [hwl]) (fun b151 hsl1 => ?_)
        refine ow_append (size := 8) rfl rfl Try.underlying32 Try.underlying32 Ty.em32 rfl rfl (fun w => rfl) hI.sl (.there (.there (.there .here))) (Reads.block .here (.head _) GetN.all (by simp [hwl])) hwo (by dsimp only; omega) (by dsimp only; omega) (fun v' c' hsl2 => ?_)
        obtain ⟨ao4, cap4, rfl⟩ := sl_view hsl2
        refine Go.Sl.ow_val rfl rfl (Go.Sl.v_assign rfl) ?_
        refine Go.Sl.ow_nil ?_
        refine Go.Sl.xw_block ?_
        have he : m.challenged (f i).w = { m with ws := m.ws.set m.many (f i).w, many := m.many + 1 } := by simp [PathM.challenged]; omega
        have hw' := hwf.challenged hwl
        rw [he] at hw' ⊢
        refine xw_joint (⟨i, { m with ws := m.ws.set m.many (f i).w, many := m.many + 1 }, now + (f i).wait, ao4, cap4, c'⟩ : Ix) ⟨rfl, rfl, ⟨hw', hI.num, hnw, ?_⟩⟩ (.inr (by repeat (first | exact List.Sublist.refl _ | refine List.Sublist.cons_cons _ ?_ | refine List.Sublist.cons _ ?_))) ⟨rfl, rfl, rfl, rfl, rfl, rfl, rfl, rfl, rfl, rfl, rfl, rfl, rfl, trivial⟩
        dsimp only
        rw [← words_set (by omega)]
        exact hsl2
      · rw [show m.challenged (f i).w = m from by simp [PathM.challenged]; omega]
        exact xw_joint (⟨i, m, now + (f i).wait, ao2, cap, ch⟩ : Ix) ⟨rfl, rfl, hI.same hwf rfl rfl rfl hnw⟩ (.inr (by repeat (first | exact List.Sublist.refl _ | refine List.Sublist.cons_cons _ ?_ | refine List.Sublist.cons _ ?_))) ⟨rfl, rfl, rfl, rfl, rfl, rfl, rfl, rfl, rfl, rfl, rfl, rfl, rfl, trivial⟩
      · have hmany := hwf.many
        have hmne : ¬ m.many = 0 := by omega
        have he : m.answered = { m with ws := m.ws.drop 1 ++ m.ws.drop 3, many := m.many - 1 } := by simp [PathM.answered, hmne]
        have hw' := hwf.answered
        rw [he] at hw' ⊢
        refine xw_joint (⟨i, { m with ws := m.ws.drop 1 ++ m.ws.drop 3, many := m.many - 1 }, now + (f i).wait, cutA ao2 cap 1 8, cap - 1, ch⟩ : Ix) ⟨rfl, rfl, ⟨hw', hI.num, hnw, ?_⟩⟩ (.inr (by repeat (first | exact List.Sublist.refl _ | refine List.Sublist.cons_cons _ ?_ | refine List.Sublist.cons _ ?_))) ⟨rfl, rfl, rfl, rfl, rfl, rfl, rfl, rfl, rfl, rfl, rfl, rfl, rfl, trivial⟩
        dsimp only
        rw [← words_drop hwf.ws hwf.each (by omega) hmany]
        exact hI.sl.drop (by dsimp only; omega) (by decide)
      · rw [show m.answered = m from by simp [PathM.answered]; omega]
        exact xw_joint (⟨i, m, now + (f i).wait, ao2, cap, ch⟩ : Ix) ⟨rfl, rfl, hI.same hwf rfl rfl rfl hnw⟩ (.inr (by repeat (first | exact List.Sublist.refl _ | refine List.Sublist.cons_cons _ ?_ | refine List.Sublist.cons _ ?_))) ⟨rfl, rfl, rfl, rfl, rfl, rfl, rfl, rfl, rfl, rfl, rfl, rfl, rfl, trivial⟩
      · exact absurd (by rw [tick2, hc166]; simp) hc175
      · have he : (m.tick (now + (f i).wait)).1 = { m with state := 3, asks := false } := by unfold PathM.tick; rw [if_neg (by omega)]
        have hw' := hwf.tick (now := now + (f i).wait)
        rw [he] at hw' ⊢
        exact xw_joint (⟨i, { m with state := 3, asks := false }, now + (f i).wait, ao2, cap, ch⟩ : Ix) ⟨rfl, rfl, hI.same hw' rfl rfl rfl hnw⟩ (.inr (by repeat (first | exact List.Sublist.refl _ | refine List.Sublist.cons_cons _ ?_ | refine List.Sublist.cons _ ?_))) ⟨rfl, rfl, rfl, rfl, rfl, rfl, rfl, rfl, rfl, rfl, rfl, rfl, rfl, trivial⟩
      · rw [show (m.tick (now + (f i).wait)).1 = m from by unfold PathM.tick; rw [if_pos (by omega)]]
        exact xw_joint (⟨i, m, now + (f i).wait, ao2, cap, ch⟩ : Ix) ⟨rfl, rfl, hI.same hwf rfl rfl rfl hnw⟩ (.inr (by repeat (first | exact List.Sublist.refl _ | refine List.Sublist.cons_cons _ ?_ | refine List.Sublist.cons _ ?_))) ⟨rfl, rfl, rfl, rfl, rfl, rfl, rfl, rfl, rfl, rfl, rfl, rfl, rfl, trivial⟩
      · exact absurd (by rw [tick2]; simp [hc166]) hc175
      · rw [show (m.tick (now + (f i).wait)).1 = m from by simp [PathM.tick, hc166]]
        exact xw_joint (⟨i, m, now + (f i).wait, ao2, cap, ch⟩ : Ix) ⟨rfl, rfl, hI.same hwf rfl rfl rfl hnw⟩ (.inr (by repeat (first | exact List.Sublist.refl _ | refine List.Sublist.cons_cons _ ?_ | refine List.Sublist.cons _ ?_))) ⟨rfl, rfl, rfl, rfl, rfl, rfl, rfl, rfl, rfl, rfl, rfl, rfl, rfl, trivial⟩
      · exact xw_joint (⟨i, m.know, now + (f i).wait, ao2, cap, ch⟩ : Ix) ⟨rfl, rfl, hI.same hwf.know rfl rfl rfl hnw⟩ (.inr (by repeat (first | exact List.Sublist.refl _ | refine List.Sublist.cons_cons _ ?_ | refine List.Sublist.cons _ ?_))) ⟨rfl, rfl, rfl, rfl, rfl, rfl, rfl, rfl, rfl, rfl, rfl, rfl, rfl, trivial⟩
      · exact xw_joint (⟨i, m, now + (f i).wait, ao2, cap, ch⟩ : Ix) ⟨rfl, rfl, hI.same hwf rfl rfl rfl hnw⟩ (.inr (by repeat (first | exact List.Sublist.refl _ | refine List.Sublist.cons_cons _ ?_ | refine List.Sublist.cons _ ?_))) ⟨rfl, rfl, rfl, rfl, rfl, rfl, rfl, rfl, rfl, rfl, rfl, rfl, rfl, trivial⟩
    rintro ⟨i2, m2, now2, ao3, cap2, ch2⟩ ⟨hi2, hn2, hI2⟩
    dsimp only at hi2 hn2 ⊢
    subst hi2
    subst hn2
    have hwf2 := hI2.wf
    dsimp only at hwf2
    have hnum := hI2.num
    have hmany2 := hwf2.many
    dsimp only at hnum
    have hal := asksV_len hwf2
    have hao1 : ∀ u ∈ by8 m2.asksV.1, u.oneCell' = true := by8_one _
    have hao2 : (by8 m2.asksV.1).length = 8 := by simp [hal]
    have hin2 := hwf2.inn
    have hout2 := hwf2.out
    have hml3 : (by8 m2.word).length = 8 := by simp [hwf2.word]
    have hroom : m2.room = if m2.state = 2 then 4611686018427387903 else 3 * m2.inn - min m2.out (3 * m2.inn) := by
      unfold PathM.room
      split
      · rfl
      · have : min m2.inn 1537228672809129301 = m2.inn := by omega
        rw [this]
        split <;> omega
    by_cases h0 : 0 < m2.many
    · obtain ⟨b3, o3, cap3, obj3, hv3, hch3, hg3, hx3⟩ := sl_get hI2.sl h0
      dsimp only at hv3 hch3 hg3
      obtain ⟨rfl, rfl⟩ : ao3 = some ⟨b3, o3, none⟩ ∧ cap2 = cap3 := by simpa using hv3
      subst hch3
      have h4 := hwf2.ws
      obtain ⟨u, hu⟩ : ∃ u, m2.ws[0]? = some u := ⟨m2.ws[0]'(by omega), by simp⟩
      have hul : u.length = 8 := hwf2.each u (List.mem_of_getElem? hu)
      have hul2 : (by8 u).length = 8 := by simp [hul]
      have huo : ∀ v ∈ by8 u, v.oneCell' = true := by8_one _
      have hg4 : GetN obj3 (o3 + 0 * 8) (by8 u) := hg3.sub fun j v hj => by
        have := flat_get (ws := m2.ws.take m2.many) (fun w hw => hwf2.each w (List.mem_of_mem_take hw)) 0 u (by rw [List.getElem?_take]; simp [h0, hu]) j v hj
        simpa using this
      have hM : true = decide (0 < (m2.many : Int)) := by simp [h0]
      have ha := answer_v (B := B) (w0 := w0) (b := ba) hwf2
      rw [show m2.answerV = (u, true) from by simp [PathM.answerV, hu]; omega] at ha
      refine Go.Sl.cw_seq ?_
      refine Go.Sl.cw_region ?_
      refine Go.Sl.ow_val rfl rfl (Go.Sl.v_move rfl) ?_
      refine Go.Sl.ow_val rfl rfl (Go.Sl.v_call rfl rfl (Go.Sl.Fn.c1r (.there (.there .here)) (asks_c hwf2))) ?_
      refine Go.Sl.ow_val rfl rfl (Go.Sl.v_move rfl) ?_
      refine Go.Sl.ow_val rfl rfl (Go.Sl.v_extract rfl rfl) ?_
      refine Go.Sl.ow_val rfl rfl (Go.Sl.v_extract rfl rfl) ?_
      (refine Go.Sl.ow_alloc rfl rfl Ty.ze33 ?_; intro b22)
      refine Go.Sl.ow_storeN rfl rfl rfl Ty.ag33 (by first | rfl | assumption) (by first | assumption | simp) .here (set8 (l := zero8) rfl hal) ?_
      refine Go.Sl.ow_val rfl rfl (Go.Sl.v_assign rfl) ?_
      refine Go.Sl.ow_nil ?_
      refine Go.Sl.xw_then ?_
      refine Go.Sl.cw_seq ?_
      refine Go.Sl.cw_region ?_
      refine Go.Sl.ow_val rfl rfl (Go.Sl.v_move rfl) ?_
      refine Go.Sl.ow_val rfl rfl (Go.Sl.v_call rfl rfl (Go.Sl.Fn.c1r (.there (.there (.there .here))) (ha))) ?_
      refine Go.Sl.ow_val rfl rfl (Go.Sl.v_move rfl) ?_
      refine Go.Sl.ow_val rfl rfl (Go.Sl.v_extract rfl rfl) ?_
      refine Go.Sl.ow_val rfl rfl (Go.Sl.v_extract rfl rfl) ?_
      (refine Go.Sl.ow_alloc rfl rfl Ty.ze33 ?_; intro b24)
      refine Go.Sl.ow_storeN rfl rfl rfl Ty.ag33 (by first | rfl | assumption) (by first | assumption | simp) .here (set8 (l := zero8) rfl hul) ?_
      refine Go.Sl.ow_val rfl rfl (Go.Sl.v_assign rfl) ?_
      refine Go.Sl.ow_nil ?_
      refine Go.Sl.xw_then ?_
      refine Go.Sl.cw_seq ?_
      refine Go.Sl.cw_region ?_
      refine Go.Sl.ow_val rfl rfl (Go.Sl.v_assign rfl) ?_
      refine Go.Sl.ow_nil ?_
      refine Go.Sl.xw_then ?_
      refine Go.Sl.cw_seq ?_
      refine Go.Sl.cw_seq ?_
      refine Go.Sl.cw_region ?_
      refine Go.Sl.ow_val rfl rfl (Go.Sl.v_move rfl) ?_
      refine Go.Sl.ow_val rfl rfl (Go.Sl.v_neq rfl rfl) ?_
      refine Go.Sl.ow_nil ?_
      refine Go.Sl.xw_then ?_
      refine Go.Sl.cw_dec rfl (fun hc188 => ?_) (fun hc188 => ?_)
      refine Go.Sl.cw_region ?_
      refine Go.Sl.ow_val rfl rfl (Go.Sl.v_move rfl) ?_
      refine Go.Sl.ow_val rfl rfl (Go.Sl.v_mul rfl rfl (Go.Sl.nw_u64 (by omega) (by omega))) ?_
      refine Go.Sl.ow_val rfl rfl (Go.Sl.v_move rfl) ?_
      refine Go.Sl.ow_val rfl rfl (Go.Sl.v_move rfl) ?_
      refine Go.Sl.ow_val rfl rfl (Go.Sl.v_mul rfl rfl (Go.Sl.nw_u64 (by omega) (by omega))) ?_
      refine Go.Sl.ow_val rfl rfl (Go.Sl.v_min rfl rfl) ?_
      refine Go.Sl.ow_val rfl rfl (Go.Sl.v_sub rfl rfl (Go.Sl.nw_u64 (by omega) (by omega))) ?_
      refine Go.Sl.ow_val rfl rfl (Go.Sl.v_assign rfl) ?_
      refine Go.Sl.ow_nil ?_
      refine Go.Sl.xw_then ?_
      refine Go.Sl.cw_seq ?_
      refine Go.Sl.cw_quiet Ty.mixed (by decide +kernel) ?_
      dsimp only [List.append]
      refine Go.Sl.kw_val rfl rfl (Go.Sl.v_move rfl) ?_
      refine Go.Sl.kw_val rfl rfl (Go.Sl.v_nilCheck rfl) ?_
      refine Go.Sl.kw_val rfl rfl (Go.Sl.v_fieldAddr0 Ty.fd42_1 rfl) ?_
      refine Go.Sl.kw_val rfl rfl (Go.Sl.v_load rfl (Go.Sl.Var.at1 Ty.sc39 (.there (.there (.there (.there .here)))) (PathM.g_state))) ?_
      refine Go.Sl.kw_val rfl rfl (Go.Sl.v_move rfl) ?_
      refine Go.Sl.kw_val rfl rfl (Go.Sl.v_neq rfl rfl) ?_
      refine Go.Sl.kw_val rfl rfl (Go.Sl.v_move rfl) ?_
      refine Go.Sl.kw_dec 202 rfl (fun hc202 => ?_) (fun hc202 => ?_)
      (exfalso; omega)
      refine Go.Sl.kw_val rfl rfl (Go.Sl.v_move rfl) ?_
      refine Go.Sl.kw_val rfl rfl (Go.Sl.v_nilCheck rfl) ?_
      refine Go.Sl.kw_val rfl rfl (Go.Sl.v_fieldAddr0 Ty.fd42_2 rfl) ?_
      refine Go.Sl.kw_val rfl rfl (Go.Sl.v_load rfl (Go.Sl.Var.at1 Ty.sc26 (.there (.there (.there (.there .here)))) (PathM.g_inn))) ?_
      refine Go.Sl.kw_val rfl rfl (Go.Sl.v_move rfl) ?_
      refine Go.Sl.kw_val rfl rfl (Go.Sl.v_neq rfl rfl) ?_
      refine Go.Sl.kw_val rfl rfl (Go.Sl.v_pick_false rfl rfl) ?_
      refine Go.Sl.kw_val rfl rfl (Go.Sl.v_move rfl) ?_
      refine Go.Sl.kw_dec 210 rfl (fun hc210 => ?_) (fun hc210 => ?_)
      (exfalso; omega)
      refine Go.Sl.kw_val rfl rfl (Go.Sl.v_move rfl) ?_
      refine Go.Sl.kw_val rfl rfl (Go.Sl.v_nilCheck rfl) ?_
      refine Go.Sl.kw_val rfl rfl (Go.Sl.v_fieldAddr0 Ty.fd42_3 rfl) ?_
      refine Go.Sl.kw_val rfl rfl (Go.Sl.v_load rfl (Go.Sl.Var.at1 Ty.sc26 (.there (.there (.there (.there .here)))) (PathM.g_out))) ?_
      refine Go.Sl.kw_val rfl rfl (Go.Sl.v_move rfl) ?_
      refine Go.Sl.kw_val rfl rfl (Go.Sl.v_neq rfl rfl) ?_
      refine Go.Sl.kw_val rfl rfl (Go.Sl.v_pick_false rfl rfl) ?_
      refine Go.Sl.kw_val rfl rfl (Go.Sl.v_move rfl) ?_
      refine Go.Sl.kw_dec 218 rfl (fun hc218 => ?_) (fun hc218 => ?_)
      (exfalso; omega)
      refine Go.Sl.kw_val rfl rfl (Go.Sl.v_move rfl) ?_
      refine Go.Sl.kw_val rfl rfl (Go.Sl.v_call rfl rfl (Go.Sl.Fn.c1r (.there (.there (.there (.there .here)))) (room_c hwf2))) ?_
      refine Go.Sl.kw_val rfl rfl (Go.Sl.v_move rfl) ?_
      refine Go.Sl.kw_val rfl rfl (Go.Sl.v_neq rfl rfl) ?_
      refine Go.Sl.kw_val rfl rfl (Go.Sl.v_pick_false rfl rfl) ?_
      refine Go.Sl.kw_val rfl rfl (Go.Sl.v_move rfl) ?_
      refine Go.Sl.kw_dec 224 rfl (fun hc224 => ?_) (fun hc224 => ?_)
      (exfalso; omega)
      refine Go.Sl.kw_val rfl rfl (Go.Sl.v_move rfl) ?_
      refine Go.Sl.kw_val rfl rfl (Go.Sl.v_move rfl) ?_
      refine Go.Sl.kw_val rfl rfl (Go.Sl.v_eql rfl rfl) ?_
      refine Go.Sl.kw_val rfl rfl (Go.Sl.v_move rfl) ?_
      refine Go.Sl.kw_dec 228 rfl (fun hc228 => ?_) (fun hc228 => ?_)
      refine Go.Sl.kw_val rfl rfl (Go.Sl.v_move rfl) ?_
      refine Go.Sl.kw_val rfl rfl (Go.Sl.v_pick_true rfl rfl) ?_
      refine Go.Sl.kw_val rfl rfl (Go.Sl.v_neqB Try.underlying4 rfl rfl) ?_
      refine Go.Sl.kw_val rfl rfl (Go.Sl.v_pick_false rfl rfl) ?_
      refine Go.Sl.kw_val rfl rfl (Go.Sl.v_move rfl) ?_
      refine Go.Sl.kw_dec 233 rfl (fun hc233 => ?_) (fun hc233 => ?_)
      refine Go.Sl.kw_skip rfl rfl ?_
      refine Go.Sl.kw_skip rfl rfl ?_
      refine Go.Sl.kw_skip rfl rfl ?_
      refine Go.Sl.kw_skip rfl rfl ?_
      refine Go.Sl.kw_skip rfl rfl ?_
      refine Go.Sl.kw_skip rfl rfl ?_
      refine Go.Sl.kw_val rfl rfl (Go.Sl.v_pick_true rfl rfl) ?_
      refine Go.Sl.kw_val rfl rfl (Go.Sl.v_move rfl) ?_
      refine Go.Sl.kw_skip rfl rfl ?_
      refine Go.Sl.kw_skip rfl rfl ?_
      refine Go.Sl.kw_skip rfl rfl ?_
      refine Go.Sl.kw_skip rfl rfl ?_
      refine Go.Sl.kw_skip rfl rfl ?_
      refine Go.Sl.kw_val rfl rfl (Go.Sl.v_pick_true rfl rfl) ?_
      refine Go.Sl.kw_val rfl rfl (Go.Sl.v_move rfl) ?_
      refine Go.Sl.kw_skip rfl rfl ?_
      refine Go.Sl.kw_skip rfl rfl ?_
      refine Go.Sl.kw_skip rfl rfl ?_
      refine Go.Sl.kw_skip rfl rfl ?_
      refine Go.Sl.kw_skip rfl rfl ?_
      refine Go.Sl.kw_skip rfl rfl ?_
      refine Go.Sl.kw_skip rfl rfl ?_
      refine Go.Sl.kw_skip rfl rfl ?_
      refine Go.Sl.kw_val rfl rfl (Go.Sl.v_pick_true rfl rfl) ?_
      refine Go.Sl.kw_val rfl rfl (Go.Sl.v_move rfl) ?_
      refine Go.Sl.kw_skip rfl rfl ?_
      refine Go.Sl.kw_skip rfl rfl ?_
      refine Go.Sl.kw_skip rfl rfl ?_
      refine Go.Sl.kw_skip rfl rfl ?_
      refine Go.Sl.kw_skip rfl rfl ?_
      refine Go.Sl.kw_skip rfl rfl ?_
      refine Go.Sl.kw_val rfl rfl (Go.Sl.v_pick_true rfl rfl) ?_
      refine Go.Sl.kw_nil ?_
      refine Go.Sl.xw_then ?_
      refine Go.Sl.cw_true rfl ?_
      refine Go.Sl.cw_seq ?_
      refine Go.Sl.cw_region ?_
      refine Go.Sl.ow_val rfl rfl (Go.Sl.v_assign rfl) ?_
      refine Go.Sl.ow_nil ?_
      refine Go.Sl.xw_then ?_
      refine Go.Sl.cw_ret ?_
      refine Go.Sl.xw_block_ret ?_
      refine Go.Sl.xw_then_ret ?_
      refine Go.Sl.xw_round_ret ?_
      refine Go.Sl.xw_block_ret ?_
      refine Go.Sl.xw_then_ret ?_
      refine Go.Sl.ret1 rfl (Go.Sl.res_tmp rfl) ?_
      rotate_left
      refine Go.Sl.kw_val rfl rfl (Go.Sl.v_move rfl) ?_
      refine Go.Sl.kw_val rfl rfl (Go.Sl.v_move rfl) ?_
      refine Go.Sl.kw_bool 235 rfl (fun hc235 => ?_) (fun hc235 => ?_)
      refine Go.Sl.kw_val rfl rfl (Go.Sl.v_load rfl (Go.Sl.Var.atN Ty.ag33 (.there .here) Go.Sl.GetN.all (by first | rfl | assumption))) ?_
      refine Go.Sl.kw_val rfl rfl (Go.Sl.v_load rfl (Go.Sl.Var.atN Ty.ag33 (.there (.there (.there .here))) Go.Sl.GetN.all (by first | rfl | assumption))) ?_
      refine Go.Sl.kw_val rfl rfl (Go.Sl.v_neqA rfl rfl Ty.gt33 (eq8 hal hwf2.word)) ?_
      refine Go.Sl.kw_val rfl rfl (Go.Sl.v_pick_true rfl rfl) ?_
      refine Go.Sl.kw_val rfl rfl (Go.Sl.v_pick_false rfl rfl) ?_
      refine Go.Sl.kw_val rfl rfl (Go.Sl.v_move rfl) ?_
      refine Go.Sl.kw_dec 241 rfl (fun hc241 => ?_) (fun hc241 => ?_)
      refine Go.Sl.kw_skip rfl rfl ?_
      refine Go.Sl.kw_skip rfl rfl ?_
      refine Go.Sl.kw_skip rfl rfl ?_
      refine Go.Sl.kw_skip rfl rfl ?_
      refine Go.Sl.kw_skip rfl rfl ?_
      refine Go.Sl.kw_val rfl rfl (Go.Sl.v_pick_true rfl rfl) ?_
      refine Go.Sl.kw_val rfl rfl (Go.Sl.v_move rfl) ?_
      refine Go.Sl.kw_skip rfl rfl ?_
      refine Go.Sl.kw_skip rfl rfl ?_
      refine Go.Sl.kw_skip rfl rfl ?_
      refine Go.Sl.kw_skip rfl rfl ?_
      refine Go.Sl.kw_skip rfl rfl ?_
      refine Go.Sl.kw_skip rfl rfl ?_
      refine Go.Sl.kw_skip rfl rfl ?_
      refine Go.Sl.kw_skip rfl rfl ?_
      refine Go.Sl.kw_val rfl rfl (Go.Sl.v_pick_true rfl rfl) ?_
      refine Go.Sl.kw_val rfl rfl (Go.Sl.v_move rfl) ?_
      refine Go.Sl.kw_skip rfl rfl ?_
      refine Go.Sl.kw_skip rfl rfl ?_
      refine Go.Sl.kw_skip rfl rfl ?_
      refine Go.Sl.kw_skip rfl rfl ?_
      refine Go.Sl.kw_skip rfl rfl ?_
      refine Go.Sl.kw_skip rfl rfl ?_
      refine Go.Sl.kw_val rfl rfl (Go.Sl.v_pick_true rfl rfl) ?_
      refine Go.Sl.kw_nil ?_
      refine Go.Sl.xw_then ?_
      refine Go.Sl.cw_true rfl ?_
      refine Go.Sl.cw_seq ?_
      refine Go.Sl.cw_region ?_
      refine Go.Sl.ow_val rfl rfl (Go.Sl.v_assign rfl) ?_
      refine Go.Sl.ow_nil ?_
      refine Go.Sl.xw_then ?_
      refine Go.Sl.cw_ret ?_
      refine Go.Sl.xw_block_ret ?_
      refine Go.Sl.xw_then_ret ?_
      refine Go.Sl.xw_round_ret ?_
      refine Go.Sl.xw_block_ret ?_
      refine Go.Sl.xw_then_ret ?_
      refine Go.Sl.ret1 rfl (Go.Sl.res_tmp rfl) ?_
      rotate_left
      refine Go.Sl.kw_val rfl rfl (Go.Sl.v_move rfl) ?_
      refine Go.Sl.kw_val rfl rfl (Go.Sl.v_move rfl) ?_
      refine Go.Sl.kw_val rfl rfl (Go.Sl.v_len rfl Try.underlying32 rfl) ?_
      refine Go.Sl.kw_val rfl rfl (Go.Sl.v_gtr rfl rfl) ?_
      refine Go.Sl.kw_val rfl rfl (Go.Sl.v_neqB Try.underlying4 rfl rfl) ?_
      refine Go.Sl.kw_val rfl rfl (Go.Sl.v_pick_false rfl rfl) ?_
      refine Go.Sl.kw_val rfl rfl (Go.Sl.v_move rfl) ?_
      refine Go.Sl.kw_dec 248 rfl (fun hc248 => ?_) (fun hc248 => ?_)
      refine Go.Sl.kw_skip rfl rfl ?_
      refine Go.Sl.kw_skip rfl rfl ?_
      refine Go.Sl.kw_skip rfl rfl ?_
      refine Go.Sl.kw_skip rfl rfl ?_
      refine Go.Sl.kw_skip rfl rfl ?_
      refine Go.Sl.kw_skip rfl rfl ?_
      refine Go.Sl.kw_skip rfl rfl ?_
      refine Go.Sl.kw_skip rfl rfl ?_
      refine Go.Sl.kw_val rfl rfl (Go.Sl.v_pick_true rfl rfl) ?_
      refine Go.Sl.kw_val rfl rfl (Go.Sl.v_move rfl) ?_
      refine Go.Sl.kw_skip rfl rfl ?_
      refine Go.Sl.kw_skip rfl rfl ?_
      refine Go.Sl.kw_skip rfl rfl ?_
      refine Go.Sl.kw_skip rfl rfl ?_
      refine Go.Sl.kw_skip rfl rfl ?_
      refine Go.Sl.kw_skip rfl rfl ?_
      refine Go.Sl.kw_val rfl rfl (Go.Sl.v_pick_true rfl rfl) ?_
      refine Go.Sl.kw_nil ?_
      refine Go.Sl.xw_then ?_
      refine Go.Sl.cw_true rfl ?_
      refine Go.Sl.cw_seq ?_
      refine Go.Sl.cw_region ?_
      refine Go.Sl.ow_val rfl rfl (Go.Sl.v_assign rfl) ?_
      refine Go.Sl.ow_nil ?_
      refine Go.Sl.xw_then ?_
      refine Go.Sl.cw_ret ?_
      refine Go.Sl.xw_block_ret ?_
      refine Go.Sl.xw_then_ret ?_
      refine Go.Sl.xw_round_ret ?_
      refine Go.Sl.xw_block_ret ?_
      refine Go.Sl.xw_then_ret ?_
      refine Go.Sl.ret1 rfl (Go.Sl.res_tmp rfl) ?_
      rotate_left
      refine Go.Sl.kw_val rfl rfl (Go.Sl.v_move rfl) ?_
      refine Go.Sl.kw_val rfl rfl (Go.Sl.v_move rfl) ?_
      refine Go.Sl.kw_val rfl rfl (Go.Sl.v_load rfl (Go.Sl.Var.atN Ty.ag33 .here Go.Sl.GetN.all (by first | rfl | assumption))) ?_
      refine Go.Sl.kw_val rfl rfl (Go.Sl.v_move rfl) ?_
      refine Go.Sl.kw_val rfl rfl (Go.Sl.v_indexAddr (i := 0) Try.underlying32 Ty.el32 rfl (by first | rfl | assumption) rfl rfl (by omega)) ?_
      refine Go.Sl.kw_val rfl rfl (Go.Sl.v_load rfl (Go.Sl.Var.atN Ty.ag33 (.there (.there .here)) (hg4) (by first | rfl | assumption))) ?_
      refine Go.Sl.kw_val rfl rfl (Go.Sl.v_neqA rfl rfl Ty.gt33 (eq8 hul hul)) ?_
      refine Go.Sl.kw_val rfl rfl (Go.Sl.v_pick_true rfl rfl) ?_
      refine Go.Sl.kw_val rfl rfl (Go.Sl.v_pick_false rfl rfl) ?_
      refine Go.Sl.kw_val rfl rfl (Go.Sl.v_move rfl) ?_
      refine Go.Sl.kw_dec 258 rfl (fun hc258 => ?_) (fun hc258 => ?_)
      refine Go.Sl.kw_skip rfl rfl ?_
      refine Go.Sl.kw_skip rfl rfl ?_
      refine Go.Sl.kw_skip rfl rfl ?_
      refine Go.Sl.kw_skip rfl rfl ?_
      refine Go.Sl.kw_skip rfl rfl ?_
      refine Go.Sl.kw_skip rfl rfl ?_
      refine Go.Sl.kw_val rfl rfl (Go.Sl.v_pick_true rfl rfl) ?_
      refine Go.Sl.kw_nil ?_
      refine Go.Sl.xw_then ?_
      refine Go.Sl.cw_true rfl ?_
      refine Go.Sl.cw_seq ?_
      refine Go.Sl.cw_region ?_
      refine Go.Sl.ow_val rfl rfl (Go.Sl.v_assign rfl) ?_
      refine Go.Sl.ow_nil ?_
      refine Go.Sl.xw_then ?_
      refine Go.Sl.cw_ret ?_
      refine Go.Sl.xw_block_ret ?_
      refine Go.Sl.xw_then_ret ?_
      refine Go.Sl.xw_round_ret ?_
      refine Go.Sl.xw_block_ret ?_
      refine Go.Sl.xw_then_ret ?_
      refine Go.Sl.ret1 rfl (Go.Sl.res_tmp rfl) ?_
      rotate_left
      refine Go.Sl.kw_val rfl rfl (Go.Sl.v_move rfl) ?_
      refine Go.Sl.kw_val rfl rfl (Go.Sl.v_nilCheck rfl) ?_
      refine Go.Sl.kw_val rfl rfl (Go.Sl.v_fieldAddr0 Ty.fd42_0 rfl) ?_
      refine Go.Sl.kw_val rfl rfl (Go.Sl.v_load rfl (Go.Sl.Var.at1 Ty.sc26 (.there (.there (.there (.there .here)))) (PathM.g_number))) ?_
      refine Go.Sl.kw_val rfl rfl (Go.Sl.v_move rfl) ?_
      refine Go.Sl.kw_val rfl rfl (Go.Sl.v_neq rfl rfl) ?_
      refine Go.Sl.kw_val rfl rfl (Go.Sl.v_pick_false rfl rfl) ?_
      refine Go.Sl.kw_nil ?_
      refine Go.Sl.xw_then ?_
      refine Go.Sl.cw_dec rfl (fun hc265 => ?_) (fun hc265 => ?_)
      (exfalso; omega)
      refine Go.Sl.cw_skip ?_
      refine Go.Sl.xw_block ?_
      refine Go.Sl.xw_then ?_
      refine Go.Sl.cw_region ?_
      refine Go.Sl.ow_val rfl rfl (Go.Sl.v_add rfl rfl (Go.Sl.nw_i64 (by omega) (by omega))) ?_
      refine Go.Sl.ow_val rfl rfl (Go.Sl.v_move rfl) ?_
      refine Go.Sl.ow_nil ?_
      rotate_left
      refine Go.Sl.kw_skip rfl rfl ?_
      refine Go.Sl.kw_skip rfl rfl ?_
      refine Go.Sl.kw_skip rfl rfl ?_
      refine Go.Sl.kw_val rfl rfl (Go.Sl.v_pick_false rfl rfl) ?_
      refine Go.Sl.kw_val rfl rfl (Go.Sl.v_pick_false rfl rfl) ?_
      refine Go.Sl.kw_val rfl rfl (Go.Sl.v_move rfl) ?_
      refine Go.Sl.kw_val rfl rfl (Go.Sl.v_move rfl) ?_
      refine Go.Sl.kw_val rfl rfl (Go.Sl.v_move rfl) ?_
      refine Go.Sl.kw_val rfl rfl (Go.Sl.v_len rfl Try.underlying32 rfl) ?_
      refine Go.Sl.kw_val rfl rfl (Go.Sl.v_gtr rfl rfl) ?_
      refine Go.Sl.kw_val rfl rfl (Go.Sl.v_neqB Try.underlying4 rfl rfl) ?_
      refine Go.Sl.kw_val rfl rfl (Go.Sl.v_pick_false rfl rfl) ?_
      refine Go.Sl.kw_val rfl rfl (Go.Sl.v_move rfl) ?_
      refine Go.Sl.kw_dec 248 rfl (fun hc248 => ?_) (fun hc248 => ?_)
      refine Go.Sl.kw_skip rfl rfl ?_
      refine Go.Sl.kw_skip rfl rfl ?_
      refine Go.Sl.kw_skip rfl rfl ?_
      refine Go.Sl.kw_skip rfl rfl ?_
      refine Go.Sl.kw_skip rfl rfl ?_
      refine Go.Sl.kw_skip rfl rfl ?_
      refine Go.Sl.kw_skip rfl rfl ?_
      refine Go.Sl.kw_skip rfl rfl ?_
      refine Go.Sl.kw_val rfl rfl (Go.Sl.v_pick_true rfl rfl) ?_
      refine Go.Sl.kw_val rfl rfl (Go.Sl.v_move rfl) ?_
      refine Go.Sl.kw_skip rfl rfl ?_
      refine Go.Sl.kw_skip rfl rfl ?_
      refine Go.Sl.kw_skip rfl rfl ?_
      refine Go.Sl.kw_skip rfl rfl ?_
      refine Go.Sl.kw_skip rfl rfl ?_
      refine Go.Sl.kw_skip rfl rfl ?_
      refine Go.Sl.kw_val rfl rfl (Go.Sl.v_pick_true rfl rfl) ?_
      refine Go.Sl.kw_nil ?_
      refine Go.Sl.xw_then ?_
      refine Go.Sl.cw_true rfl ?_
      refine Go.Sl.cw_seq ?_
      refine Go.Sl.cw_region ?_
      refine Go.Sl.ow_val rfl rfl (Go.Sl.v_assign rfl) ?_
      refine Go.Sl.ow_nil ?_
      refine Go.Sl.xw_then ?_
      refine Go.Sl.cw_ret ?_
      refine Go.Sl.xw_block_ret ?_
      refine Go.Sl.xw_then_ret ?_
      refine Go.Sl.xw_round_ret ?_
      refine Go.Sl.xw_block_ret ?_
      refine Go.Sl.xw_then_ret ?_
      refine Go.Sl.ret1 rfl (Go.Sl.res_tmp rfl) ?_
      rotate_left
      refine Go.Sl.kw_val rfl rfl (Go.Sl.v_move rfl) ?_
      refine Go.Sl.kw_val rfl rfl (Go.Sl.v_move rfl) ?_
      refine Go.Sl.kw_val rfl rfl (Go.Sl.v_load rfl (Go.Sl.Var.atN Ty.ag33 .here Go.Sl.GetN.all (by first | rfl | assumption))) ?_
      refine Go.Sl.kw_val rfl rfl (Go.Sl.v_move rfl) ?_
      refine Go.Sl.kw_val rfl rfl (Go.Sl.v_indexAddr (i := 0) Try.underlying32 Ty.el32 rfl (by first | rfl | assumption) rfl rfl (by omega)) ?_
      refine Go.Sl.kw_val rfl rfl (Go.Sl.v_load rfl (Go.Sl.Var.atN Ty.ag33 (.there (.there .here)) (hg4) (by first | rfl | assumption))) ?_
      refine Go.Sl.kw_val rfl rfl (Go.Sl.v_neqA rfl rfl Ty.gt33 (eq8 hul hul)) ?_
      refine Go.Sl.kw_val rfl rfl (Go.Sl.v_pick_true rfl rfl) ?_
      refine Go.Sl.kw_val rfl rfl (Go.Sl.v_pick_false rfl rfl) ?_
      refine Go.Sl.kw_val rfl rfl (Go.Sl.v_move rfl) ?_
      refine Go.Sl.kw_dec 258 rfl (fun hc258 => ?_) (fun hc258 => ?_)
      refine Go.Sl.kw_skip rfl rfl ?_
      refine Go.Sl.kw_skip rfl rfl ?_
      refine Go.Sl.kw_skip rfl rfl ?_
      refine Go.Sl.kw_skip rfl rfl ?_
      refine Go.Sl.kw_skip rfl rfl ?_
      refine Go.Sl.kw_skip rfl rfl ?_
      refine Go.Sl.kw_val rfl rfl (Go.Sl.v_pick_true rfl rfl) ?_
      refine Go.Sl.kw_nil ?_
      refine Go.Sl.xw_then ?_
      refine Go.Sl.cw_true rfl ?_
      refine Go.Sl.cw_seq ?_
      refine Go.Sl.cw_region ?_
      refine Go.Sl.ow_val rfl rfl (Go.Sl.v_assign rfl) ?_
      refine Go.Sl.ow_nil ?_
      refine Go.Sl.xw_then ?_
      refine Go.Sl.cw_ret ?_
      refine Go.Sl.xw_block_ret ?_
      refine Go.Sl.xw_then_ret ?_
      refine Go.Sl.xw_round_ret ?_
      refine Go.Sl.xw_block_ret ?_
      refine Go.Sl.xw_then_ret ?_
      refine Go.Sl.ret1 rfl (Go.Sl.res_tmp rfl) ?_
      rotate_left
      refine Go.Sl.kw_val rfl rfl (Go.Sl.v_move rfl) ?_
      refine Go.Sl.kw_val rfl rfl (Go.Sl.v_nilCheck rfl) ?_
      refine Go.Sl.kw_val rfl rfl (Go.Sl.v_fieldAddr0 Ty.fd42_0 rfl) ?_
      refine Go.Sl.kw_val rfl rfl (Go.Sl.v_load rfl (Go.Sl.Var.at1 Ty.sc26 (.there (.there (.there (.there .here)))) (PathM.g_number))) ?_
      refine Go.Sl.kw_val rfl rfl (Go.Sl.v_move rfl) ?_
      refine Go.Sl.kw_val rfl rfl (Go.Sl.v_neq rfl rfl) ?_
      refine Go.Sl.kw_val rfl rfl (Go.Sl.v_pick_false rfl rfl) ?_
      refine Go.Sl.kw_nil ?_
      refine Go.Sl.xw_then ?_
      refine Go.Sl.cw_dec rfl (fun hc265 => ?_) (fun hc265 => ?_)
      (exfalso; omega)
      refine Go.Sl.cw_skip ?_
      refine Go.Sl.xw_block ?_
      refine Go.Sl.xw_then ?_
      refine Go.Sl.cw_region ?_
      refine Go.Sl.ow_val rfl rfl (Go.Sl.v_add rfl rfl (Go.Sl.nw_i64 (by omega) (by omega))) ?_
      refine Go.Sl.ow_val rfl rfl (Go.Sl.v_move rfl) ?_
      refine Go.Sl.ow_nil ?_
      rotate_left
      refine Go.Sl.kw_skip rfl rfl ?_
      refine Go.Sl.kw_val rfl rfl (Go.Sl.v_pick_false rfl rfl) ?_
      refine Go.Sl.kw_val rfl rfl (Go.Sl.v_neqB Try.underlying4 rfl rfl) ?_
      refine Go.Sl.kw_val rfl rfl (Go.Sl.v_pick_false rfl rfl) ?_
      refine Go.Sl.kw_val rfl rfl (Go.Sl.v_move rfl) ?_
      refine Go.Sl.kw_dec 233 rfl (fun hc233 => ?_) (fun hc233 => ?_)
      refine Go.Sl.kw_skip rfl rfl ?_
      refine Go.Sl.kw_skip rfl rfl ?_
      refine Go.Sl.kw_skip rfl rfl ?_
      refine Go.Sl.kw_skip rfl rfl ?_
      refine Go.Sl.kw_skip rfl rfl ?_
      refine Go.Sl.kw_skip rfl rfl ?_
      refine Go.Sl.kw_val rfl rfl (Go.Sl.v_pick_true rfl rfl) ?_
      refine Go.Sl.kw_val rfl rfl (Go.Sl.v_move rfl) ?_
      refine Go.Sl.kw_skip rfl rfl ?_
      refine Go.Sl.kw_skip rfl rfl ?_
      refine Go.Sl.kw_skip rfl rfl ?_
      refine Go.Sl.kw_skip rfl rfl ?_
      refine Go.Sl.kw_skip rfl rfl ?_
      refine Go.Sl.kw_val rfl rfl (Go.Sl.v_pick_true rfl rfl) ?_
      refine Go.Sl.kw_val rfl rfl (Go.Sl.v_move rfl) ?_
      refine Go.Sl.kw_skip rfl rfl ?_
      refine Go.Sl.kw_skip rfl rfl ?_
      refine Go.Sl.kw_skip rfl rfl ?_
      refine Go.Sl.kw_skip rfl rfl ?_
      refine Go.Sl.kw_skip rfl rfl ?_
      refine Go.Sl.kw_skip rfl rfl ?_
      refine Go.Sl.kw_skip rfl rfl ?_
      refine Go.Sl.kw_skip rfl rfl ?_
      refine Go.Sl.kw_val rfl rfl (Go.Sl.v_pick_true rfl rfl) ?_
      refine Go.Sl.kw_val rfl rfl (Go.Sl.v_move rfl) ?_
      refine Go.Sl.kw_skip rfl rfl ?_
      refine Go.Sl.kw_skip rfl rfl ?_
      refine Go.Sl.kw_skip rfl rfl ?_
      refine Go.Sl.kw_skip rfl rfl ?_
      refine Go.Sl.kw_skip rfl rfl ?_
      refine Go.Sl.kw_skip rfl rfl ?_
      refine Go.Sl.kw_val rfl rfl (Go.Sl.v_pick_true rfl rfl) ?_
      refine Go.Sl.kw_nil ?_
      refine Go.Sl.xw_then ?_
      refine Go.Sl.cw_true rfl ?_
      refine Go.Sl.cw_seq ?_
      refine Go.Sl.cw_region ?_
      refine Go.Sl.ow_val rfl rfl (Go.Sl.v_assign rfl) ?_
      refine Go.Sl.ow_nil ?_
      refine Go.Sl.xw_then ?_
      refine Go.Sl.cw_ret ?_
      refine Go.Sl.xw_block_ret ?_
      refine Go.Sl.xw_then_ret ?_
      refine Go.Sl.xw_round_ret ?_
      refine Go.Sl.xw_block_ret ?_
      refine Go.Sl.xw_then_ret ?_
      refine Go.Sl.ret1 rfl (Go.Sl.res_tmp rfl) ?_
      rotate_left
      refine Go.Sl.kw_val rfl rfl (Go.Sl.v_move rfl) ?_
      refine Go.Sl.kw_val rfl rfl (Go.Sl.v_move rfl) ?_
      refine Go.Sl.kw_bool 235 rfl (fun hc235 => ?_) (fun hc235 => ?_)
      refine Go.Sl.kw_val rfl rfl (Go.Sl.v_load rfl (Go.Sl.Var.atN Ty.ag33 (.there .here) Go.Sl.GetN.all (by first | rfl | assumption))) ?_
      refine Go.Sl.kw_val rfl rfl (Go.Sl.v_load rfl (Go.Sl.Var.atN Ty.ag33 (.there (.there (.there .here))) Go.Sl.GetN.all (by first | rfl | assumption))) ?_
      refine Go.Sl.kw_val rfl rfl (Go.Sl.v_neqA rfl rfl Ty.gt33 (eq8 hal hwf2.word)) ?_
      refine Go.Sl.kw_val rfl rfl (Go.Sl.v_pick_true rfl rfl) ?_
      refine Go.Sl.kw_val rfl rfl (Go.Sl.v_pick_false rfl rfl) ?_
      refine Go.Sl.kw_val rfl rfl (Go.Sl.v_move rfl) ?_
      refine Go.Sl.kw_dec 241 rfl (fun hc241 => ?_) (fun hc241 => ?_)
      refine Go.Sl.kw_skip rfl rfl ?_
      refine Go.Sl.kw_skip rfl rfl ?_
      refine Go.Sl.kw_skip rfl rfl ?_
      refine Go.Sl.kw_skip rfl rfl ?_
      refine Go.Sl.kw_skip rfl rfl ?_
      refine Go.Sl.kw_val rfl rfl (Go.Sl.v_pick_true rfl rfl) ?_
      refine Go.Sl.kw_val rfl rfl (Go.Sl.v_move rfl) ?_
      refine Go.Sl.kw_skip rfl rfl ?_
      refine Go.Sl.kw_skip rfl rfl ?_
      refine Go.Sl.kw_skip rfl rfl ?_
      refine Go.Sl.kw_skip rfl rfl ?_
      refine Go.Sl.kw_skip rfl rfl ?_
      refine Go.Sl.kw_skip rfl rfl ?_
      refine Go.Sl.kw_skip rfl rfl ?_
      refine Go.Sl.kw_skip rfl rfl ?_
      refine Go.Sl.kw_val rfl rfl (Go.Sl.v_pick_true rfl rfl) ?_
      refine Go.Sl.kw_val rfl rfl (Go.Sl.v_move rfl) ?_
      refine Go.Sl.kw_skip rfl rfl ?_
      refine Go.Sl.kw_skip rfl rfl ?_
      refine Go.Sl.kw_skip rfl rfl ?_
      refine Go.Sl.kw_skip rfl rfl ?_
      refine Go.Sl.kw_skip rfl rfl ?_
      refine Go.Sl.kw_skip rfl rfl ?_
      refine Go.Sl.kw_val rfl rfl (Go.Sl.v_pick_true rfl rfl) ?_
      refine Go.Sl.kw_nil ?_
      refine Go.Sl.xw_then ?_
      refine Go.Sl.cw_true rfl ?_
      refine Go.Sl.cw_seq ?_
      refine Go.Sl.cw_region ?_
      refine Go.Sl.ow_val rfl rfl (Go.Sl.v_assign rfl) ?_
      refine Go.Sl.ow_nil ?_
      refine Go.Sl.xw_then ?_
      refine Go.Sl.cw_ret ?_
      refine Go.Sl.xw_block_ret ?_
      refine Go.Sl.xw_then_ret ?_
      refine Go.Sl.xw_round_ret ?_
      refine Go.Sl.xw_block_ret ?_
      refine Go.Sl.xw_then_ret ?_
      refine Go.Sl.ret1 rfl (Go.Sl.res_tmp rfl) ?_
      rotate_left
      refine Go.Sl.kw_val rfl rfl (Go.Sl.v_move rfl) ?_
      refine Go.Sl.kw_val rfl rfl (Go.Sl.v_move rfl) ?_
      refine Go.Sl.kw_val rfl rfl (Go.Sl.v_len rfl Try.underlying32 rfl) ?_
      refine Go.Sl.kw_val rfl rfl (Go.Sl.v_gtr rfl rfl) ?_
      refine Go.Sl.kw_val rfl rfl (Go.Sl.v_neqB Try.underlying4 rfl rfl) ?_
      refine Go.Sl.kw_val rfl rfl (Go.Sl.v_pick_false rfl rfl) ?_
      refine Go.Sl.kw_val rfl rfl (Go.Sl.v_move rfl) ?_
      refine Go.Sl.kw_dec 248 rfl (fun hc248 => ?_) (fun hc248 => ?_)
      refine Go.Sl.kw_skip rfl rfl ?_
      refine Go.Sl.kw_skip rfl rfl ?_
      refine Go.Sl.kw_skip rfl rfl ?_
      refine Go.Sl.kw_skip rfl rfl ?_
      refine Go.Sl.kw_skip rfl rfl ?_
      refine Go.Sl.kw_skip rfl rfl ?_
      refine Go.Sl.kw_skip rfl rfl ?_
      refine Go.Sl.kw_skip rfl rfl ?_
      refine Go.Sl.kw_val rfl rfl (Go.Sl.v_pick_true rfl rfl) ?_
      refine Go.Sl.kw_val rfl rfl (Go.Sl.v_move rfl) ?_
      refine Go.Sl.kw_skip rfl rfl ?_
      refine Go.Sl.kw_skip rfl rfl ?_
      refine Go.Sl.kw_skip rfl rfl ?_
      refine Go.Sl.kw_skip rfl rfl ?_
      refine Go.Sl.kw_skip rfl rfl ?_
      refine Go.Sl.kw_skip rfl rfl ?_
      refine Go.Sl.kw_val rfl rfl (Go.Sl.v_pick_true rfl rfl) ?_
      refine Go.Sl.kw_nil ?_
      refine Go.Sl.xw_then ?_
      refine Go.Sl.cw_true rfl ?_
      refine Go.Sl.cw_seq ?_
      refine Go.Sl.cw_region ?_
      refine Go.Sl.ow_val rfl rfl (Go.Sl.v_assign rfl) ?_
      refine Go.Sl.ow_nil ?_
      refine Go.Sl.xw_then ?_
      refine Go.Sl.cw_ret ?_
      refine Go.Sl.xw_block_ret ?_
      refine Go.Sl.xw_then_ret ?_
      refine Go.Sl.xw_round_ret ?_
      refine Go.Sl.xw_block_ret ?_
      refine Go.Sl.xw_then_ret ?_
      refine Go.Sl.ret1 rfl (Go.Sl.res_tmp rfl) ?_
      rotate_left
      refine Go.Sl.kw_val rfl rfl (Go.Sl.v_move rfl) ?_
      refine Go.Sl.kw_val rfl rfl (Go.Sl.v_move rfl) ?_
      refine Go.Sl.kw_val rfl rfl (Go.Sl.v_load rfl (Go.Sl.Var.atN Ty.ag33 .here Go.Sl.GetN.all (by first | rfl | assumption))) ?_
      refine Go.Sl.kw_val rfl rfl (Go.Sl.v_move rfl) ?_
      refine Go.Sl.kw_val rfl rfl (Go.Sl.v_indexAddr (i := 0) Try.underlying32 Ty.el32 rfl (by first | rfl | assumption) rfl rfl (by omega)) ?_
      refine Go.Sl.kw_val rfl rfl (Go.Sl.v_load rfl (Go.Sl.Var.atN Ty.ag33 (.there (.there .here)) (hg4) (by first | rfl | assumption))) ?_
      refine Go.Sl.kw_val rfl rfl (Go.Sl.v_neqA rfl rfl Ty.gt33 (eq8 hul hul)) ?_
      refine Go.Sl.kw_val rfl rfl (Go.Sl.v_pick_true rfl rfl) ?_
      refine Go.Sl.kw_val rfl rfl (Go.Sl.v_pick_false rfl rfl) ?_
      refine Go.Sl.kw_val rfl rfl (Go.Sl.v_move rfl) ?_
      refine Go.Sl.kw_dec 258 rfl (fun hc258 => ?_) (fun hc258 => ?_)
      refine Go.Sl.kw_skip rfl rfl ?_
      refine Go.Sl.kw_skip rfl rfl ?_
      refine Go.Sl.kw_skip rfl rfl ?_
      refine Go.Sl.kw_skip rfl rfl ?_
      refine Go.Sl.kw_skip rfl rfl ?_
      refine Go.Sl.kw_skip rfl rfl ?_
      refine Go.Sl.kw_val rfl rfl (Go.Sl.v_pick_true rfl rfl) ?_
      refine Go.Sl.kw_nil ?_
      refine Go.Sl.xw_then ?_
      refine Go.Sl.cw_true rfl ?_
      refine Go.Sl.cw_seq ?_
      refine Go.Sl.cw_region ?_
      refine Go.Sl.ow_val rfl rfl (Go.Sl.v_assign rfl) ?_
      refine Go.Sl.ow_nil ?_
      refine Go.Sl.xw_then ?_
      refine Go.Sl.cw_ret ?_
      refine Go.Sl.xw_block_ret ?_
      refine Go.Sl.xw_then_ret ?_
      refine Go.Sl.xw_round_ret ?_
      refine Go.Sl.xw_block_ret ?_
      refine Go.Sl.xw_then_ret ?_
      refine Go.Sl.ret1 rfl (Go.Sl.res_tmp rfl) ?_
      rotate_left
      refine Go.Sl.kw_val rfl rfl (Go.Sl.v_move rfl) ?_
      refine Go.Sl.kw_val rfl rfl (Go.Sl.v_nilCheck rfl) ?_
      refine Go.Sl.kw_val rfl rfl (Go.Sl.v_fieldAddr0 Ty.fd42_0 rfl) ?_
      refine Go.Sl.kw_val rfl rfl (Go.Sl.v_load rfl (Go.Sl.Var.at1 Ty.sc26 (.there (.there (.there (.there .here)))) (PathM.g_number))) ?_
      refine Go.Sl.kw_val rfl rfl (Go.Sl.v_move rfl) ?_
      refine Go.Sl.kw_val rfl rfl (Go.Sl.v_neq rfl rfl) ?_
      refine Go.Sl.kw_val rfl rfl (Go.Sl.v_pick_false rfl rfl) ?_
      refine Go.Sl.kw_nil ?_
      refine Go.Sl.xw_then ?_
      refine Go.Sl.cw_dec rfl (fun hc265 => ?_) (fun hc265 => ?_)
      (exfalso; omega)
      refine Go.Sl.cw_skip ?_
      refine Go.Sl.xw_block ?_
      refine Go.Sl.xw_then ?_
      refine Go.Sl.cw_region ?_
      refine Go.Sl.ow_val rfl rfl (Go.Sl.v_add rfl rfl (Go.Sl.nw_i64 (by omega) (by omega))) ?_
      refine Go.Sl.ow_val rfl rfl (Go.Sl.v_move rfl) ?_
      refine Go.Sl.ow_nil ?_
      rotate_left
      refine Go.Sl.kw_skip rfl rfl ?_
      refine Go.Sl.kw_skip rfl rfl ?_
      refine Go.Sl.kw_skip rfl rfl ?_
      refine Go.Sl.kw_val rfl rfl (Go.Sl.v_pick_false rfl rfl) ?_
      refine Go.Sl.kw_val rfl rfl (Go.Sl.v_pick_false rfl rfl) ?_
      refine Go.Sl.kw_val rfl rfl (Go.Sl.v_move rfl) ?_
      refine Go.Sl.kw_val rfl rfl (Go.Sl.v_move rfl) ?_
      refine Go.Sl.kw_val rfl rfl (Go.Sl.v_move rfl) ?_
      refine Go.Sl.kw_val rfl rfl (Go.Sl.v_len rfl Try.underlying32 rfl) ?_
      refine Go.Sl.kw_val rfl rfl (Go.Sl.v_gtr rfl rfl) ?_
      refine Go.Sl.kw_val rfl rfl (Go.Sl.v_neqB Try.underlying4 rfl rfl) ?_
      refine Go.Sl.kw_val rfl rfl (Go.Sl.v_pick_false rfl rfl) ?_
      refine Go.Sl.kw_val rfl rfl (Go.Sl.v_move rfl) ?_
      refine Go.Sl.kw_dec 248 rfl (fun hc248 => ?_) (fun hc248 => ?_)
      refine Go.Sl.kw_skip rfl rfl ?_
      refine Go.Sl.kw_skip rfl rfl ?_
      refine Go.Sl.kw_skip rfl rfl ?_
      refine Go.Sl.kw_skip rfl rfl ?_
      refine Go.Sl.kw_skip rfl rfl ?_
      refine Go.Sl.kw_skip rfl rfl ?_
      refine Go.Sl.kw_skip rfl rfl ?_
      refine Go.Sl.kw_skip rfl rfl ?_
      refine Go.Sl.kw_val rfl rfl (Go.Sl.v_pick_true rfl rfl) ?_
      refine Go.Sl.kw_val rfl rfl (Go.Sl.v_move rfl) ?_
      refine Go.Sl.kw_skip rfl rfl ?_
      refine Go.Sl.kw_skip rfl rfl ?_
      refine Go.Sl.kw_skip rfl rfl ?_
      refine Go.Sl.kw_skip rfl rfl ?_
      refine Go.Sl.kw_skip rfl rfl ?_
      refine Go.Sl.kw_skip rfl rfl ?_
      refine Go.Sl.kw_val rfl rfl (Go.Sl.v_pick_true rfl rfl) ?_
      refine Go.Sl.kw_nil ?_
      refine Go.Sl.xw_then ?_
      refine Go.Sl.cw_true rfl ?_
      refine Go.Sl.cw_seq ?_
      refine Go.Sl.cw_region ?_
      refine Go.Sl.ow_val rfl rfl (Go.Sl.v_assign rfl) ?_
      refine Go.Sl.ow_nil ?_
      refine Go.Sl.xw_then ?_
      refine Go.Sl.cw_ret ?_
      refine Go.Sl.xw_block_ret ?_
      refine Go.Sl.xw_then_ret ?_
      refine Go.Sl.xw_round_ret ?_
      refine Go.Sl.xw_block_ret ?_
      refine Go.Sl.xw_then_ret ?_
      refine Go.Sl.ret1 rfl (Go.Sl.res_tmp rfl) ?_
      rotate_left
      refine Go.Sl.kw_val rfl rfl (Go.Sl.v_move rfl) ?_
      refine Go.Sl.kw_val rfl rfl (Go.Sl.v_move rfl) ?_
      refine Go.Sl.kw_val rfl rfl (Go.Sl.v_load rfl (Go.Sl.Var.atN Ty.ag33 .here Go.Sl.GetN.all (by first | rfl | assumption))) ?_
      refine Go.Sl.kw_val rfl rfl (Go.Sl.v_move rfl) ?_
      refine Go.Sl.kw_val rfl rfl (Go.Sl.v_indexAddr (i := 0) Try.underlying32 Ty.el32 rfl (by first | rfl | assumption) rfl rfl (by omega)) ?_
      refine Go.Sl.kw_val rfl rfl (Go.Sl.v_load rfl (Go.Sl.Var.atN Ty.ag33 (.there (.there .here)) (hg4) (by first | rfl | assumption))) ?_
      refine Go.Sl.kw_val rfl rfl (Go.Sl.v_neqA rfl rfl Ty.gt33 (eq8 hul hul)) ?_
      refine Go.Sl.kw_val rfl rfl (Go.Sl.v_pick_true rfl rfl) ?_
      refine Go.Sl.kw_val rfl rfl (Go.Sl.v_pick_false rfl rfl) ?_
      refine Go.Sl.kw_val rfl rfl (Go.Sl.v_move rfl) ?_
      refine Go.Sl.kw_dec 258 rfl (fun hc258 => ?_) (fun hc258 => ?_)
      refine Go.Sl.kw_skip rfl rfl ?_
      refine Go.Sl.kw_skip rfl rfl ?_
      refine Go.Sl.kw_skip rfl rfl ?_
      refine Go.Sl.kw_skip rfl rfl ?_
      refine Go.Sl.kw_skip rfl rfl ?_
      refine Go.Sl.kw_skip rfl rfl ?_
      refine Go.Sl.kw_val rfl rfl (Go.Sl.v_pick_true rfl rfl) ?_
      refine Go.Sl.kw_nil ?_
      refine Go.Sl.xw_then ?_
      refine Go.Sl.cw_true rfl ?_
      refine Go.Sl.cw_seq ?_
      refine Go.Sl.cw_region ?_
      refine Go.Sl.ow_val rfl rfl (Go.Sl.v_assign rfl) ?_
      refine Go.Sl.ow_nil ?_
      refine Go.Sl.xw_then ?_
      refine Go.Sl.cw_ret ?_
      refine Go.Sl.xw_block_ret ?_
      refine Go.Sl.xw_then_ret ?_
      refine Go.Sl.xw_round_ret ?_
      refine Go.Sl.xw_block_ret ?_
      refine Go.Sl.xw_then_ret ?_
      refine Go.Sl.ret1 rfl (Go.Sl.res_tmp rfl) ?_
      rotate_left
      refine Go.Sl.kw_val rfl rfl (Go.Sl.v_move rfl) ?_
      refine Go.Sl.kw_val rfl rfl (Go.Sl.v_nilCheck rfl) ?_
      refine Go.Sl.kw_val rfl rfl (Go.Sl.v_fieldAddr0 Ty.fd42_0 rfl) ?_
      refine Go.Sl.kw_val rfl rfl (Go.Sl.v_load rfl (Go.Sl.Var.at1 Ty.sc26 (.there (.there (.there (.there .here)))) (PathM.g_number))) ?_
      refine Go.Sl.kw_val rfl rfl (Go.Sl.v_move rfl) ?_
      refine Go.Sl.kw_val rfl rfl (Go.Sl.v_neq rfl rfl) ?_
      refine Go.Sl.kw_val rfl rfl (Go.Sl.v_pick_false rfl rfl) ?_
      refine Go.Sl.kw_nil ?_
      refine Go.Sl.xw_then ?_
      refine Go.Sl.cw_dec rfl (fun hc265 => ?_) (fun hc265 => ?_)
      (exfalso; omega)
      refine Go.Sl.cw_skip ?_
      refine Go.Sl.xw_block ?_
      refine Go.Sl.xw_then ?_
      refine Go.Sl.cw_region ?_
      refine Go.Sl.ow_val rfl rfl (Go.Sl.v_add rfl rfl (Go.Sl.nw_i64 (by omega) (by omega))) ?_
      refine Go.Sl.ow_val rfl rfl (Go.Sl.v_move rfl) ?_
      refine Go.Sl.ow_nil ?_
      rotate_left
      refine Go.Sl.cw_skip ?_
      refine Go.Sl.xw_then ?_
      refine Go.Sl.cw_seq ?_
      refine Go.Sl.cw_quiet Ty.mixed (by decide +kernel) ?_
      dsimp only [List.append]
      refine Go.Sl.kw_val rfl rfl (Go.Sl.v_move rfl) ?_
      refine Go.Sl.kw_val rfl rfl (Go.Sl.v_nilCheck rfl) ?_
      refine Go.Sl.kw_val rfl rfl (Go.Sl.v_fieldAddr0 Ty.fd42_1 rfl) ?_
      refine Go.Sl.kw_val rfl rfl (Go.Sl.v_load rfl (Go.Sl.Var.at1 Ty.sc39 (.there (.there (.there (.there .here)))) (PathM.g_state))) ?_
      refine Go.Sl.kw_val rfl rfl (Go.Sl.v_move rfl) ?_
      refine Go.Sl.kw_val rfl rfl (Go.Sl.v_neq rfl rfl) ?_
      refine Go.Sl.kw_val rfl rfl (Go.Sl.v_move rfl) ?_
      refine Go.Sl.kw_dec 202 rfl (fun hc202 => ?_) (fun hc202 => ?_)
      (exfalso; omega)
      refine Go.Sl.kw_val rfl rfl (Go.Sl.v_move rfl) ?_
      refine Go.Sl.kw_val rfl rfl (Go.Sl.v_nilCheck rfl) ?_
      refine Go.Sl.kw_val rfl rfl (Go.Sl.v_fieldAddr0 Ty.fd42_2 rfl) ?_
      refine Go.Sl.kw_val rfl rfl (Go.Sl.v_load rfl (Go.Sl.Var.at1 Ty.sc26 (.there (.there (.there (.there .here)))) (PathM.g_inn))) ?_
      refine Go.Sl.kw_val rfl rfl (Go.Sl.v_move rfl) ?_
      refine Go.Sl.kw_val rfl rfl (Go.Sl.v_neq rfl rfl) ?_
      refine Go.Sl.kw_val rfl rfl (Go.Sl.v_pick_false rfl rfl) ?_
      refine Go.Sl.kw_val rfl rfl (Go.Sl.v_move rfl) ?_
      refine Go.Sl.kw_dec 210 rfl (fun hc210 => ?_) (fun hc210 => ?_)
      (exfalso; omega)
      refine Go.Sl.kw_val rfl rfl (Go.Sl.v_move rfl) ?_
      refine Go.Sl.kw_val rfl rfl (Go.Sl.v_nilCheck rfl) ?_
      refine Go.Sl.kw_val rfl rfl (Go.Sl.v_fieldAddr0 Ty.fd42_3 rfl) ?_
      refine Go.Sl.kw_val rfl rfl (Go.Sl.v_load rfl (Go.Sl.Var.at1 Ty.sc26 (.there (.there (.there (.there .here)))) (PathM.g_out))) ?_
      refine Go.Sl.kw_val rfl rfl (Go.Sl.v_move rfl) ?_
      refine Go.Sl.kw_val rfl rfl (Go.Sl.v_neq rfl rfl) ?_
      refine Go.Sl.kw_val rfl rfl (Go.Sl.v_pick_false rfl rfl) ?_
      refine Go.Sl.kw_val rfl rfl (Go.Sl.v_move rfl) ?_
      refine Go.Sl.kw_dec 218 rfl (fun hc218 => ?_) (fun hc218 => ?_)
      (exfalso; omega)
      refine Go.Sl.kw_val rfl rfl (Go.Sl.v_move rfl) ?_
      refine Go.Sl.kw_val rfl rfl (Go.Sl.v_call rfl rfl (Go.Sl.Fn.c1r (.there (.there (.there (.there .here)))) (room_c hwf2))) ?_
      refine Go.Sl.kw_val rfl rfl (Go.Sl.v_move rfl) ?_
      refine Go.Sl.kw_val rfl rfl (Go.Sl.v_neq rfl rfl) ?_
      refine Go.Sl.kw_val rfl rfl (Go.Sl.v_pick_false rfl rfl) ?_
      refine Go.Sl.kw_val rfl rfl (Go.Sl.v_move rfl) ?_
      refine Go.Sl.kw_dec 224 rfl (fun hc224 => ?_) (fun hc224 => ?_)
      (exfalso; omega)
      refine Go.Sl.kw_val rfl rfl (Go.Sl.v_move rfl) ?_
      refine Go.Sl.kw_val rfl rfl (Go.Sl.v_move rfl) ?_
      refine Go.Sl.kw_val rfl rfl (Go.Sl.v_eql rfl rfl) ?_
      refine Go.Sl.kw_val rfl rfl (Go.Sl.v_move rfl) ?_
      refine Go.Sl.kw_dec 228 rfl (fun hc228 => ?_) (fun hc228 => ?_)
      (exfalso; omega)
      refine Go.Sl.kw_skip rfl rfl ?_
      refine Go.Sl.kw_val rfl rfl (Go.Sl.v_pick_false rfl rfl) ?_
      refine Go.Sl.kw_val rfl rfl (Go.Sl.v_neqB Try.underlying4 rfl rfl) ?_
      refine Go.Sl.kw_val rfl rfl (Go.Sl.v_pick_false rfl rfl) ?_
      refine Go.Sl.kw_val rfl rfl (Go.Sl.v_move rfl) ?_
      refine Go.Sl.kw_dec 233 rfl (fun hc233 => ?_) (fun hc233 => ?_)
      refine Go.Sl.kw_skip rfl rfl ?_
      refine Go.Sl.kw_skip rfl rfl ?_
      refine Go.Sl.kw_skip rfl rfl ?_
      refine Go.Sl.kw_skip rfl rfl ?_
      refine Go.Sl.kw_skip rfl rfl ?_
      refine Go.Sl.kw_skip rfl rfl ?_
      refine Go.Sl.kw_val rfl rfl (Go.Sl.v_pick_true rfl rfl) ?_
      refine Go.Sl.kw_val rfl rfl (Go.Sl.v_move rfl) ?_
      refine Go.Sl.kw_skip rfl rfl ?_
      refine Go.Sl.kw_skip rfl rfl ?_
      refine Go.Sl.kw_skip rfl rfl ?_
      refine Go.Sl.kw_skip rfl rfl ?_
      refine Go.Sl.kw_skip rfl rfl ?_
      refine Go.Sl.kw_val rfl rfl (Go.Sl.v_pick_true rfl rfl) ?_
      refine Go.Sl.kw_val rfl rfl (Go.Sl.v_move rfl) ?_
      refine Go.Sl.kw_skip rfl rfl ?_
      refine Go.Sl.kw_skip rfl rfl ?_
      refine Go.Sl.kw_skip rfl rfl ?_
      refine Go.Sl.kw_skip rfl rfl ?_
      refine Go.Sl.kw_skip rfl rfl ?_
      refine Go.Sl.kw_skip rfl rfl ?_
      refine Go.Sl.kw_skip rfl rfl ?_
      refine Go.Sl.kw_skip rfl rfl ?_
      refine Go.Sl.kw_val rfl rfl (Go.Sl.v_pick_true rfl rfl) ?_
      refine Go.Sl.kw_val rfl rfl (Go.Sl.v_move rfl) ?_
      refine Go.Sl.kw_skip rfl rfl ?_
      refine Go.Sl.kw_skip rfl rfl ?_
      refine Go.Sl.kw_skip rfl rfl ?_
      refine Go.Sl.kw_skip rfl rfl ?_
      refine Go.Sl.kw_skip rfl rfl ?_
      refine Go.Sl.kw_skip rfl rfl ?_
      refine Go.Sl.kw_val rfl rfl (Go.Sl.v_pick_true rfl rfl) ?_
      refine Go.Sl.kw_nil ?_
      refine Go.Sl.xw_then ?_
      refine Go.Sl.cw_true rfl ?_
      refine Go.Sl.cw_seq ?_
      refine Go.Sl.cw_region ?_
      refine Go.Sl.ow_val rfl rfl (Go.Sl.v_assign rfl) ?_
      refine Go.Sl.ow_nil ?_
      refine Go.Sl.xw_then ?_
      refine Go.Sl.cw_ret ?_
      refine Go.Sl.xw_block_ret ?_
      refine Go.Sl.xw_then_ret ?_
      refine Go.Sl.xw_round_ret ?_
      refine Go.Sl.xw_block_ret ?_
      refine Go.Sl.xw_then_ret ?_
      refine Go.Sl.ret1 rfl (Go.Sl.res_tmp rfl) ?_
      rotate_left
      refine Go.Sl.kw_val rfl rfl (Go.Sl.v_move rfl) ?_
      refine Go.Sl.kw_val rfl rfl (Go.Sl.v_move rfl) ?_
      refine Go.Sl.kw_bool 235 rfl (fun hc235 => ?_) (fun hc235 => ?_)
      refine Go.Sl.kw_val rfl rfl (Go.Sl.v_load rfl (Go.Sl.Var.atN Ty.ag33 (.there .here) Go.Sl.GetN.all (by first | rfl | assumption))) ?_
      refine Go.Sl.kw_val rfl rfl (Go.Sl.v_load rfl (Go.Sl.Var.atN Ty.ag33 (.there (.there (.there .here))) Go.Sl.GetN.all (by first | rfl | assumption))) ?_
      refine Go.Sl.kw_val rfl rfl (Go.Sl.v_neqA rfl rfl Ty.gt33 (eq8 hal hwf2.word)) ?_
      refine Go.Sl.kw_val rfl rfl (Go.Sl.v_pick_true rfl rfl) ?_
      refine Go.Sl.kw_val rfl rfl (Go.Sl.v_pick_false rfl rfl) ?_
      refine Go.Sl.kw_val rfl rfl (Go.Sl.v_move rfl) ?_
      refine Go.Sl.kw_dec 241 rfl (fun hc241 => ?_) (fun hc241 => ?_)
      refine Go.Sl.kw_skip rfl rfl ?_
      refine Go.Sl.kw_skip rfl rfl ?_
      refine Go.Sl.kw_skip rfl rfl ?_
      refine Go.Sl.kw_skip rfl rfl ?_
      refine Go.Sl.kw_skip rfl rfl ?_
      refine Go.Sl.kw_val rfl rfl (Go.Sl.v_pick_true rfl rfl) ?_
      refine Go.Sl.kw_val rfl rfl (Go.Sl.v_move rfl) ?_
      refine Go.Sl.kw_skip rfl rfl ?_
      refine Go.Sl.kw_skip rfl rfl ?_
      refine Go.Sl.kw_skip rfl rfl ?_
      refine Go.Sl.kw_skip rfl rfl ?_
      refine Go.Sl.kw_skip rfl rfl ?_
      refine Go.Sl.kw_skip rfl rfl ?_
      refine Go.Sl.kw_skip rfl rfl ?_
      refine Go.Sl.kw_skip rfl rfl ?_
      refine Go.Sl.kw_val rfl rfl (Go.Sl.v_pick_true rfl rfl) ?_
      refine Go.Sl.kw_val rfl rfl (Go.Sl.v_move rfl) ?_
      refine Go.Sl.kw_skip rfl rfl ?_
      refine Go.Sl.kw_skip rfl rfl ?_
      refine Go.Sl.kw_skip rfl rfl ?_
      refine Go.Sl.kw_skip rfl rfl ?_
      refine Go.Sl.kw_skip rfl rfl ?_
      refine Go.Sl.kw_skip rfl rfl ?_
      refine Go.Sl.kw_val rfl rfl (Go.Sl.v_pick_true rfl rfl) ?_
      refine Go.Sl.kw_nil ?_
      refine Go.Sl.xw_then ?_
      refine Go.Sl.cw_true rfl ?_
      refine Go.Sl.cw_seq ?_
      refine Go.Sl.cw_region ?_
      refine Go.Sl.ow_val rfl rfl (Go.Sl.v_assign rfl) ?_
      refine Go.Sl.ow_nil ?_
      refine Go.Sl.xw_then ?_
      refine Go.Sl.cw_ret ?_
      refine Go.Sl.xw_block_ret ?_
      refine Go.Sl.xw_then_ret ?_
      refine Go.Sl.xw_round_ret ?_
      refine Go.Sl.xw_block_ret ?_
      refine Go.Sl.xw_then_ret ?_
      refine Go.Sl.ret1 rfl (Go.Sl.res_tmp rfl) ?_
      rotate_left
      refine Go.Sl.kw_val rfl rfl (Go.Sl.v_move rfl) ?_
      refine Go.Sl.kw_val rfl rfl (Go.Sl.v_move rfl) ?_
      refine Go.Sl.kw_val rfl rfl (Go.Sl.v_len rfl Try.underlying32 rfl) ?_
      refine Go.Sl.kw_val rfl rfl (Go.Sl.v_gtr rfl rfl) ?_
      refine Go.Sl.kw_val rfl rfl (Go.Sl.v_neqB Try.underlying4 rfl rfl) ?_
      refine Go.Sl.kw_val rfl rfl (Go.Sl.v_pick_false rfl rfl) ?_
      refine Go.Sl.kw_val rfl rfl (Go.Sl.v_move rfl) ?_
      refine Go.Sl.kw_dec 248 rfl (fun hc248 => ?_) (fun hc248 => ?_)
      refine Go.Sl.kw_skip rfl rfl ?_
      refine Go.Sl.kw_skip rfl rfl ?_
      refine Go.Sl.kw_skip rfl rfl ?_
      refine Go.Sl.kw_skip rfl rfl ?_
      refine Go.Sl.kw_skip rfl rfl ?_
      refine Go.Sl.kw_skip rfl rfl ?_
      refine Go.Sl.kw_skip rfl rfl ?_
      refine Go.Sl.kw_skip rfl rfl ?_
      refine Go.Sl.kw_val rfl rfl (Go.Sl.v_pick_true rfl rfl) ?_
      refine Go.Sl.kw_val rfl rfl (Go.Sl.v_move rfl) ?_
      refine Go.Sl.kw_skip rfl rfl ?_
      refine Go.Sl.kw_skip rfl rfl ?_
      refine Go.Sl.kw_skip rfl rfl ?_
      refine Go.Sl.kw_skip rfl rfl ?_
      refine Go.Sl.kw_skip rfl rfl ?_
      refine Go.Sl.kw_skip rfl rfl ?_
      refine Go.Sl.kw_val rfl rfl (Go.Sl.v_pick_true rfl rfl) ?_
      refine Go.Sl.kw_nil ?_
      refine Go.Sl.xw_then ?_
      refine Go.Sl.cw_true rfl ?_
      refine Go.Sl.cw_seq ?_
      refine Go.Sl.cw_region ?_
      refine Go.Sl.ow_val rfl rfl (Go.Sl.v_assign rfl) ?_
      refine Go.Sl.ow_nil ?_
      refine Go.Sl.xw_then ?_
      refine Go.Sl.cw_ret ?_
      refine Go.Sl.xw_block_ret ?_
      refine Go.Sl.xw_then_ret ?_
      refine Go.Sl.xw_round_ret ?_
      refine Go.Sl.xw_block_ret ?_
      refine Go.Sl.xw_then_ret ?_
      refine Go.Sl.ret1 rfl (Go.Sl.res_tmp rfl) ?_
      rotate_left
      refine Go.Sl.kw_val rfl rfl (Go.Sl.v_move rfl) ?_
      refine Go.Sl.kw_val rfl rfl (Go.Sl.v_move rfl) ?_
      refine Go.Sl.kw_val rfl rfl (Go.Sl.v_load rfl (Go.Sl.Var.atN Ty.ag33 .here Go.Sl.GetN.all (by first | rfl | assumption))) ?_
      refine Go.Sl.kw_val rfl rfl (Go.Sl.v_move rfl) ?_
      refine Go.Sl.kw_val rfl rfl (Go.Sl.v_indexAddr (i := 0) Try.underlying32 Ty.el32 rfl (by first | rfl | assumption) rfl rfl (by omega)) ?_
      refine Go.Sl.kw_val rfl rfl (Go.Sl.v_load rfl (Go.Sl.Var.atN Ty.ag33 (.there (.there .here)) (hg4) (by first | rfl | assumption))) ?_
      refine Go.Sl.kw_val rfl rfl (Go.Sl.v_neqA rfl rfl Ty.gt33 (eq8 hul hul)) ?_
      refine Go.Sl.kw_val rfl rfl (Go.Sl.v_pick_true rfl rfl) ?_
      refine Go.Sl.kw_val rfl rfl (Go.Sl.v_pick_false rfl rfl) ?_
      refine Go.Sl.kw_val rfl rfl (Go.Sl.v_move rfl) ?_
      refine Go.Sl.kw_dec 258 rfl (fun hc258 => ?_) (fun hc258 => ?_)
      refine Go.Sl.kw_skip rfl rfl ?_
      refine Go.Sl.kw_skip rfl rfl ?_
      refine Go.Sl.kw_skip rfl rfl ?_
      refine Go.Sl.kw_skip rfl rfl ?_
      refine Go.Sl.kw_skip rfl rfl ?_
      refine Go.Sl.kw_skip rfl rfl ?_
      refine Go.Sl.kw_val rfl rfl (Go.Sl.v_pick_true rfl rfl) ?_
      refine Go.Sl.kw_nil ?_
      refine Go.Sl.xw_then ?_
      refine Go.Sl.cw_true rfl ?_
      refine Go.Sl.cw_seq ?_
      refine Go.Sl.cw_region ?_
      refine Go.Sl.ow_val rfl rfl (Go.Sl.v_assign rfl) ?_
      refine Go.Sl.ow_nil ?_
      refine Go.Sl.xw_then ?_
      refine Go.Sl.cw_ret ?_
      refine Go.Sl.xw_block_ret ?_
      refine Go.Sl.xw_then_ret ?_
      refine Go.Sl.xw_round_ret ?_
      refine Go.Sl.xw_block_ret ?_
      refine Go.Sl.xw_then_ret ?_
      refine Go.Sl.ret1 rfl (Go.Sl.res_tmp rfl) ?_
      rotate_left
      refine Go.Sl.kw_val rfl rfl (Go.Sl.v_move rfl) ?_
      refine Go.Sl.kw_val rfl rfl (Go.Sl.v_nilCheck rfl) ?_
      refine Go.Sl.kw_val rfl rfl (Go.Sl.v_fieldAddr0 Ty.fd42_0 rfl) ?_
      refine Go.Sl.kw_val rfl rfl (Go.Sl.v_load rfl (Go.Sl.Var.at1 Ty.sc26 (.there (.there (.there (.there .here)))) (PathM.g_number))) ?_
      refine Go.Sl.kw_val rfl rfl (Go.Sl.v_move rfl) ?_
      refine Go.Sl.kw_val rfl rfl (Go.Sl.v_neq rfl rfl) ?_
      refine Go.Sl.kw_val rfl rfl (Go.Sl.v_pick_false rfl rfl) ?_
      refine Go.Sl.kw_nil ?_
      refine Go.Sl.xw_then ?_
      refine Go.Sl.cw_dec rfl (fun hc265 => ?_) (fun hc265 => ?_)
      (exfalso; omega)
      refine Go.Sl.cw_skip ?_
      refine Go.Sl.xw_block ?_
      refine Go.Sl.xw_then ?_
      refine Go.Sl.cw_region ?_
      refine Go.Sl.ow_val rfl rfl (Go.Sl.v_add rfl rfl (Go.Sl.nw_i64 (by omega) (by omega))) ?_
      refine Go.Sl.ow_val rfl rfl (Go.Sl.v_move rfl) ?_
      refine Go.Sl.ow_nil ?_
      rotate_left
      refine Go.Sl.kw_skip rfl rfl ?_
      refine Go.Sl.kw_skip rfl rfl ?_
      refine Go.Sl.kw_skip rfl rfl ?_
      refine Go.Sl.kw_val rfl rfl (Go.Sl.v_pick_false rfl rfl) ?_
      refine Go.Sl.kw_val rfl rfl (Go.Sl.v_pick_false rfl rfl) ?_
      refine Go.Sl.kw_val rfl rfl (Go.Sl.v_move rfl) ?_
      refine Go.Sl.kw_val rfl rfl (Go.Sl.v_move rfl) ?_
      refine Go.Sl.kw_val rfl rfl (Go.Sl.v_move rfl) ?_
      refine Go.Sl.kw_val rfl rfl (Go.Sl.v_len rfl Try.underlying32 rfl) ?_
      refine Go.Sl.kw_val rfl rfl (Go.Sl.v_gtr rfl rfl) ?_
      refine Go.Sl.kw_val rfl rfl (Go.Sl.v_neqB Try.underlying4 rfl rfl) ?_
      refine Go.Sl.kw_val rfl rfl (Go.Sl.v_pick_false rfl rfl) ?_
      refine Go.Sl.kw_val rfl rfl (Go.Sl.v_move rfl) ?_
      refine Go.Sl.kw_dec 248 rfl (fun hc248 => ?_) (fun hc248 => ?_)
      refine Go.Sl.kw_skip rfl rfl ?_
      refine Go.Sl.kw_skip rfl rfl ?_
      refine Go.Sl.kw_skip rfl rfl ?_
      refine Go.Sl.kw_skip rfl rfl ?_
      refine Go.Sl.kw_skip rfl rfl ?_
      refine Go.Sl.kw_skip rfl rfl ?_
      refine Go.Sl.kw_skip rfl rfl ?_
      refine Go.Sl.kw_skip rfl rfl ?_
      refine Go.Sl.kw_val rfl rfl (Go.Sl.v_pick_true rfl rfl) ?_
      refine Go.Sl.kw_val rfl rfl (Go.Sl.v_move rfl) ?_
      refine Go.Sl.kw_skip rfl rfl ?_
      refine Go.Sl.kw_skip rfl rfl ?_
      refine Go.Sl.kw_skip rfl rfl ?_
      refine Go.Sl.kw_skip rfl rfl ?_
      refine Go.Sl.kw_skip rfl rfl ?_
      refine Go.Sl.kw_skip rfl rfl ?_
      refine Go.Sl.kw_val rfl rfl (Go.Sl.v_pick_true rfl rfl) ?_
      refine Go.Sl.kw_nil ?_
      refine Go.Sl.xw_then ?_
      refine Go.Sl.cw_true rfl ?_
      refine Go.Sl.cw_seq ?_
      refine Go.Sl.cw_region ?_
      refine Go.Sl.ow_val rfl rfl (Go.Sl.v_assign rfl) ?_
      refine Go.Sl.ow_nil ?_
      refine Go.Sl.xw_then ?_
      refine Go.Sl.cw_ret ?_
      refine Go.Sl.xw_block_ret ?_
      refine Go.Sl.xw_then_ret ?_
      refine Go.Sl.xw_round_ret ?_
      refine Go.Sl.xw_block_ret ?_
      refine Go.Sl.xw_then_ret ?_
      refine Go.Sl.ret1 rfl (Go.Sl.res_tmp rfl) ?_
      rotate_left
      refine Go.Sl.kw_val rfl rfl (Go.Sl.v_move rfl) ?_
      refine Go.Sl.kw_val rfl rfl (Go.Sl.v_move rfl) ?_
      refine Go.Sl.kw_val rfl rfl (Go.Sl.v_load rfl (Go.Sl.Var.atN Ty.ag33 .here Go.Sl.GetN.all (by first | rfl | assumption))) ?_
      refine Go.Sl.kw_val rfl rfl (Go.Sl.v_move rfl) ?_
      refine Go.Sl.kw_val rfl rfl (Go.Sl.v_indexAddr (i := 0) Try.underlying32 Ty.el32 rfl (by first | rfl | assumption) rfl rfl (by omega)) ?_
      refine Go.Sl.kw_val rfl rfl (Go.Sl.v_load rfl (Go.Sl.Var.atN Ty.ag33 (.there (.there .here)) (hg4) (by first | rfl | assumption))) ?_
      refine Go.Sl.kw_val rfl rfl (Go.Sl.v_neqA rfl rfl Ty.gt33 (eq8 hul hul)) ?_
      refine Go.Sl.kw_val rfl rfl (Go.Sl.v_pick_true rfl rfl) ?_
      refine Go.Sl.kw_val rfl rfl (Go.Sl.v_pick_false rfl rfl) ?_
      refine Go.Sl.kw_val rfl rfl (Go.Sl.v_move rfl) ?_
      refine Go.Sl.kw_dec 258 rfl (fun hc258 => ?_) (fun hc258 => ?_)
      refine Go.Sl.kw_skip rfl rfl ?_
      refine Go.Sl.kw_skip rfl rfl ?_
      refine Go.Sl.kw_skip rfl rfl ?_
      refine Go.Sl.kw_skip rfl rfl ?_
      refine Go.Sl.kw_skip rfl rfl ?_
      refine Go.Sl.kw_skip rfl rfl ?_
      refine Go.Sl.kw_val rfl rfl (Go.Sl.v_pick_true rfl rfl) ?_
      refine Go.Sl.kw_nil ?_
      refine Go.Sl.xw_then ?_
      refine Go.Sl.cw_true rfl ?_
      refine Go.Sl.cw_seq ?_
      refine Go.Sl.cw_region ?_
      refine Go.Sl.ow_val rfl rfl (Go.Sl.v_assign rfl) ?_
      refine Go.Sl.ow_nil ?_
      refine Go.Sl.xw_then ?_
      refine Go.Sl.cw_ret ?_
      refine Go.Sl.xw_block_ret ?_
      refine Go.Sl.xw_then_ret ?_
      refine Go.Sl.xw_round_ret ?_
      refine Go.Sl.xw_block_ret ?_
      refine Go.Sl.xw_then_ret ?_
      refine Go.Sl.ret1 rfl (Go.Sl.res_tmp rfl) ?_
      rotate_left
      refine Go.Sl.kw_val rfl rfl (Go.Sl.v_move rfl) ?_
      refine Go.Sl.kw_val rfl rfl (Go.Sl.v_nilCheck rfl) ?_
      refine Go.Sl.kw_val rfl rfl (Go.Sl.v_fieldAddr0 Ty.fd42_0 rfl) ?_
      refine Go.Sl.kw_val rfl rfl (Go.Sl.v_load rfl (Go.Sl.Var.at1 Ty.sc26 (.there (.there (.there (.there .here)))) (PathM.g_number))) ?_
      refine Go.Sl.kw_val rfl rfl (Go.Sl.v_move rfl) ?_
      refine Go.Sl.kw_val rfl rfl (Go.Sl.v_neq rfl rfl) ?_
      refine Go.Sl.kw_val rfl rfl (Go.Sl.v_pick_false rfl rfl) ?_
      refine Go.Sl.kw_nil ?_
      refine Go.Sl.xw_then ?_
      refine Go.Sl.cw_dec rfl (fun hc265 => ?_) (fun hc265 => ?_)
      (exfalso; omega)
      refine Go.Sl.cw_skip ?_
      refine Go.Sl.xw_block ?_
      refine Go.Sl.xw_then ?_
      refine Go.Sl.cw_region ?_
      refine Go.Sl.ow_val rfl rfl (Go.Sl.v_add rfl rfl (Go.Sl.nw_i64 (by omega) (by omega))) ?_
      refine Go.Sl.ow_val rfl rfl (Go.Sl.v_move rfl) ?_
      refine Go.Sl.ow_nil ?_
      rotate_left
      all_goals first
        | exact (no1 hc228 hc233).elim
        | exact (no2 hc228 hc233).elim
        | exact (no3 hc235 hc241).elim
        | exact absurd hM hc248
        | exact absurd rfl hc258
        | exact xw_round (⟨i2 + 1, m2, _, _, _, _⟩ : Ix) ⟨by dsimp only; omega, by dsimp only; omega, by dsimp only; omega, ⟨hI2.wf, hI2.num, hI2.now0, hI2.sl⟩⟩ (by dsimp only; omega) (by repeat (first | exact List.Sublist.refl _ | refine List.Sublist.cons_cons _ ?_ | refine List.Sublist.cons _ ?_)) ⟨rfl, rfl, rfl, rfl, rfl, rfl, rfl, rfl, rfl, rfl, rfl, rfl, rfl, trivial⟩
        | skip
    · have hM : false = decide (0 < (m2.many : Int)) := by simp; omega
      have ha := answer_v (B := B) (w0 := w0) (b := ba) hwf2
      rw [show m2.answerV = (zero8, false) from by simp [PathM.answerV]; omega] at ha
      have hzo : ∀ v ∈ by8 zero8, v.oneCell' = true := by8_one _
      have hzl : (by8 zero8).length = 8 := rfl
      refine Go.Sl.cw_seq ?_
      refine Go.Sl.cw_region ?_
      refine Go.Sl.ow_val rfl rfl (Go.Sl.v_move rfl) ?_
      refine Go.Sl.ow_val rfl rfl (Go.Sl.v_call rfl rfl (Go.Sl.Fn.c1r (.there (.there .here)) (asks_c hwf2))) ?_
      refine Go.Sl.ow_val rfl rfl (Go.Sl.v_move rfl) ?_
      refine Go.Sl.ow_val rfl rfl (Go.Sl.v_extract rfl rfl) ?_
      refine Go.Sl.ow_val rfl rfl (Go.Sl.v_extract rfl rfl) ?_
      (refine Go.Sl.ow_alloc rfl rfl Ty.ze33 ?_; intro b22)
      refine Go.Sl.ow_storeN rfl rfl rfl Ty.ag33 (by first | rfl | assumption) (by first | assumption | simp) .here (set8 (l := zero8) rfl hal) ?_
      refine Go.Sl.ow_val rfl rfl (Go.Sl.v_assign rfl) ?_
      refine Go.Sl.ow_nil ?_
      refine Go.Sl.xw_then ?_
      refine Go.Sl.cw_seq ?_
      refine Go.Sl.cw_region ?_
      refine Go.Sl.ow_val rfl rfl (Go.Sl.v_move rfl) ?_
      refine Go.Sl.ow_val rfl rfl (Go.Sl.v_call rfl rfl (Go.Sl.Fn.c1r (.there (.there (.there .here))) (ha))) ?_
      refine Go.Sl.ow_val rfl rfl (Go.Sl.v_move rfl) ?_
      refine Go.Sl.ow_val rfl rfl (Go.Sl.v_extract rfl rfl) ?_
      refine Go.Sl.ow_val rfl rfl (Go.Sl.v_extract rfl rfl) ?_
      (refine Go.Sl.ow_alloc rfl rfl Ty.ze33 ?_; intro b24)
      refine Go.Sl.ow_storeN rfl rfl rfl Ty.ag33 (by first | rfl | assumption) (by first | assumption | simp) .here (set8 (l := zero8) (w := zero8) rfl rfl) ?_
      refine Go.Sl.ow_val rfl rfl (Go.Sl.v_assign rfl) ?_
      refine Go.Sl.ow_nil ?_
      refine Go.Sl.xw_then ?_
      refine Go.Sl.cw_seq ?_
      refine Go.Sl.cw_region ?_
      refine Go.Sl.ow_val rfl rfl (Go.Sl.v_assign rfl) ?_
      refine Go.Sl.ow_nil ?_
      refine Go.Sl.xw_then ?_
      refine Go.Sl.cw_seq ?_
      refine Go.Sl.cw_seq ?_
      refine Go.Sl.cw_region ?_
      refine Go.Sl.ow_val rfl rfl (Go.Sl.v_move rfl) ?_
      refine Go.Sl.ow_val rfl rfl (Go.Sl.v_neq rfl rfl) ?_
      refine Go.Sl.ow_nil ?_
      refine Go.Sl.xw_then ?_
      refine Go.Sl.cw_dec rfl (fun hc188 => ?_) (fun hc188 => ?_)
      refine Go.Sl.cw_region ?_
      refine Go.Sl.ow_val rfl rfl (Go.Sl.v_move rfl) ?_
      refine Go.Sl.ow_val rfl rfl (Go.Sl.v_mul rfl rfl (Go.Sl.nw_u64 (by omega) (by omega))) ?_
      refine Go.Sl.ow_val rfl rfl (Go.Sl.v_move rfl) ?_
      refine Go.Sl.ow_val rfl rfl (Go.Sl.v_move rfl) ?_
      refine Go.Sl.ow_val rfl rfl (Go.Sl.v_mul rfl rfl (Go.Sl.nw_u64 (by omega) (by omega))) ?_
      refine Go.Sl.ow_val rfl rfl (Go.Sl.v_min rfl rfl) ?_
      refine Go.Sl.ow_val rfl rfl (Go.Sl.v_sub rfl rfl (Go.Sl.nw_u64 (by omega) (by omega))) ?_
      refine Go.Sl.ow_val rfl rfl (Go.Sl.v_assign rfl) ?_
      refine Go.Sl.ow_nil ?_
      refine Go.Sl.xw_then ?_
      refine Go.Sl.cw_seq ?_
      refine Go.Sl.cw_quiet Ty.mixed (by decide +kernel) ?_
      dsimp only [List.append]
      refine Go.Sl.kw_val rfl rfl (Go.Sl.v_move rfl) ?_
      refine Go.Sl.kw_val rfl rfl (Go.Sl.v_nilCheck rfl) ?_
      refine Go.Sl.kw_val rfl rfl (Go.Sl.v_fieldAddr0 Ty.fd42_1 rfl) ?_
      refine Go.Sl.kw_val rfl rfl (Go.Sl.v_load rfl (Go.Sl.Var.at1 Ty.sc39 (.there (.there (.there (.there .here)))) (PathM.g_state))) ?_
      refine Go.Sl.kw_val rfl rfl (Go.Sl.v_move rfl) ?_
      refine Go.Sl.kw_val rfl rfl (Go.Sl.v_neq rfl rfl) ?_
      refine Go.Sl.kw_val rfl rfl (Go.Sl.v_move rfl) ?_
      refine Go.Sl.kw_dec 202 rfl (fun hc202 => ?_) (fun hc202 => ?_)
      (exfalso; omega)
      refine Go.Sl.kw_val rfl rfl (Go.Sl.v_move rfl) ?_
      refine Go.Sl.kw_val rfl rfl (Go.Sl.v_nilCheck rfl) ?_
      refine Go.Sl.kw_val rfl rfl (Go.Sl.v_fieldAddr0 Ty.fd42_2 rfl) ?_
      refine Go.Sl.kw_val rfl rfl (Go.Sl.v_load rfl (Go.Sl.Var.at1 Ty.sc26 (.there (.there (.there (.there .here)))) (PathM.g_inn))) ?_
      refine Go.Sl.kw_val rfl rfl (Go.Sl.v_move rfl) ?_
      refine Go.Sl.kw_val rfl rfl (Go.Sl.v_neq rfl rfl) ?_
      refine Go.Sl.kw_val rfl rfl (Go.Sl.v_pick_false rfl rfl) ?_
      refine Go.Sl.kw_val rfl rfl (Go.Sl.v_move rfl) ?_
      refine Go.Sl.kw_dec 210 rfl (fun hc210 => ?_) (fun hc210 => ?_)
      (exfalso; omega)
      refine Go.Sl.kw_val rfl rfl (Go.Sl.v_move rfl) ?_
      refine Go.Sl.kw_val rfl rfl (Go.Sl.v_nilCheck rfl) ?_
      refine Go.Sl.kw_val rfl rfl (Go.Sl.v_fieldAddr0 Ty.fd42_3 rfl) ?_
      refine Go.Sl.kw_val rfl rfl (Go.Sl.v_load rfl (Go.Sl.Var.at1 Ty.sc26 (.there (.there (.there (.there .here)))) (PathM.g_out))) ?_
      refine Go.Sl.kw_val rfl rfl (Go.Sl.v_move rfl) ?_
      refine Go.Sl.kw_val rfl rfl (Go.Sl.v_neq rfl rfl) ?_
      refine Go.Sl.kw_val rfl rfl (Go.Sl.v_pick_false rfl rfl) ?_
      refine Go.Sl.kw_val rfl rfl (Go.Sl.v_move rfl) ?_
      refine Go.Sl.kw_dec 218 rfl (fun hc218 => ?_) (fun hc218 => ?_)
      (exfalso; omega)
      refine Go.Sl.kw_val rfl rfl (Go.Sl.v_move rfl) ?_
      refine Go.Sl.kw_val rfl rfl (Go.Sl.v_call rfl rfl (Go.Sl.Fn.c1r (.there (.there (.there (.there .here)))) (room_c hwf2))) ?_
      refine Go.Sl.kw_val rfl rfl (Go.Sl.v_move rfl) ?_
      refine Go.Sl.kw_val rfl rfl (Go.Sl.v_neq rfl rfl) ?_
      refine Go.Sl.kw_val rfl rfl (Go.Sl.v_pick_false rfl rfl) ?_
      refine Go.Sl.kw_val rfl rfl (Go.Sl.v_move rfl) ?_
      refine Go.Sl.kw_dec 224 rfl (fun hc224 => ?_) (fun hc224 => ?_)
      (exfalso; omega)
      refine Go.Sl.kw_val rfl rfl (Go.Sl.v_move rfl) ?_
      refine Go.Sl.kw_val rfl rfl (Go.Sl.v_move rfl) ?_
      refine Go.Sl.kw_val rfl rfl (Go.Sl.v_eql rfl rfl) ?_
      refine Go.Sl.kw_val rfl rfl (Go.Sl.v_move rfl) ?_
      refine Go.Sl.kw_dec 228 rfl (fun hc228 => ?_) (fun hc228 => ?_)
      refine Go.Sl.kw_val rfl rfl (Go.Sl.v_move rfl) ?_
      refine Go.Sl.kw_val rfl rfl (Go.Sl.v_pick_true rfl rfl) ?_
      refine Go.Sl.kw_val rfl rfl (Go.Sl.v_neqB Try.underlying4 rfl rfl) ?_
      refine Go.Sl.kw_val rfl rfl (Go.Sl.v_pick_false rfl rfl) ?_
      refine Go.Sl.kw_val rfl rfl (Go.Sl.v_move rfl) ?_
      refine Go.Sl.kw_dec 233 rfl (fun hc233 => ?_) (fun hc233 => ?_)
      refine Go.Sl.kw_skip rfl rfl ?_
      refine Go.Sl.kw_skip rfl rfl ?_
      refine Go.Sl.kw_skip rfl rfl ?_
      refine Go.Sl.kw_skip rfl rfl ?_
      refine Go.Sl.kw_skip rfl rfl ?_
      refine Go.Sl.kw_skip rfl rfl ?_
      refine Go.Sl.kw_val rfl rfl (Go.Sl.v_pick_true rfl rfl) ?_
      refine Go.Sl.kw_val rfl rfl (Go.Sl.v_move rfl) ?_
      refine Go.Sl.kw_skip rfl rfl ?_
      refine Go.Sl.kw_skip rfl rfl ?_
      refine Go.Sl.kw_skip rfl rfl ?_
      refine Go.Sl.kw_skip rfl rfl ?_
      refine Go.Sl.kw_skip rfl rfl ?_
      refine Go.Sl.kw_val rfl rfl (Go.Sl.v_pick_true rfl rfl) ?_
      refine Go.Sl.kw_val rfl rfl (Go.Sl.v_move rfl) ?_
      refine Go.Sl.kw_skip rfl rfl ?_
      refine Go.Sl.kw_skip rfl rfl ?_
      refine Go.Sl.kw_skip rfl rfl ?_
      refine Go.Sl.kw_skip rfl rfl ?_
      refine Go.Sl.kw_skip rfl rfl ?_
      refine Go.Sl.kw_skip rfl rfl ?_
      refine Go.Sl.kw_skip rfl rfl ?_
      refine Go.Sl.kw_skip rfl rfl ?_
      refine Go.Sl.kw_val rfl rfl (Go.Sl.v_pick_true rfl rfl) ?_
      refine Go.Sl.kw_val rfl rfl (Go.Sl.v_move rfl) ?_
      refine Go.Sl.kw_skip rfl rfl ?_
      refine Go.Sl.kw_skip rfl rfl ?_
      refine Go.Sl.kw_skip rfl rfl ?_
      refine Go.Sl.kw_skip rfl rfl ?_
      refine Go.Sl.kw_skip rfl rfl ?_
      refine Go.Sl.kw_skip rfl rfl ?_
      refine Go.Sl.kw_val rfl rfl (Go.Sl.v_pick_true rfl rfl) ?_
      refine Go.Sl.kw_nil ?_
      refine Go.Sl.xw_then ?_
      refine Go.Sl.cw_true rfl ?_
      refine Go.Sl.cw_seq ?_
      refine Go.Sl.cw_region ?_
      refine Go.Sl.ow_val rfl rfl (Go.Sl.v_assign rfl) ?_
      refine Go.Sl.ow_nil ?_
      refine Go.Sl.xw_then ?_
      refine Go.Sl.cw_ret ?_
      refine Go.Sl.xw_block_ret ?_
      refine Go.Sl.xw_then_ret ?_
      refine Go.Sl.xw_round_ret ?_
      refine Go.Sl.xw_block_ret ?_
      refine Go.Sl.xw_then_ret ?_
      refine Go.Sl.ret1 rfl (Go.Sl.res_tmp rfl) ?_
      rotate_left
      refine Go.Sl.kw_val rfl rfl (Go.Sl.v_move rfl) ?_
      refine Go.Sl.kw_val rfl rfl (Go.Sl.v_move rfl) ?_
      refine Go.Sl.kw_bool 235 rfl (fun hc235 => ?_) (fun hc235 => ?_)
      refine Go.Sl.kw_val rfl rfl (Go.Sl.v_load rfl (Go.Sl.Var.atN Ty.ag33 (.there .here) Go.Sl.GetN.all (by first | rfl | assumption))) ?_
      refine Go.Sl.kw_val rfl rfl (Go.Sl.v_load rfl (Go.Sl.Var.atN Ty.ag33 (.there (.there (.there .here))) Go.Sl.GetN.all (by first | rfl | assumption))) ?_
      refine Go.Sl.kw_val rfl rfl (Go.Sl.v_neqA rfl rfl Ty.gt33 (eq8 hal hwf2.word)) ?_
      refine Go.Sl.kw_val rfl rfl (Go.Sl.v_pick_true rfl rfl) ?_
      refine Go.Sl.kw_val rfl rfl (Go.Sl.v_pick_false rfl rfl) ?_
      refine Go.Sl.kw_val rfl rfl (Go.Sl.v_move rfl) ?_
      refine Go.Sl.kw_dec 241 rfl (fun hc241 => ?_) (fun hc241 => ?_)
      refine Go.Sl.kw_skip rfl rfl ?_
      refine Go.Sl.kw_skip rfl rfl ?_
      refine Go.Sl.kw_skip rfl rfl ?_
      refine Go.Sl.kw_skip rfl rfl ?_
      refine Go.Sl.kw_skip rfl rfl ?_
      refine Go.Sl.kw_val rfl rfl (Go.Sl.v_pick_true rfl rfl) ?_
      refine Go.Sl.kw_val rfl rfl (Go.Sl.v_move rfl) ?_
      refine Go.Sl.kw_skip rfl rfl ?_
      refine Go.Sl.kw_skip rfl rfl ?_
      refine Go.Sl.kw_skip rfl rfl ?_
      refine Go.Sl.kw_skip rfl rfl ?_
      refine Go.Sl.kw_skip rfl rfl ?_
      refine Go.Sl.kw_skip rfl rfl ?_
      refine Go.Sl.kw_skip rfl rfl ?_
      refine Go.Sl.kw_skip rfl rfl ?_
      refine Go.Sl.kw_val rfl rfl (Go.Sl.v_pick_true rfl rfl) ?_
      refine Go.Sl.kw_val rfl rfl (Go.Sl.v_move rfl) ?_
      refine Go.Sl.kw_skip rfl rfl ?_
      refine Go.Sl.kw_skip rfl rfl ?_
      refine Go.Sl.kw_skip rfl rfl ?_
      refine Go.Sl.kw_skip rfl rfl ?_
      refine Go.Sl.kw_skip rfl rfl ?_
      refine Go.Sl.kw_skip rfl rfl ?_
      refine Go.Sl.kw_val rfl rfl (Go.Sl.v_pick_true rfl rfl) ?_
      refine Go.Sl.kw_nil ?_
      refine Go.Sl.xw_then ?_
      refine Go.Sl.cw_true rfl ?_
      refine Go.Sl.cw_seq ?_
      refine Go.Sl.cw_region ?_
      refine Go.Sl.ow_val rfl rfl (Go.Sl.v_assign rfl) ?_
      refine Go.Sl.ow_nil ?_
      refine Go.Sl.xw_then ?_
      refine Go.Sl.cw_ret ?_
      refine Go.Sl.xw_block_ret ?_
      refine Go.Sl.xw_then_ret ?_
      refine Go.Sl.xw_round_ret ?_
      refine Go.Sl.xw_block_ret ?_
      refine Go.Sl.xw_then_ret ?_
      refine Go.Sl.ret1 rfl (Go.Sl.res_tmp rfl) ?_
      rotate_left
      refine Go.Sl.kw_val rfl rfl (Go.Sl.v_move rfl) ?_
      refine Go.Sl.kw_val rfl rfl (Go.Sl.v_move rfl) ?_
      refine Go.Sl.kw_val rfl rfl (Go.Sl.v_len rfl Try.underlying32 rfl) ?_
      refine Go.Sl.kw_val rfl rfl (Go.Sl.v_gtr rfl rfl) ?_
      refine Go.Sl.kw_val rfl rfl (Go.Sl.v_neqB Try.underlying4 rfl rfl) ?_
      refine Go.Sl.kw_val rfl rfl (Go.Sl.v_pick_false rfl rfl) ?_
      refine Go.Sl.kw_val rfl rfl (Go.Sl.v_move rfl) ?_
      refine Go.Sl.kw_dec 248 rfl (fun hc248 => ?_) (fun hc248 => ?_)
      refine Go.Sl.kw_skip rfl rfl ?_
      refine Go.Sl.kw_skip rfl rfl ?_
      refine Go.Sl.kw_skip rfl rfl ?_
      refine Go.Sl.kw_skip rfl rfl ?_
      refine Go.Sl.kw_skip rfl rfl ?_
      refine Go.Sl.kw_skip rfl rfl ?_
      refine Go.Sl.kw_skip rfl rfl ?_
      refine Go.Sl.kw_skip rfl rfl ?_
      refine Go.Sl.kw_val rfl rfl (Go.Sl.v_pick_true rfl rfl) ?_
      refine Go.Sl.kw_val rfl rfl (Go.Sl.v_move rfl) ?_
      refine Go.Sl.kw_skip rfl rfl ?_
      refine Go.Sl.kw_skip rfl rfl ?_
      refine Go.Sl.kw_skip rfl rfl ?_
      refine Go.Sl.kw_skip rfl rfl ?_
      refine Go.Sl.kw_skip rfl rfl ?_
      refine Go.Sl.kw_skip rfl rfl ?_
      refine Go.Sl.kw_val rfl rfl (Go.Sl.v_pick_true rfl rfl) ?_
      refine Go.Sl.kw_nil ?_
      refine Go.Sl.xw_then ?_
      refine Go.Sl.cw_true rfl ?_
      refine Go.Sl.cw_seq ?_
      refine Go.Sl.cw_region ?_
      refine Go.Sl.ow_val rfl rfl (Go.Sl.v_assign rfl) ?_
      refine Go.Sl.ow_nil ?_
      refine Go.Sl.xw_then ?_
      refine Go.Sl.cw_ret ?_
      refine Go.Sl.xw_block_ret ?_
      refine Go.Sl.xw_then_ret ?_
      refine Go.Sl.xw_round_ret ?_
      refine Go.Sl.xw_block_ret ?_
      refine Go.Sl.xw_then_ret ?_
      refine Go.Sl.ret1 rfl (Go.Sl.res_tmp rfl) ?_
      rotate_left
      refine Go.Sl.kw_val rfl rfl (Go.Sl.v_move rfl) ?_
      refine Go.Sl.kw_val rfl rfl (Go.Sl.v_move rfl) ?_
      refine Go.Sl.kw_skip rfl rfl ?_
      refine Go.Sl.kw_skip rfl rfl ?_
      refine Go.Sl.kw_skip rfl rfl ?_
      refine Go.Sl.kw_skip rfl rfl ?_
      refine Go.Sl.kw_skip rfl rfl ?_
      refine Go.Sl.kw_val rfl rfl (Go.Sl.v_pick_false rfl rfl) ?_
      refine Go.Sl.kw_val rfl rfl (Go.Sl.v_pick_false rfl rfl) ?_
      refine Go.Sl.kw_val rfl rfl (Go.Sl.v_move rfl) ?_
      refine Go.Sl.kw_val rfl rfl (Go.Sl.v_move rfl) ?_
      refine Go.Sl.kw_val rfl rfl (Go.Sl.v_nilCheck rfl) ?_
      refine Go.Sl.kw_val rfl rfl (Go.Sl.v_fieldAddr0 Ty.fd42_0 rfl) ?_
      refine Go.Sl.kw_val rfl rfl (Go.Sl.v_load rfl (Go.Sl.Var.at1 Ty.sc26 (.there (.there (.there (.there .here)))) (PathM.g_number))) ?_
      refine Go.Sl.kw_val rfl rfl (Go.Sl.v_move rfl) ?_
      refine Go.Sl.kw_val rfl rfl (Go.Sl.v_neq rfl rfl) ?_
      refine Go.Sl.kw_val rfl rfl (Go.Sl.v_pick_false rfl rfl) ?_
      refine Go.Sl.kw_nil ?_
      refine Go.Sl.xw_then ?_
      refine Go.Sl.cw_dec rfl (fun hc265 => ?_) (fun hc265 => ?_)
      (exfalso; omega)
      refine Go.Sl.cw_skip ?_
      refine Go.Sl.xw_block ?_
      refine Go.Sl.xw_then ?_
      refine Go.Sl.cw_region ?_
      refine Go.Sl.ow_val rfl rfl (Go.Sl.v_add rfl rfl (Go.Sl.nw_i64 (by omega) (by omega))) ?_
      refine Go.Sl.ow_val rfl rfl (Go.Sl.v_move rfl) ?_
      refine Go.Sl.ow_nil ?_
      rotate_left
      refine Go.Sl.kw_skip rfl rfl ?_
      refine Go.Sl.kw_skip rfl rfl ?_
      refine Go.Sl.kw_skip rfl rfl ?_
      refine Go.Sl.kw_val rfl rfl (Go.Sl.v_pick_false rfl rfl) ?_
      refine Go.Sl.kw_val rfl rfl (Go.Sl.v_pick_false rfl rfl) ?_
      refine Go.Sl.kw_val rfl rfl (Go.Sl.v_move rfl) ?_
      refine Go.Sl.kw_val rfl rfl (Go.Sl.v_move rfl) ?_
      refine Go.Sl.kw_val rfl rfl (Go.Sl.v_move rfl) ?_
      refine Go.Sl.kw_val rfl rfl (Go.Sl.v_len rfl Try.underlying32 rfl) ?_
      refine Go.Sl.kw_val rfl rfl (Go.Sl.v_gtr rfl rfl) ?_
      refine Go.Sl.kw_val rfl rfl (Go.Sl.v_neqB Try.underlying4 rfl rfl) ?_
      refine Go.Sl.kw_val rfl rfl (Go.Sl.v_pick_false rfl rfl) ?_
      refine Go.Sl.kw_val rfl rfl (Go.Sl.v_move rfl) ?_
      refine Go.Sl.kw_dec 248 rfl (fun hc248 => ?_) (fun hc248 => ?_)
      refine Go.Sl.kw_skip rfl rfl ?_
      refine Go.Sl.kw_skip rfl rfl ?_
      refine Go.Sl.kw_skip rfl rfl ?_
      refine Go.Sl.kw_skip rfl rfl ?_
      refine Go.Sl.kw_skip rfl rfl ?_
      refine Go.Sl.kw_skip rfl rfl ?_
      refine Go.Sl.kw_skip rfl rfl ?_
      refine Go.Sl.kw_skip rfl rfl ?_
      refine Go.Sl.kw_val rfl rfl (Go.Sl.v_pick_true rfl rfl) ?_
      refine Go.Sl.kw_val rfl rfl (Go.Sl.v_move rfl) ?_
      refine Go.Sl.kw_skip rfl rfl ?_
      refine Go.Sl.kw_skip rfl rfl ?_
      refine Go.Sl.kw_skip rfl rfl ?_
      refine Go.Sl.kw_skip rfl rfl ?_
      refine Go.Sl.kw_skip rfl rfl ?_
      refine Go.Sl.kw_skip rfl rfl ?_
      refine Go.Sl.kw_val rfl rfl (Go.Sl.v_pick_true rfl rfl) ?_
      refine Go.Sl.kw_nil ?_
      refine Go.Sl.xw_then ?_
      refine Go.Sl.cw_true rfl ?_
      refine Go.Sl.cw_seq ?_
      refine Go.Sl.cw_region ?_
      refine Go.Sl.ow_val rfl rfl (Go.Sl.v_assign rfl) ?_
      refine Go.Sl.ow_nil ?_
      refine Go.Sl.xw_then ?_
      refine Go.Sl.cw_ret ?_
      refine Go.Sl.xw_block_ret ?_
      refine Go.Sl.xw_then_ret ?_
      refine Go.Sl.xw_round_ret ?_
      refine Go.Sl.xw_block_ret ?_
      refine Go.Sl.xw_then_ret ?_
      refine Go.Sl.ret1 rfl (Go.Sl.res_tmp rfl) ?_
      rotate_left
      refine Go.Sl.kw_val rfl rfl (Go.Sl.v_move rfl) ?_
      refine Go.Sl.kw_val rfl rfl (Go.Sl.v_move rfl) ?_
      refine Go.Sl.kw_skip rfl rfl ?_
      refine Go.Sl.kw_skip rfl rfl ?_
      refine Go.Sl.kw_skip rfl rfl ?_
      refine Go.Sl.kw_skip rfl rfl ?_
      refine Go.Sl.kw_skip rfl rfl ?_
      refine Go.Sl.kw_val rfl rfl (Go.Sl.v_pick_false rfl rfl) ?_
      refine Go.Sl.kw_val rfl rfl (Go.Sl.v_pick_false rfl rfl) ?_
      refine Go.Sl.kw_val rfl rfl (Go.Sl.v_move rfl) ?_
      refine Go.Sl.kw_val rfl rfl (Go.Sl.v_move rfl) ?_
      refine Go.Sl.kw_val rfl rfl (Go.Sl.v_nilCheck rfl) ?_
      refine Go.Sl.kw_val rfl rfl (Go.Sl.v_fieldAddr0 Ty.fd42_0 rfl) ?_
      refine Go.Sl.kw_val rfl rfl (Go.Sl.v_load rfl (Go.Sl.Var.at1 Ty.sc26 (.there (.there (.there (.there .here)))) (PathM.g_number))) ?_
      refine Go.Sl.kw_val rfl rfl (Go.Sl.v_move rfl) ?_
      refine Go.Sl.kw_val rfl rfl (Go.Sl.v_neq rfl rfl) ?_
      refine Go.Sl.kw_val rfl rfl (Go.Sl.v_pick_false rfl rfl) ?_
      refine Go.Sl.kw_nil ?_
      refine Go.Sl.xw_then ?_
      refine Go.Sl.cw_dec rfl (fun hc265 => ?_) (fun hc265 => ?_)
      (exfalso; omega)
      refine Go.Sl.cw_skip ?_
      refine Go.Sl.xw_block ?_
      refine Go.Sl.xw_then ?_
      refine Go.Sl.cw_region ?_
      refine Go.Sl.ow_val rfl rfl (Go.Sl.v_add rfl rfl (Go.Sl.nw_i64 (by omega) (by omega))) ?_
      refine Go.Sl.ow_val rfl rfl (Go.Sl.v_move rfl) ?_
      refine Go.Sl.ow_nil ?_
      rotate_left
      refine Go.Sl.kw_skip rfl rfl ?_
      refine Go.Sl.kw_val rfl rfl (Go.Sl.v_pick_false rfl rfl) ?_
      refine Go.Sl.kw_val rfl rfl (Go.Sl.v_neqB Try.underlying4 rfl rfl) ?_
      refine Go.Sl.kw_val rfl rfl (Go.Sl.v_pick_false rfl rfl) ?_
      refine Go.Sl.kw_val rfl rfl (Go.Sl.v_move rfl) ?_
      refine Go.Sl.kw_dec 233 rfl (fun hc233 => ?_) (fun hc233 => ?_)
      refine Go.Sl.kw_skip rfl rfl ?_
      refine Go.Sl.kw_skip rfl rfl ?_
      refine Go.Sl.kw_skip rfl rfl ?_
      refine Go.Sl.kw_skip rfl rfl ?_
      refine Go.Sl.kw_skip rfl rfl ?_
      refine Go.Sl.kw_skip rfl rfl ?_
      refine Go.Sl.kw_val rfl rfl (Go.Sl.v_pick_true rfl rfl) ?_
      refine Go.Sl.kw_val rfl rfl (Go.Sl.v_move rfl) ?_
      refine Go.Sl.kw_skip rfl rfl ?_
      refine Go.Sl.kw_skip rfl rfl ?_
      refine Go.Sl.kw_skip rfl rfl ?_
      refine Go.Sl.kw_skip rfl rfl ?_
      refine Go.Sl.kw_skip rfl rfl ?_
      refine Go.Sl.kw_val rfl rfl (Go.Sl.v_pick_true rfl rfl) ?_
      refine Go.Sl.kw_val rfl rfl (Go.Sl.v_move rfl) ?_
      refine Go.Sl.kw_skip rfl rfl ?_
      refine Go.Sl.kw_skip rfl rfl ?_
      refine Go.Sl.kw_skip rfl rfl ?_
      refine Go.Sl.kw_skip rfl rfl ?_
      refine Go.Sl.kw_skip rfl rfl ?_
      refine Go.Sl.kw_skip rfl rfl ?_
      refine Go.Sl.kw_skip rfl rfl ?_
      refine Go.Sl.kw_skip rfl rfl ?_
      refine Go.Sl.kw_val rfl rfl (Go.Sl.v_pick_true rfl rfl) ?_
      refine Go.Sl.kw_val rfl rfl (Go.Sl.v_move rfl) ?_
      refine Go.Sl.kw_skip rfl rfl ?_
      refine Go.Sl.kw_skip rfl rfl ?_
      refine Go.Sl.kw_skip rfl rfl ?_
      refine Go.Sl.kw_skip rfl rfl ?_
      refine Go.Sl.kw_skip rfl rfl ?_
      refine Go.Sl.kw_skip rfl rfl ?_
      refine Go.Sl.kw_val rfl rfl (Go.Sl.v_pick_true rfl rfl) ?_
      refine Go.Sl.kw_nil ?_
      refine Go.Sl.xw_then ?_
      refine Go.Sl.cw_true rfl ?_
      refine Go.Sl.cw_seq ?_
      refine Go.Sl.cw_region ?_
      refine Go.Sl.ow_val rfl rfl (Go.Sl.v_assign rfl) ?_
      refine Go.Sl.ow_nil ?_
      refine Go.Sl.xw_then ?_
      refine Go.Sl.cw_ret ?_
      refine Go.Sl.xw_block_ret ?_
      refine Go.Sl.xw_then_ret ?_
      refine Go.Sl.xw_round_ret ?_
      refine Go.Sl.xw_block_ret ?_
      refine Go.Sl.xw_then_ret ?_
      refine Go.Sl.ret1 rfl (Go.Sl.res_tmp rfl) ?_
      rotate_left
      refine Go.Sl.kw_val rfl rfl (Go.Sl.v_move rfl) ?_
      refine Go.Sl.kw_val rfl rfl (Go.Sl.v_move rfl) ?_
      refine Go.Sl.kw_bool 235 rfl (fun hc235 => ?_) (fun hc235 => ?_)
      refine Go.Sl.kw_val rfl rfl (Go.Sl.v_load rfl (Go.Sl.Var.atN Ty.ag33 (.there .here) Go.Sl.GetN.all (by first | rfl | assumption))) ?_
      refine Go.Sl.kw_val rfl rfl (Go.Sl.v_load rfl (Go.Sl.Var.atN Ty.ag33 (.there (.there (.there .here))) Go.Sl.GetN.all (by first | rfl | assumption))) ?_
      refine Go.Sl.kw_val rfl rfl (Go.Sl.v_neqA rfl rfl Ty.gt33 (eq8 hal hwf2.word)) ?_
      refine Go.Sl.kw_val rfl rfl (Go.Sl.v_pick_true rfl rfl) ?_
      refine Go.Sl.kw_val rfl rfl (Go.Sl.v_pick_false rfl rfl) ?_
      refine Go.Sl.kw_val rfl rfl (Go.Sl.v_move rfl) ?_
      refine Go.Sl.kw_dec 241 rfl (fun hc241 => ?_) (fun hc241 => ?_)
      refine Go.Sl.kw_skip rfl rfl ?_
      refine Go.Sl.kw_skip rfl rfl ?_
      refine Go.Sl.kw_skip rfl rfl ?_
      refine Go.Sl.kw_skip rfl rfl ?_
      refine Go.Sl.kw_skip rfl rfl ?_
      refine Go.Sl.kw_val rfl rfl (Go.Sl.v_pick_true rfl rfl) ?_
      refine Go.Sl.kw_val rfl rfl (Go.Sl.v_move rfl) ?_
      refine Go.Sl.kw_skip rfl rfl ?_
      refine Go.Sl.kw_skip rfl rfl ?_
      refine Go.Sl.kw_skip rfl rfl ?_
      refine Go.Sl.kw_skip rfl rfl ?_
      refine Go.Sl.kw_skip rfl rfl ?_
      refine Go.Sl.kw_skip rfl rfl ?_
      refine Go.Sl.kw_skip rfl rfl ?_
      refine Go.Sl.kw_skip rfl rfl ?_
      refine Go.Sl.kw_val rfl rfl (Go.Sl.v_pick_true rfl rfl) ?_
      refine Go.Sl.kw_val rfl rfl (Go.Sl.v_move rfl) ?_
      refine Go.Sl.kw_skip rfl rfl ?_
      refine Go.Sl.kw_skip rfl rfl ?_
      refine Go.Sl.kw_skip rfl rfl ?_
      refine Go.Sl.kw_skip rfl rfl ?_
      refine Go.Sl.kw_skip rfl rfl ?_
      refine Go.Sl.kw_skip rfl rfl ?_
      refine Go.Sl.kw_val rfl rfl (Go.Sl.v_pick_true rfl rfl) ?_
      refine Go.Sl.kw_nil ?_
      refine Go.Sl.xw_then ?_
      refine Go.Sl.cw_true rfl ?_
      refine Go.Sl.cw_seq ?_
      refine Go.Sl.cw_region ?_
      refine Go.Sl.ow_val rfl rfl (Go.Sl.v_assign rfl) ?_
      refine Go.Sl.ow_nil ?_
      refine Go.Sl.xw_then ?_
      refine Go.Sl.cw_ret ?_
      refine Go.Sl.xw_block_ret ?_
      refine Go.Sl.xw_then_ret ?_
      refine Go.Sl.xw_round_ret ?_
      refine Go.Sl.xw_block_ret ?_
      refine Go.Sl.xw_then_ret ?_
      refine Go.Sl.ret1 rfl (Go.Sl.res_tmp rfl) ?_
      rotate_left
      refine Go.Sl.kw_val rfl rfl (Go.Sl.v_move rfl) ?_
      refine Go.Sl.kw_val rfl rfl (Go.Sl.v_move rfl) ?_
      refine Go.Sl.kw_val rfl rfl (Go.Sl.v_len rfl Try.underlying32 rfl) ?_
      refine Go.Sl.kw_val rfl rfl (Go.Sl.v_gtr rfl rfl) ?_
      refine Go.Sl.kw_val rfl rfl (Go.Sl.v_neqB Try.underlying4 rfl rfl) ?_
      refine Go.Sl.kw_val rfl rfl (Go.Sl.v_pick_false rfl rfl) ?_
      refine Go.Sl.kw_val rfl rfl (Go.Sl.v_move rfl) ?_
      refine Go.Sl.kw_dec 248 rfl (fun hc248 => ?_) (fun hc248 => ?_)
      refine Go.Sl.kw_skip rfl rfl ?_
      refine Go.Sl.kw_skip rfl rfl ?_
      refine Go.Sl.kw_skip rfl rfl ?_
      refine Go.Sl.kw_skip rfl rfl ?_
      refine Go.Sl.kw_skip rfl rfl ?_
      refine Go.Sl.kw_skip rfl rfl ?_
      refine Go.Sl.kw_skip rfl rfl ?_
      refine Go.Sl.kw_skip rfl rfl ?_
      refine Go.Sl.kw_val rfl rfl (Go.Sl.v_pick_true rfl rfl) ?_
      refine Go.Sl.kw_val rfl rfl (Go.Sl.v_move rfl) ?_
      refine Go.Sl.kw_skip rfl rfl ?_
      refine Go.Sl.kw_skip rfl rfl ?_
      refine Go.Sl.kw_skip rfl rfl ?_
      refine Go.Sl.kw_skip rfl rfl ?_
      refine Go.Sl.kw_skip rfl rfl ?_
      refine Go.Sl.kw_skip rfl rfl ?_
      refine Go.Sl.kw_val rfl rfl (Go.Sl.v_pick_true rfl rfl) ?_
      refine Go.Sl.kw_nil ?_
      refine Go.Sl.xw_then ?_
      refine Go.Sl.cw_true rfl ?_
      refine Go.Sl.cw_seq ?_
      refine Go.Sl.cw_region ?_
      refine Go.Sl.ow_val rfl rfl (Go.Sl.v_assign rfl) ?_
      refine Go.Sl.ow_nil ?_
      refine Go.Sl.xw_then ?_
      refine Go.Sl.cw_ret ?_
      refine Go.Sl.xw_block_ret ?_
      refine Go.Sl.xw_then_ret ?_
      refine Go.Sl.xw_round_ret ?_
      refine Go.Sl.xw_block_ret ?_
      refine Go.Sl.xw_then_ret ?_
      refine Go.Sl.ret1 rfl (Go.Sl.res_tmp rfl) ?_
      rotate_left
      refine Go.Sl.kw_val rfl rfl (Go.Sl.v_move rfl) ?_
      refine Go.Sl.kw_val rfl rfl (Go.Sl.v_move rfl) ?_
      refine Go.Sl.kw_skip rfl rfl ?_
      refine Go.Sl.kw_skip rfl rfl ?_
      refine Go.Sl.kw_skip rfl rfl ?_
      refine Go.Sl.kw_skip rfl rfl ?_
      refine Go.Sl.kw_skip rfl rfl ?_
      refine Go.Sl.kw_val rfl rfl (Go.Sl.v_pick_false rfl rfl) ?_
      refine Go.Sl.kw_val rfl rfl (Go.Sl.v_pick_false rfl rfl) ?_
      refine Go.Sl.kw_val rfl rfl (Go.Sl.v_move rfl) ?_
      refine Go.Sl.kw_val rfl rfl (Go.Sl.v_move rfl) ?_
      refine Go.Sl.kw_val rfl rfl (Go.Sl.v_nilCheck rfl) ?_
      refine Go.Sl.kw_val rfl rfl (Go.Sl.v_fieldAddr0 Ty.fd42_0 rfl) ?_
      refine Go.Sl.kw_val rfl rfl (Go.Sl.v_load rfl (Go.Sl.Var.at1 Ty.sc26 (.there (.there (.there (.there .here)))) (PathM.g_number))) ?_
      refine Go.Sl.kw_val rfl rfl (Go.Sl.v_move rfl) ?_
      refine Go.Sl.kw_val rfl rfl (Go.Sl.v_neq rfl rfl) ?_
      refine Go.Sl.kw_val rfl rfl (Go.Sl.v_pick_false rfl rfl) ?_
      refine Go.Sl.kw_nil ?_
      refine Go.Sl.xw_then ?_
      refine Go.Sl.cw_dec rfl (fun hc265 => ?_) (fun hc265 => ?_)
      (exfalso; omega)
      refine Go.Sl.cw_skip ?_
      refine Go.Sl.xw_block ?_
      refine Go.Sl.xw_then ?_
      refine Go.Sl.cw_region ?_
      refine Go.Sl.ow_val rfl rfl (Go.Sl.v_add rfl rfl (Go.Sl.nw_i64 (by omega) (by omega))) ?_
      refine Go.Sl.ow_val rfl rfl (Go.Sl.v_move rfl) ?_
      refine Go.Sl.ow_nil ?_
      rotate_left
      refine Go.Sl.kw_skip rfl rfl ?_
      refine Go.Sl.kw_skip rfl rfl ?_
      refine Go.Sl.kw_skip rfl rfl ?_
      refine Go.Sl.kw_val rfl rfl (Go.Sl.v_pick_false rfl rfl) ?_
      refine Go.Sl.kw_val rfl rfl (Go.Sl.v_pick_false rfl rfl) ?_
      refine Go.Sl.kw_val rfl rfl (Go.Sl.v_move rfl) ?_
      refine Go.Sl.kw_val rfl rfl (Go.Sl.v_move rfl) ?_
      refine Go.Sl.kw_val rfl rfl (Go.Sl.v_move rfl) ?_
      refine Go.Sl.kw_val rfl rfl (Go.Sl.v_len rfl Try.underlying32 rfl) ?_
      refine Go.Sl.kw_val rfl rfl (Go.Sl.v_gtr rfl rfl) ?_
      refine Go.Sl.kw_val rfl rfl (Go.Sl.v_neqB Try.underlying4 rfl rfl) ?_
      refine Go.Sl.kw_val rfl rfl (Go.Sl.v_pick_false rfl rfl) ?_
      refine Go.Sl.kw_val rfl rfl (Go.Sl.v_move rfl) ?_
      refine Go.Sl.kw_dec 248 rfl (fun hc248 => ?_) (fun hc248 => ?_)
      refine Go.Sl.kw_skip rfl rfl ?_
      refine Go.Sl.kw_skip rfl rfl ?_
      refine Go.Sl.kw_skip rfl rfl ?_
      refine Go.Sl.kw_skip rfl rfl ?_
      refine Go.Sl.kw_skip rfl rfl ?_
      refine Go.Sl.kw_skip rfl rfl ?_
      refine Go.Sl.kw_skip rfl rfl ?_
      refine Go.Sl.kw_skip rfl rfl ?_
      refine Go.Sl.kw_val rfl rfl (Go.Sl.v_pick_true rfl rfl) ?_
      refine Go.Sl.kw_val rfl rfl (Go.Sl.v_move rfl) ?_
      refine Go.Sl.kw_skip rfl rfl ?_
      refine Go.Sl.kw_skip rfl rfl ?_
      refine Go.Sl.kw_skip rfl rfl ?_
      refine Go.Sl.kw_skip rfl rfl ?_
      refine Go.Sl.kw_skip rfl rfl ?_
      refine Go.Sl.kw_skip rfl rfl ?_
      refine Go.Sl.kw_val rfl rfl (Go.Sl.v_pick_true rfl rfl) ?_
      refine Go.Sl.kw_nil ?_
      refine Go.Sl.xw_then ?_
      refine Go.Sl.cw_true rfl ?_
      refine Go.Sl.cw_seq ?_
      refine Go.Sl.cw_region ?_
      refine Go.Sl.ow_val rfl rfl (Go.Sl.v_assign rfl) ?_
      refine Go.Sl.ow_nil ?_
      refine Go.Sl.xw_then ?_
      refine Go.Sl.cw_ret ?_
      refine Go.Sl.xw_block_ret ?_
      refine Go.Sl.xw_then_ret ?_
      refine Go.Sl.xw_round_ret ?_
      refine Go.Sl.xw_block_ret ?_
      refine Go.Sl.xw_then_ret ?_
      refine Go.Sl.ret1 rfl (Go.Sl.res_tmp rfl) ?_
      rotate_left
      refine Go.Sl.kw_val rfl rfl (Go.Sl.v_move rfl) ?_
      refine Go.Sl.kw_val rfl rfl (Go.Sl.v_move rfl) ?_
      refine Go.Sl.kw_skip rfl rfl ?_
      refine Go.Sl.kw_skip rfl rfl ?_
      refine Go.Sl.kw_skip rfl rfl ?_
      refine Go.Sl.kw_skip rfl rfl ?_
      refine Go.Sl.kw_skip rfl rfl ?_
      refine Go.Sl.kw_val rfl rfl (Go.Sl.v_pick_false rfl rfl) ?_
      refine Go.Sl.kw_val rfl rfl (Go.Sl.v_pick_false rfl rfl) ?_
      refine Go.Sl.kw_val rfl rfl (Go.Sl.v_move rfl) ?_
      refine Go.Sl.kw_val rfl rfl (Go.Sl.v_move rfl) ?_
      refine Go.Sl.kw_val rfl rfl (Go.Sl.v_nilCheck rfl) ?_
      refine Go.Sl.kw_val rfl rfl (Go.Sl.v_fieldAddr0 Ty.fd42_0 rfl) ?_
      refine Go.Sl.kw_val rfl rfl (Go.Sl.v_load rfl (Go.Sl.Var.at1 Ty.sc26 (.there (.there (.there (.there .here)))) (PathM.g_number))) ?_
      refine Go.Sl.kw_val rfl rfl (Go.Sl.v_move rfl) ?_
      refine Go.Sl.kw_val rfl rfl (Go.Sl.v_neq rfl rfl) ?_
      refine Go.Sl.kw_val rfl rfl (Go.Sl.v_pick_false rfl rfl) ?_
      refine Go.Sl.kw_nil ?_
      refine Go.Sl.xw_then ?_
      refine Go.Sl.cw_dec rfl (fun hc265 => ?_) (fun hc265 => ?_)
      (exfalso; omega)
      refine Go.Sl.cw_skip ?_
      refine Go.Sl.xw_block ?_
      refine Go.Sl.xw_then ?_
      refine Go.Sl.cw_region ?_
      refine Go.Sl.ow_val rfl rfl (Go.Sl.v_add rfl rfl (Go.Sl.nw_i64 (by omega) (by omega))) ?_
      refine Go.Sl.ow_val rfl rfl (Go.Sl.v_move rfl) ?_
      refine Go.Sl.ow_nil ?_
      rotate_left
      refine Go.Sl.cw_skip ?_
      refine Go.Sl.xw_then ?_
      refine Go.Sl.cw_seq ?_
      refine Go.Sl.cw_quiet Ty.mixed (by decide +kernel) ?_
      dsimp only [List.append]
      refine Go.Sl.kw_val rfl rfl (Go.Sl.v_move rfl) ?_
      refine Go.Sl.kw_val rfl rfl (Go.Sl.v_nilCheck rfl) ?_
      refine Go.Sl.kw_val rfl rfl (Go.Sl.v_fieldAddr0 Ty.fd42_1 rfl) ?_
      refine Go.Sl.kw_val rfl rfl (Go.Sl.v_load rfl (Go.Sl.Var.at1 Ty.sc39 (.there (.there (.there (.there .here)))) (PathM.g_state))) ?_
      refine Go.Sl.kw_val rfl rfl (Go.Sl.v_move rfl) ?_
      refine Go.Sl.kw_val rfl rfl (Go.Sl.v_neq rfl rfl) ?_
      refine Go.Sl.kw_val rfl rfl (Go.Sl.v_move rfl) ?_
      refine Go.Sl.kw_dec 202 rfl (fun hc202 => ?_) (fun hc202 => ?_)
      (exfalso; omega)
      refine Go.Sl.kw_val rfl rfl (Go.Sl.v_move rfl) ?_
      refine Go.Sl.kw_val rfl rfl (Go.Sl.v_nilCheck rfl) ?_
      refine Go.Sl.kw_val rfl rfl (Go.Sl.v_fieldAddr0 Ty.fd42_2 rfl) ?_
      refine Go.Sl.kw_val rfl rfl (Go.Sl.v_load rfl (Go.Sl.Var.at1 Ty.sc26 (.there (.there (.there (.there .here)))) (PathM.g_inn))) ?_
      refine Go.Sl.kw_val rfl rfl (Go.Sl.v_move rfl) ?_
      refine Go.Sl.kw_val rfl rfl (Go.Sl.v_neq rfl rfl) ?_
      refine Go.Sl.kw_val rfl rfl (Go.Sl.v_pick_false rfl rfl) ?_
      refine Go.Sl.kw_val rfl rfl (Go.Sl.v_move rfl) ?_
      refine Go.Sl.kw_dec 210 rfl (fun hc210 => ?_) (fun hc210 => ?_)
      (exfalso; omega)
      refine Go.Sl.kw_val rfl rfl (Go.Sl.v_move rfl) ?_
      refine Go.Sl.kw_val rfl rfl (Go.Sl.v_nilCheck rfl) ?_
      refine Go.Sl.kw_val rfl rfl (Go.Sl.v_fieldAddr0 Ty.fd42_3 rfl) ?_
      refine Go.Sl.kw_val rfl rfl (Go.Sl.v_load rfl (Go.Sl.Var.at1 Ty.sc26 (.there (.there (.there (.there .here)))) (PathM.g_out))) ?_
      refine Go.Sl.kw_val rfl rfl (Go.Sl.v_move rfl) ?_
      refine Go.Sl.kw_val rfl rfl (Go.Sl.v_neq rfl rfl) ?_
      refine Go.Sl.kw_val rfl rfl (Go.Sl.v_pick_false rfl rfl) ?_
      refine Go.Sl.kw_val rfl rfl (Go.Sl.v_move rfl) ?_
      refine Go.Sl.kw_dec 218 rfl (fun hc218 => ?_) (fun hc218 => ?_)
      (exfalso; omega)
      refine Go.Sl.kw_val rfl rfl (Go.Sl.v_move rfl) ?_
      refine Go.Sl.kw_val rfl rfl (Go.Sl.v_call rfl rfl (Go.Sl.Fn.c1r (.there (.there (.there (.there .here)))) (room_c hwf2))) ?_
      refine Go.Sl.kw_val rfl rfl (Go.Sl.v_move rfl) ?_
      refine Go.Sl.kw_val rfl rfl (Go.Sl.v_neq rfl rfl) ?_
      refine Go.Sl.kw_val rfl rfl (Go.Sl.v_pick_false rfl rfl) ?_
      refine Go.Sl.kw_val rfl rfl (Go.Sl.v_move rfl) ?_
      refine Go.Sl.kw_dec 224 rfl (fun hc224 => ?_) (fun hc224 => ?_)
      (exfalso; omega)
      refine Go.Sl.kw_val rfl rfl (Go.Sl.v_move rfl) ?_
      refine Go.Sl.kw_val rfl rfl (Go.Sl.v_move rfl) ?_
      refine Go.Sl.kw_val rfl rfl (Go.Sl.v_eql rfl rfl) ?_
      refine Go.Sl.kw_val rfl rfl (Go.Sl.v_move rfl) ?_
      refine Go.Sl.kw_dec 228 rfl (fun hc228 => ?_) (fun hc228 => ?_)
      (exfalso; omega)
      refine Go.Sl.kw_skip rfl rfl ?_
      refine Go.Sl.kw_val rfl rfl (Go.Sl.v_pick_false rfl rfl) ?_
      refine Go.Sl.kw_val rfl rfl (Go.Sl.v_neqB Try.underlying4 rfl rfl) ?_
      refine Go.Sl.kw_val rfl rfl (Go.Sl.v_pick_false rfl rfl) ?_
      refine Go.Sl.kw_val rfl rfl (Go.Sl.v_move rfl) ?_
      refine Go.Sl.kw_dec 233 rfl (fun hc233 => ?_) (fun hc233 => ?_)
      refine Go.Sl.kw_skip rfl rfl ?_
      refine Go.Sl.kw_skip rfl rfl ?_
      refine Go.Sl.kw_skip rfl rfl ?_
      refine Go.Sl.kw_skip rfl rfl ?_
      refine Go.Sl.kw_skip rfl rfl ?_
      refine Go.Sl.kw_skip rfl rfl ?_
      refine Go.Sl.kw_val rfl rfl (Go.Sl.v_pick_true rfl rfl) ?_
      refine Go.Sl.kw_val rfl rfl (Go.Sl.v_move rfl) ?_
      refine Go.Sl.kw_skip rfl rfl ?_
      refine Go.Sl.kw_skip rfl rfl ?_
      refine Go.Sl.kw_skip rfl rfl ?_
      refine Go.Sl.kw_skip rfl rfl ?_
      refine Go.Sl.kw_skip rfl rfl ?_
      refine Go.Sl.kw_val rfl rfl (Go.Sl.v_pick_true rfl rfl) ?_
      refine Go.Sl.kw_val rfl rfl (Go.Sl.v_move rfl) ?_
      refine Go.Sl.kw_skip rfl rfl ?_
      refine Go.Sl.kw_skip rfl rfl ?_
      refine Go.Sl.kw_skip rfl rfl ?_
      refine Go.Sl.kw_skip rfl rfl ?_
      refine Go.Sl.kw_skip rfl rfl ?_
      refine Go.Sl.kw_skip rfl rfl ?_
      refine Go.Sl.kw_skip rfl rfl ?_
      refine Go.Sl.kw_skip rfl rfl ?_
      refine Go.Sl.kw_val rfl rfl (Go.Sl.v_pick_true rfl rfl) ?_
      refine Go.Sl.kw_val rfl rfl (Go.Sl.v_move rfl) ?_
      refine Go.Sl.kw_skip rfl rfl ?_
      refine Go.Sl.kw_skip rfl rfl ?_
      refine Go.Sl.kw_skip rfl rfl ?_
      refine Go.Sl.kw_skip rfl rfl ?_
      refine Go.Sl.kw_skip rfl rfl ?_
      refine Go.Sl.kw_skip rfl rfl ?_
      refine Go.Sl.kw_val rfl rfl (Go.Sl.v_pick_true rfl rfl) ?_
      refine Go.Sl.kw_nil ?_
      refine Go.Sl.xw_then ?_
      refine Go.Sl.cw_true rfl ?_
      refine Go.Sl.cw_seq ?_
      refine Go.Sl.cw_region ?_
      refine Go.Sl.ow_val rfl rfl (Go.Sl.v_assign rfl) ?_
      refine Go.Sl.ow_nil ?_
      refine Go.Sl.xw_then ?_
      refine Go.Sl.cw_ret ?_
      refine Go.Sl.xw_block_ret ?_
      refine Go.Sl.xw_then_ret ?_
      refine Go.Sl.xw_round_ret ?_
      refine Go.Sl.xw_block_ret ?_
      refine Go.Sl.xw_then_ret ?_
      refine Go.Sl.ret1 rfl (Go.Sl.res_tmp rfl) ?_
      rotate_left
      refine Go.Sl.kw_val rfl rfl (Go.Sl.v_move rfl) ?_
      refine Go.Sl.kw_val rfl rfl (Go.Sl.v_move rfl) ?_
      refine Go.Sl.kw_bool 235 rfl (fun hc235 => ?_) (fun hc235 => ?_)
      refine Go.Sl.kw_val rfl rfl (Go.Sl.v_load rfl (Go.Sl.Var.atN Ty.ag33 (.there .here) Go.Sl.GetN.all (by first | rfl | assumption))) ?_
      refine Go.Sl.kw_val rfl rfl (Go.Sl.v_load rfl (Go.Sl.Var.atN Ty.ag33 (.there (.there (.there .here))) Go.Sl.GetN.all (by first | rfl | assumption))) ?_
      refine Go.Sl.kw_val rfl rfl (Go.Sl.v_neqA rfl rfl Ty.gt33 (eq8 hal hwf2.word)) ?_
      refine Go.Sl.kw_val rfl rfl (Go.Sl.v_pick_true rfl rfl) ?_
      refine Go.Sl.kw_val rfl rfl (Go.Sl.v_pick_false rfl rfl) ?_
      refine Go.Sl.kw_val rfl rfl (Go.Sl.v_move rfl) ?_
      refine Go.Sl.kw_dec 241 rfl (fun hc241 => ?_) (fun hc241 => ?_)
      refine Go.Sl.kw_skip rfl rfl ?_
      refine Go.Sl.kw_skip rfl rfl ?_
      refine Go.Sl.kw_skip rfl rfl ?_
      refine Go.Sl.kw_skip rfl rfl ?_
      refine Go.Sl.kw_skip rfl rfl ?_
      refine Go.Sl.kw_val rfl rfl (Go.Sl.v_pick_true rfl rfl) ?_
      refine Go.Sl.kw_val rfl rfl (Go.Sl.v_move rfl) ?_
      refine Go.Sl.kw_skip rfl rfl ?_
      refine Go.Sl.kw_skip rfl rfl ?_
      refine Go.Sl.kw_skip rfl rfl ?_
      refine Go.Sl.kw_skip rfl rfl ?_
      refine Go.Sl.kw_skip rfl rfl ?_
      refine Go.Sl.kw_skip rfl rfl ?_
      refine Go.Sl.kw_skip rfl rfl ?_
      refine Go.Sl.kw_skip rfl rfl ?_
      refine Go.Sl.kw_val rfl rfl (Go.Sl.v_pick_true rfl rfl) ?_
      refine Go.Sl.kw_val rfl rfl (Go.Sl.v_move rfl) ?_
      refine Go.Sl.kw_skip rfl rfl ?_
      refine Go.Sl.kw_skip rfl rfl ?_
      refine Go.Sl.kw_skip rfl rfl ?_
      refine Go.Sl.kw_skip rfl rfl ?_
      refine Go.Sl.kw_skip rfl rfl ?_
      refine Go.Sl.kw_skip rfl rfl ?_
      refine Go.Sl.kw_val rfl rfl (Go.Sl.v_pick_true rfl rfl) ?_
      refine Go.Sl.kw_nil ?_
      refine Go.Sl.xw_then ?_
      refine Go.Sl.cw_true rfl ?_
      refine Go.Sl.cw_seq ?_
      refine Go.Sl.cw_region ?_
      refine Go.Sl.ow_val rfl rfl (Go.Sl.v_assign rfl) ?_
      refine Go.Sl.ow_nil ?_
      refine Go.Sl.xw_then ?_
      refine Go.Sl.cw_ret ?_
      refine Go.Sl.xw_block_ret ?_
      refine Go.Sl.xw_then_ret ?_
      refine Go.Sl.xw_round_ret ?_
      refine Go.Sl.xw_block_ret ?_
      refine Go.Sl.xw_then_ret ?_
      refine Go.Sl.ret1 rfl (Go.Sl.res_tmp rfl) ?_
      rotate_left
      refine Go.Sl.kw_val rfl rfl (Go.Sl.v_move rfl) ?_
      refine Go.Sl.kw_val rfl rfl (Go.Sl.v_move rfl) ?_
      refine Go.Sl.kw_val rfl rfl (Go.Sl.v_len rfl Try.underlying32 rfl) ?_
      refine Go.Sl.kw_val rfl rfl (Go.Sl.v_gtr rfl rfl) ?_
      refine Go.Sl.kw_val rfl rfl (Go.Sl.v_neqB Try.underlying4 rfl rfl) ?_
      refine Go.Sl.kw_val rfl rfl (Go.Sl.v_pick_false rfl rfl) ?_
      refine Go.Sl.kw_val rfl rfl (Go.Sl.v_move rfl) ?_
      refine Go.Sl.kw_dec 248 rfl (fun hc248 => ?_) (fun hc248 => ?_)
      refine Go.Sl.kw_skip rfl rfl ?_
      refine Go.Sl.kw_skip rfl rfl ?_
      refine Go.Sl.kw_skip rfl rfl ?_
      refine Go.Sl.kw_skip rfl rfl ?_
      refine Go.Sl.kw_skip rfl rfl ?_
      refine Go.Sl.kw_skip rfl rfl ?_
      refine Go.Sl.kw_skip rfl rfl ?_
      refine Go.Sl.kw_skip rfl rfl ?_
      refine Go.Sl.kw_val rfl rfl (Go.Sl.v_pick_true rfl rfl) ?_
      refine Go.Sl.kw_val rfl rfl (Go.Sl.v_move rfl) ?_
      refine Go.Sl.kw_skip rfl rfl ?_
      refine Go.Sl.kw_skip rfl rfl ?_
      refine Go.Sl.kw_skip rfl rfl ?_
      refine Go.Sl.kw_skip rfl rfl ?_
      refine Go.Sl.kw_skip rfl rfl ?_
      refine Go.Sl.kw_skip rfl rfl ?_
      refine Go.Sl.kw_val rfl rfl (Go.Sl.v_pick_true rfl rfl) ?_
      refine Go.Sl.kw_nil ?_
      refine Go.Sl.xw_then ?_
      refine Go.Sl.cw_true rfl ?_
      refine Go.Sl.cw_seq ?_
      refine Go.Sl.cw_region ?_
      refine Go.Sl.ow_val rfl rfl (Go.Sl.v_assign rfl) ?_
      refine Go.Sl.ow_nil ?_
      refine Go.Sl.xw_then ?_
      refine Go.Sl.cw_ret ?_
      refine Go.Sl.xw_block_ret ?_
      refine Go.Sl.xw_then_ret ?_
      refine Go.Sl.xw_round_ret ?_
      refine Go.Sl.xw_block_ret ?_
      refine Go.Sl.xw_then_ret ?_
      refine Go.Sl.ret1 rfl (Go.Sl.res_tmp rfl) ?_
      rotate_left
      refine Go.Sl.kw_val rfl rfl (Go.Sl.v_move rfl) ?_
      refine Go.Sl.kw_val rfl rfl (Go.Sl.v_move rfl) ?_
      refine Go.Sl.kw_skip rfl rfl ?_
      refine Go.Sl.kw_skip rfl rfl ?_
      refine Go.Sl.kw_skip rfl rfl ?_
      refine Go.Sl.kw_skip rfl rfl ?_
      refine Go.Sl.kw_skip rfl rfl ?_
      refine Go.Sl.kw_val rfl rfl (Go.Sl.v_pick_false rfl rfl) ?_
      refine Go.Sl.kw_val rfl rfl (Go.Sl.v_pick_false rfl rfl) ?_
      refine Go.Sl.kw_val rfl rfl (Go.Sl.v_move rfl) ?_
      refine Go.Sl.kw_val rfl rfl (Go.Sl.v_move rfl) ?_
      refine Go.Sl.kw_val rfl rfl (Go.Sl.v_nilCheck rfl) ?_
      refine Go.Sl.kw_val rfl rfl (Go.Sl.v_fieldAddr0 Ty.fd42_0 rfl) ?_
      refine Go.Sl.kw_val rfl rfl (Go.Sl.v_load rfl (Go.Sl.Var.at1 Ty.sc26 (.there (.there (.there (.there .here)))) (PathM.g_number))) ?_
      refine Go.Sl.kw_val rfl rfl (Go.Sl.v_move rfl) ?_
      refine Go.Sl.kw_val rfl rfl (Go.Sl.v_neq rfl rfl) ?_
      refine Go.Sl.kw_val rfl rfl (Go.Sl.v_pick_false rfl rfl) ?_
      refine Go.Sl.kw_nil ?_
      refine Go.Sl.xw_then ?_
      refine Go.Sl.cw_dec rfl (fun hc265 => ?_) (fun hc265 => ?_)
      (exfalso; omega)
      refine Go.Sl.cw_skip ?_
      refine Go.Sl.xw_block ?_
      refine Go.Sl.xw_then ?_
      refine Go.Sl.cw_region ?_
      refine Go.Sl.ow_val rfl rfl (Go.Sl.v_add rfl rfl (Go.Sl.nw_i64 (by omega) (by omega))) ?_
      refine Go.Sl.ow_val rfl rfl (Go.Sl.v_move rfl) ?_
      refine Go.Sl.ow_nil ?_
      rotate_left
      refine Go.Sl.kw_skip rfl rfl ?_
      refine Go.Sl.kw_skip rfl rfl ?_
      refine Go.Sl.kw_skip rfl rfl ?_
      refine Go.Sl.kw_val rfl rfl (Go.Sl.v_pick_false rfl rfl) ?_
      refine Go.Sl.kw_val rfl rfl (Go.Sl.v_pick_false rfl rfl) ?_
      refine Go.Sl.kw_val rfl rfl (Go.Sl.v_move rfl) ?_
      refine Go.Sl.kw_val rfl rfl (Go.Sl.v_move rfl) ?_
      refine Go.Sl.kw_val rfl rfl (Go.Sl.v_move rfl) ?_
      refine Go.Sl.kw_val rfl rfl (Go.Sl.v_len rfl Try.underlying32 rfl) ?_
      refine Go.Sl.kw_val rfl rfl (Go.Sl.v_gtr rfl rfl) ?_
      refine Go.Sl.kw_val rfl rfl (Go.Sl.v_neqB Try.underlying4 rfl rfl) ?_
      refine Go.Sl.kw_val rfl rfl (Go.Sl.v_pick_false rfl rfl) ?_
      refine Go.Sl.kw_val rfl rfl (Go.Sl.v_move rfl) ?_
      refine Go.Sl.kw_dec 248 rfl (fun hc248 => ?_) (fun hc248 => ?_)
      refine Go.Sl.kw_skip rfl rfl ?_
      refine Go.Sl.kw_skip rfl rfl ?_
      refine Go.Sl.kw_skip rfl rfl ?_
      refine Go.Sl.kw_skip rfl rfl ?_
      refine Go.Sl.kw_skip rfl rfl ?_
      refine Go.Sl.kw_skip rfl rfl ?_
      refine Go.Sl.kw_skip rfl rfl ?_
      refine Go.Sl.kw_skip rfl rfl ?_
      refine Go.Sl.kw_val rfl rfl (Go.Sl.v_pick_true rfl rfl) ?_
      refine Go.Sl.kw_val rfl rfl (Go.Sl.v_move rfl) ?_
      refine Go.Sl.kw_skip rfl rfl ?_
      refine Go.Sl.kw_skip rfl rfl ?_
      refine Go.Sl.kw_skip rfl rfl ?_
      refine Go.Sl.kw_skip rfl rfl ?_
      refine Go.Sl.kw_skip rfl rfl ?_
      refine Go.Sl.kw_skip rfl rfl ?_
      refine Go.Sl.kw_val rfl rfl (Go.Sl.v_pick_true rfl rfl) ?_
      refine Go.Sl.kw_nil ?_
      refine Go.Sl.xw_then ?_
      refine Go.Sl.cw_true rfl ?_
      refine Go.Sl.cw_seq ?_
      refine Go.Sl.cw_region ?_
      refine Go.Sl.ow_val rfl rfl (Go.Sl.v_assign rfl) ?_
      refine Go.Sl.ow_nil ?_
      refine Go.Sl.xw_then ?_
      refine Go.Sl.cw_ret ?_
      refine Go.Sl.xw_block_ret ?_
      refine Go.Sl.xw_then_ret ?_
      refine Go.Sl.xw_round_ret ?_
      refine Go.Sl.xw_block_ret ?_
      refine Go.Sl.xw_then_ret ?_
      refine Go.Sl.ret1 rfl (Go.Sl.res_tmp rfl) ?_
      rotate_left
      refine Go.Sl.kw_val rfl rfl (Go.Sl.v_move rfl) ?_
      refine Go.Sl.kw_val rfl rfl (Go.Sl.v_move rfl) ?_
      refine Go.Sl.kw_skip rfl rfl ?_
      refine Go.Sl.kw_skip rfl rfl ?_
      refine Go.Sl.kw_skip rfl rfl ?_
      refine Go.Sl.kw_skip rfl rfl ?_
      refine Go.Sl.kw_skip rfl rfl ?_
      refine Go.Sl.kw_val rfl rfl (Go.Sl.v_pick_false rfl rfl) ?_
      refine Go.Sl.kw_val rfl rfl (Go.Sl.v_pick_false rfl rfl) ?_
      refine Go.Sl.kw_val rfl rfl (Go.Sl.v_move rfl) ?_
      refine Go.Sl.kw_val rfl rfl (Go.Sl.v_move rfl) ?_
      refine Go.Sl.kw_val rfl rfl (Go.Sl.v_nilCheck rfl) ?_
      refine Go.Sl.kw_val rfl rfl (Go.Sl.v_fieldAddr0 Ty.fd42_0 rfl) ?_
      refine Go.Sl.kw_val rfl rfl (Go.Sl.v_load rfl (Go.Sl.Var.at1 Ty.sc26 (.there (.there (.there (.there .here)))) (PathM.g_number))) ?_
      refine Go.Sl.kw_val rfl rfl (Go.Sl.v_move rfl) ?_
      refine Go.Sl.kw_val rfl rfl (Go.Sl.v_neq rfl rfl) ?_
      refine Go.Sl.kw_val rfl rfl (Go.Sl.v_pick_false rfl rfl) ?_
      refine Go.Sl.kw_nil ?_
      refine Go.Sl.xw_then ?_
      refine Go.Sl.cw_dec rfl (fun hc265 => ?_) (fun hc265 => ?_)
      (exfalso; omega)
      refine Go.Sl.cw_skip ?_
      refine Go.Sl.xw_block ?_
      refine Go.Sl.xw_then ?_
      refine Go.Sl.cw_region ?_
      refine Go.Sl.ow_val rfl rfl (Go.Sl.v_add rfl rfl (Go.Sl.nw_i64 (by omega) (by omega))) ?_
      refine Go.Sl.ow_val rfl rfl (Go.Sl.v_move rfl) ?_
      refine Go.Sl.ow_nil ?_
      rotate_left
      all_goals first
        | exact (no1 hc228 hc233).elim
        | exact (no2 hc228 hc233).elim
        | exact (no3 hc235 hc241).elim
        | exact absurd hM hc248
        | exact absurd rfl hc258
        | exact xw_round (⟨i2 + 1, m2, _, _, _, _⟩ : Ix) ⟨by dsimp only; omega, by dsimp only; omega, by dsimp only; omega, ⟨hI2.wf, hI2.num, hI2.now0, hI2.sl⟩⟩ (by dsimp only; omega) (by repeat (first | exact List.Sublist.refl _ | refine List.Sublist.cons_cons _ ?_ | refine List.Sublist.cons _ ?_)) ⟨rfl, rfl, rfl, rfl, rfl, rfl, rfl, rfl, rfl, rfl, rfl, rfl, rfl, trivial⟩
        | skip
  exact done0 rfl (by repeat (first | exact List.Sublist.refl _ | refine List.Sublist.cons_cons _ ?_ | refine List.Sublist.cons _ ?_))

theorem walk {H : Type} {enc : TypeId × Value → H} (W : World) (base : Nat) (args : Array Value) (ds : List (DataW H)) (p : List MemPlace)
    (hval : ∀ (j : Nat) t v, Try.f5.params[j]? = some t → args[j]? = some v → Value.okWide Try.prog W .any base t v)
    (hA : DataW.TrodAll enc Try.prog W 0 (fun _ => true) true Try.f5.params.toList args.toList ds p) :
    Calls Try.prog 5 args W fun e w' => e = .returned (.bool true) ∧ Below W.heap.size W w' := by
  rw [Try.params5] at hA hval
  obtain ⟨v0, vs0, d0, ds0, p0, q0, hargs, rfl, rfl, h0, r0⟩ := trodAll_cons hA
  obtain ⟨v1, vs1, d1, ds1, p1, q1, rfl, rfl, rfl, h1, r1⟩ := trodAll_cons r0
  obtain ⟨v2, vs2, d2, ds2, p2, q2, rfl, rfl, rfl, h2, r2⟩ := trodAll_cons r1
  obtain ⟨rfl, rfl, rfl⟩ := trodAll_nil r2
  obtain rfl : args = #[v0, v1, v2] := by cases args; simp_all
  obtain ⟨known, rfl⟩ := okWide_bool Try.underlying4 (hval 0 4 v0 rfl rfl)
  obtain ⟨num, rfl, rfl, rfl, hnum⟩ := open_int Try.underlying26 (hval 1 26 v1 rfl rfl) h1
  obtain ⟨a2, n2, c2, rfl⟩ := okWide_slice Try.underlying44 (hval 2 44 v2 rfl rfl)
  obtain ⟨fu2, h2⟩ := h2
  obtain ⟨l2, m2, f, hf, o2⟩ := oldSl (size := 13) Try.underlying44 (by kernel_rfl) (by decide) h2 ActM.cells ActM.WF (fun fuel cs y h => form_act h)
  unfold maxLen at m2
  exact (law (by omega) (bounds_u64 hnum) o2 hf []).call

theorem own : ownKnob Try.prog.godebug = none := by kernel_rfl
theorem laidOut : laidOutB Try.prog = true := by kernel_rfl
theorem reads : ∀ t ∈ Try.f5.params.toList, Try.prog.readableRec t = true ∧ t < Try.prog.types.size := by
  rw [Try.params5]
  intro t ht
  simp only [List.mem_cons, List.not_mem_nil, or_false] at ht
  rcases ht with rfl | rfl | rfl
  · exact ⟨by kernel_rfl, of_decide_eq_true (by kernel_rfl)⟩
  · exact ⟨by kernel_rfl, of_decide_eq_true (by kernel_rfl)⟩
  · exact ⟨by kernel_rfl, of_decide_eq_true (by kernel_rfl)⟩

set_option maxRecDepth 100000 in
theorem lifted (os : Os) (started : os.Started) (H : Type) (enc : TypeId × Value → H) :
    ReturnsInHanded {} Try.checked os 5 .any (Rows.pathPlaysSpec.pre6 enc Try.prog Try.f5 Rows.pathPlaysRow.domain false) (Rows.pathPlaysSpec.post enc Try.prog Try.f5 false true false false) := by
  refine returnsInHanded_of_change (C := Try.checked) own started (by kernel_rfl) Try.func5
    (ChangeSpec.witness6 (enc := enc) (C := Try.checked) false ⟨#[], #[.bool false, .int .u64 0, .slice none 0 0], []⟩ 8 (by kernel_rfl) (by kernel_rfl) (by kernel_rfl) (by kernel_rfl)) ?_
  intro W base args ds gs before hval hW _ _
  have hW' := hW
  obtain ⟨p, q, hA0, hV, rfl, _, _⟩ := hW
  obtain ⟨rfl, rfl⟩ := trodVars_none hV
  have hA : DataW.TrodAll enc Try.prog W 0 (fun _ => true) true Try.f5.params.toList args.toList ds p := hA0
  have hlen := trodAll_len hA
  refine (walk W base args ds p hval hA).mono fun e W' ⟨he, bel⟩ => ?_
  subst he
  rw [Try.params5] at hlen
  match ds, hlen.2, hA, hW' with
  | [d0, d1, d2], _, hA, hW' => exact ⟨_, rfl, _, _, _, [], _, [], hW', trodAll_mk1 (shut_bool Try.underlying4 _), trodAll_stays laidOut bel reads hA, rfl, bel.frame _, fun h => by cases h⟩

theorem over : Rows.pathPlaysRow.holds Try.pinned (OpenSpec.ofChange Rows.pathPlaysSpec) :=
  OpenClaim.holds_of_wide 5 Try.f5 rfl rfl rfl rfl rfl rfl rfl ⟨rfl, rfl, rfl, rfl, rfl⟩ rfl rfl rfl rfl rfl (by kernel_rfl) Try.func5 (by kernel_rfl)
    (of_decide_eq_true (by kernel_rfl)) (by unfold Func.isWrapper; first | (rw [if_pos (by decide +kernel)]; kernel_rfl) | (rw [if_neg (by decide +kernel)]; exact ⟨rfl, rfl⟩))
    (fun os started H enc _ => lifted os started H enc)

theorem proved : Rows.PathPlaysSaid := over

end Go.Proofs.Ytlollnhoghledaa.lawPathPlays
