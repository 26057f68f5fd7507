/- What the functions of package path do, each as a contract: a path in memory is a model, each method its function on models. Conditions: numbers fit their types. -/
import Derived.Test.YtlollnhoghledaaTypes
namespace Go.Proofs.Ytlollnhoghledaa
open Go Go.Sl Go.Proofs
set_option linter.unusedVariables false
set_option linter.unusedSimpArgs false

def by8 (l : List Int) : List Value := l.map (Value.int .u8)
@[simp] theorem by8_length (l : List Int) : (by8 l).length = l.length := by simp [by8]
theorem by8_one (l : List Int) : ∀ u ∈ by8 l, u.oneCell' = true := by
  intro u hu
  obtain ⟨x, _, rfl⟩ := List.mem_map.1 hu
  rfl

structure PathM where
  number : Int
  state : Int
  inn : Int
  out : Int
  word : List Int
  till : Int
  asks : Bool
  ws : List (List Int)
  many : Nat

structure PathM.WF (m : PathM) : Prop where
  inn : 0 ≤ m.inn ∧ m.inn ≤ 1537228672809129301
  out : 0 ≤ m.out ∧ m.out ≤ 4611686018427387903
  word : m.word.length = 8
  till : 0 ≤ m.till ∧ m.till ≤ 18446744073709551615
  ws : m.ws.length = 4
  each : ∀ w ∈ m.ws, w.length = 8
  many : m.many ≤ 4
  num : 0 ≤ m.number ∧ m.number ≤ 18446744073709551615

def PathM.cells (m : PathM) : List Value :=
  [.int .u64 m.number, .int .u8 m.state, .int .u64 m.inn, .int .u64 m.out] ++ (by8 m.word ++ ([.int .u64 m.till, .bool m.asks] ++ (by8 m.ws.flatten ++ [.int .i64 m.many])))
def PathM.obj (m : PathM) : Obj := .cells m.cells.toArray 42 (0, 0)

section
variable {m : PathM}
theorem PathM.g_number : GetN m.obj 0 [.int .u64 m.number] := GetN.one (by simp [PathM.cells])
theorem PathM.g_state : GetN m.obj 1 [.int .u8 m.state] := GetN.one (by simp [PathM.cells])
theorem PathM.g_inn : GetN m.obj 2 [.int .u64 m.inn] := GetN.one (by simp [PathM.cells])
theorem PathM.g_out : GetN m.obj 3 [.int .u64 m.out] := GetN.one (by simp [PathM.cells])
theorem PathM.g_word : GetN m.obj 4 (by8 m.word) := GetN.part (a := [.int .u64 m.number, .int .u8 m.state, .int .u64 m.inn, .int .u64 m.out]) rfl
theorem PathM.g_till (h : m.WF) : GetN m.obj 12 [.int .u64 m.till] := GetN.one (by simp [PathM.cells, h.word])
theorem PathM.g_asks (h : m.WF) : GetN m.obj 13 [.bool m.asks] := GetN.one (by simp [PathM.cells, List.getElem?_append, h.word])
theorem PathM.WF.flat (h : m.WF) : m.ws.flatten.length = 32 := by
  obtain ⟨_, _, _, _, h1, h2, _, _⟩ := h
  match hw : m.ws, h1, h2 with
  | [a, b, c, d], _, h2 => simp [h2 a, h2 b, h2 c, h2 d]
def PathM.head (m : PathM) : List Value := [.int .u64 m.number, .int .u8 m.state, .int .u64 m.inn, .int .u64 m.out] ++ (by8 m.word ++ [.int .u64 m.till, .bool m.asks])
theorem PathM.WF.head (h : m.WF) : m.head.length = 14 := by simp [PathM.head, h.word]
theorem PathM.cells_eq : m.cells = m.head ++ (by8 m.ws.flatten ++ [.int .i64 m.many]) := by simp [PathM.cells, PathM.head]
theorem PathM.g_many (h : m.WF) : GetN m.obj 46 [.int .i64 m.many] := by
  have h1 := h.flat
  have h2 := h.head
  have := GetN.part (a := m.head ++ by8 m.ws.flatten) (vs := [.int .i64 m.many]) (c := []) (e := 42) (fr := (0, 0)) (off := 46) (by simp [h1, h2])
  simpa [PathM.obj, PathM.cells_eq] using this
theorem PathM.g_ws (h : m.WF) : GetN m.obj 14 (by8 m.ws.flatten) := by
  have := GetN.part (a := m.head) (vs := by8 m.ws.flatten) (c := [.int .i64 m.many]) (e := 42) (fr := (0, 0)) (off := 14) (by rw [h.head])
  simpa [PathM.obj, PathM.cells_eq] using this
theorem flat_get {ws : List (List Int)} (h : ∀ w ∈ ws, w.length = 8) : ∀ (i : Nat) (u : List Int), ws[i]? = some u → ∀ (j : Nat) (v : Value), (by8 u)[j]? = some v → (by8 ws.flatten)[i * 8 + j]? = some v := by
  induction ws with
  | nil => intro i u hu; simp at hu
  | cons w ws ih =>
    intro i u hu j v hv
    have hw : w.length = 8 := h w (by simp)
    have hj : j < 8 := by
      have := (List.getElem?_eq_some_iff.1 hv).1
      have hm : u ∈ w :: ws := List.mem_of_getElem? hu
      have := h u hm
      simp at *
      omega
    cases i with
    | zero =>
      simp at hu
      subst hu
      simp only [by8, List.flatten_cons, List.map_append, Nat.zero_mul, Nat.zero_add] at *
      rw [List.getElem?_append_left (by simp; omega)]
      exact hv
    | succ i =>
      simp at hu
      have := ih (fun x hx => h x (by simp [hx])) i u hu j v hv
      simp only [by8, List.flatten_cons, List.map_append] at *
      rw [List.getElem?_append_right (by simp; omega)]
      rw [← this]
      congr 1
      simp
      omega
theorem PathM.g_w (h : m.WF) {i : Nat} {u : List Int} (hu : m.ws[i]? = some u) : GetN m.obj (14 + i * 8) (by8 u) := (PathM.g_ws h).sub (flat_get h.each i u hu)
theorem PathM.s_state {v : Int} : SetN m.obj 1 [.int .u8 v] ({ m with state := v } : PathM).obj := SetN.one (by simp [PathM.cells])
theorem PathM.s_inn {v : Int} : SetN m.obj 2 [.int .u64 v] ({ m with inn := v } : PathM).obj := SetN.one (by simp [PathM.cells])
theorem PathM.s_out {v : Int} : SetN m.obj 3 [.int .u64 v] ({ m with out := v } : PathM).obj := SetN.one (by simp [PathM.cells])
end

def plusF (c s m : Int) : Int := if s ≤ 0 then c else if m ≤ c ∨ m - c < s then m else c + s

theorem plus_c {B : Nat} {w0 : World} {G : List Hp} {c s m : Int} (hc : 0 ≤ c) (hc2 : c ≤ 18446744073709551615) (hs : -9223372036854775808 ≤ s) (hs2 : s ≤ 9223372036854775807) (hm : 0 ≤ m) (hm2 : m ≤ 18446744073709551615) :
    Go.Sl.Fn Try.prog 22 #[.int .u64 c, .int .i64 s, .int .u64 m] B w0 G fun v G' => v = .int .u64 (plusF c s m) ∧ G' = G := by
  refine fn_enter Try.func22 rfl (by kernel_rfl) Try.ntmps22 (by simp) ?_
  refine Go.Sl.cw_seq ?_
  refine Go.Sl.cw_region ?_
  refine Go.Sl.ow_val rfl rfl (Go.Sl.v_assign rfl) ?_
  refine Go.Sl.ow_nil ?_
  refine Go.Sl.xw_then ?_
  refine Go.Sl.cw_seq ?_
  refine Go.Sl.cw_seq ?_
  refine Go.Sl.cw_region ?_
  refine Go.Sl.ow_val rfl rfl (Go.Sl.v_move rfl) ?_
  refine Go.Sl.ow_val rfl rfl (Go.Sl.v_leq rfl rfl) ?_
  refine Go.Sl.ow_nil ?_
  refine Go.Sl.xw_then ?_
  refine Go.Sl.cw_dec rfl (fun hc8 => ?_) (fun hc8 => ?_)
  refine Go.Sl.cw_seq ?_
  refine Go.Sl.cw_region ?_
  refine Go.Sl.ow_val rfl rfl (Go.Sl.v_move rfl) ?_
  refine Go.Sl.ow_val rfl rfl (Go.Sl.v_assign rfl) ?_
  refine Go.Sl.ow_nil ?_
  refine Go.Sl.xw_then ?_
  refine Go.Sl.cw_ret ?_
  refine Go.Sl.xw_then_ret ?_
  refine Go.Sl.ret1 rfl (Go.Sl.res_tmp rfl) ?_
  rotate_left
  refine Go.Sl.cw_skip ?_
  refine Go.Sl.xw_then ?_
  refine Go.Sl.cw_seq ?_
  refine Go.Sl.cw_seq ?_
  refine Go.Sl.cw_region ?_
  refine Go.Sl.ow_val rfl rfl (Go.Sl.v_move rfl) ?_
  refine Go.Sl.ow_val rfl rfl (Go.Sl.v_move rfl) ?_
  refine Go.Sl.ow_val rfl rfl (Go.Sl.v_geq rfl rfl) ?_
  refine Go.Sl.ow_val rfl rfl (Go.Sl.v_move rfl) ?_
  refine Go.Sl.ow_dec 13 rfl (fun hc13 => ?_) (fun hc13 => ?_)
  refine Go.Sl.ow_skip rfl rfl ?_
  refine Go.Sl.ow_skip rfl rfl ?_
  refine Go.Sl.ow_skip rfl rfl ?_
  refine Go.Sl.ow_skip rfl rfl ?_
  refine Go.Sl.ow_skip rfl rfl ?_
  refine Go.Sl.ow_skip rfl rfl ?_
  refine Go.Sl.ow_val rfl rfl (Go.Sl.v_pick_true rfl rfl) ?_
  refine Go.Sl.ow_nil ?_
  refine Go.Sl.xw_then ?_
  refine Go.Sl.cw_true rfl ?_
  refine Go.Sl.cw_seq ?_
  refine Go.Sl.cw_region ?_
  refine Go.Sl.ow_val rfl rfl (Go.Sl.v_move rfl) ?_
  refine Go.Sl.ow_val rfl rfl (Go.Sl.v_assign rfl) ?_
  refine Go.Sl.ow_nil ?_
  refine Go.Sl.xw_then ?_
  refine Go.Sl.cw_ret ?_
  refine Go.Sl.xw_then_ret ?_
  refine Go.Sl.ret1 rfl (Go.Sl.res_tmp rfl) ?_
  rotate_left
  refine Go.Sl.ow_val rfl rfl (Go.Sl.v_move rfl) ?_
  refine Go.Sl.ow_val rfl rfl (Go.Sl.v_convert Try.underlying3 Try.underlying26 rfl (Go.Sl.nw_u64 (by omega) (by omega))) ?_
  refine Go.Sl.ow_val rfl rfl (Go.Sl.v_move rfl) ?_
  refine Go.Sl.ow_val rfl rfl (Go.Sl.v_move rfl) ?_
  refine Go.Sl.ow_val rfl rfl (Go.Sl.v_sub rfl rfl (Go.Sl.nw_u64 (by omega) (by omega))) ?_
  refine Go.Sl.ow_val rfl rfl (Go.Sl.v_gtr rfl rfl) ?_
  refine Go.Sl.ow_val rfl rfl (Go.Sl.v_pick_false rfl rfl) ?_
  refine Go.Sl.ow_nil ?_
  refine Go.Sl.xw_then ?_
  refine Go.Sl.cw_dec rfl (fun hc20 => ?_) (fun hc20 => ?_)
  refine Go.Sl.cw_seq ?_
  refine Go.Sl.cw_region ?_
  refine Go.Sl.ow_val rfl rfl (Go.Sl.v_move rfl) ?_
  refine Go.Sl.ow_val rfl rfl (Go.Sl.v_assign rfl) ?_
  refine Go.Sl.ow_nil ?_
  refine Go.Sl.xw_then ?_
  refine Go.Sl.cw_ret ?_
  refine Go.Sl.xw_then_ret ?_
  refine Go.Sl.ret1 rfl (Go.Sl.res_tmp rfl) ?_
  rotate_left
  refine Go.Sl.cw_skip ?_
  refine Go.Sl.xw_then ?_
  refine Go.Sl.cw_seq ?_
  refine Go.Sl.cw_region ?_
  refine Go.Sl.ow_val rfl rfl (Go.Sl.v_move rfl) ?_
  refine Go.Sl.ow_val rfl rfl (Go.Sl.v_move rfl) ?_
  refine Go.Sl.ow_val rfl rfl (Go.Sl.v_convert Try.underlying3 Try.underlying26 rfl (Go.Sl.nw_u64 (by omega) (by omega))) ?_
  refine Go.Sl.ow_val rfl rfl (Go.Sl.v_add rfl rfl (Go.Sl.nw_u64 (by omega) (by omega))) ?_
  refine Go.Sl.ow_val rfl rfl (Go.Sl.v_assign rfl) ?_
  refine Go.Sl.ow_nil ?_
  refine Go.Sl.xw_then ?_
  refine Go.Sl.cw_ret ?_
  refine Go.Sl.ret1 rfl (Go.Sl.res_tmp rfl) ?_
  rotate_left
  all_goals simp [plusF, *]

def PathM.came (m : PathM) (s : Int) : PathM := { m with inn := plusF m.inn s 1537228672809129301 }
def PathM.sent (m : PathM) (s : Int) : PathM := { m with out := plusF m.out s 4611686018427387903 }

def PathM.room (m : PathM) : Int := if m.state = 2 then 4611686018427387903 else if min m.inn 1537228672809129301 * 3 ≤ m.out then 0 else min m.inn 1537228672809129301 * 3 - m.out
def PathM.know (m : PathM) : PathM := { m with state := 2, asks := false }
def PathM.ask (m : PathM) (w : List Int) (t : Int) : PathM := if m.state = 2 then m else { m with state := 1, word := w, till := t, asks := true }
def PathM.told (m : PathM) : PathM := { m with asks := false }
def PathM.lost (m : PathM) (w : List Int) : PathM := if m.state = 1 ∧ m.word = w then { m with asks := true } else m
def PathM.tick (m : PathM) (now : Int) : PathM × Bool := if m.state ≠ 1 ∨ now < m.till then (m, false) else ({ m with state := 3, asks := false }, true)
def PathM.response (m : PathM) (w : List Int) : PathM × Bool := if m.state ≠ 1 ∨ m.word ≠ w then (m, false) else (m.know, true)
def PathM.challenged (m : PathM) (w : List Int) : PathM := if m.many < 4 then { m with ws := m.ws.set m.many w, many := m.many + 1 } else m
def PathM.answered (m : PathM) : PathM := if m.many = 0 then m else { m with ws := m.ws.drop 1 ++ m.ws.drop 3, many := m.many - 1 }

section
variable {m : PathM}
theorem PathM.s_word (h : m.WF) {w : List Int} (hw : w.length = 8) : SetN m.obj 4 (by8 w) ({ m with word := w } : PathM).obj := by
  have := SetN.part (a := [.int .u64 m.number, .int .u8 m.state, .int .u64 m.inn, .int .u64 m.out]) (us := by8 m.word) (vs := by8 w) (c := [.int .u64 m.till, .bool m.asks] ++ (by8 m.ws.flatten ++ [.int .i64 m.many])) (e := 42) (off := 4) rfl (by simp [h.word, hw])
  simpa [PathM.obj, PathM.cells] using this
theorem PathM.s_till (h : m.word.length = 8) {t : Int} : SetN m.obj 12 [.int .u64 t] ({ m with till := t } : PathM).obj := by
  have := SetN.part (a := [.int .u64 m.number, .int .u8 m.state, .int .u64 m.inn, .int .u64 m.out] ++ by8 m.word) (us := [.int .u64 m.till]) (vs := [.int .u64 t]) (c := [.bool m.asks] ++ (by8 m.ws.flatten ++ [.int .i64 m.many])) (e := 42) (off := 12) (by simp [h]) (by simp)
  simpa [PathM.obj, PathM.cells] using this
theorem PathM.s_asks (h : m.word.length = 8) {t : Bool} : SetN m.obj 13 [.bool t] ({ m with asks := t } : PathM).obj := by
  have := SetN.part (a := [.int .u64 m.number, .int .u8 m.state, .int .u64 m.inn, .int .u64 m.out] ++ (by8 m.word ++ [.int .u64 m.till])) (us := [.bool m.asks]) (vs := [.bool t]) (c := (by8 m.ws.flatten ++ [.int .i64 m.many])) (e := 42) (off := 13) (by simp [h]) (by simp)
  simpa [PathM.obj, PathM.cells] using this
theorem PathM.s_many (h : m.word.length = 8) (hf : m.ws.flatten.length = 32) {t : Nat} : SetN m.obj 46 [.int .i64 t] ({ m with many := t } : PathM).obj := by
  have h2 : m.head.length = 14 := by simp [PathM.head, h]
  have := SetN.part (a := m.head ++ by8 m.ws.flatten) (us := [.int .i64 m.many]) (vs := [.int .i64 t]) (c := []) (e := 42) (off := 46) (by simp [h2, hf]) (by simp)
  simpa [PathM.obj, PathM.cells_eq, PathM.head] using this
theorem PathM.s_ws (h : m.word.length = 8) {ws : List (List Int)} (hf : m.ws.flatten.length = 32) (hl : ws.flatten.length = 32) : SetN m.obj 14 (by8 ws.flatten) ({ m with ws := ws } : PathM).obj := by
  have h2 : m.head.length = 14 := by simp [PathM.head, h]
  have := SetN.part (a := m.head) (us := by8 m.ws.flatten) (vs := by8 ws.flatten) (c := [.int .i64 m.many]) (e := 42) (off := 14) (by rw [h2]) (by simp only [by8_length, hf, hl])
  simpa [PathM.obj, PathM.cells_eq, PathM.head] using this
end

theorem PathM.s_many' {m : PathM} (h : m.word.length = 8) (hf : m.ws.flatten.length = 32) {v : Int} (t : Nat) (hv : v = t) : SetN m.obj 46 [.int .i64 v] ({ m with many := t } : PathM).obj := by
  subst hv
  exact PathM.s_many h hf
theorem flat_split (ws : List (List Int)) (i : Nat) (hi : i < ws.length) (w : List Int) : (ws.set i w).flatten = (ws.take i).flatten ++ (w ++ (ws.drop (i + 1)).flatten) := by
  rw [List.set_eq_take_append_cons_drop, if_pos hi]
  simp
theorem flat_take {ws : List (List Int)} (h : ∀ w ∈ ws, w.length = 8) (i : Nat) (hi : i ≤ ws.length) : (ws.take i).flatten.length = i * 8 := by
  induction ws generalizing i with
  | nil => simp at hi; subst hi; rfl
  | cons w ws ih =>
    cases i with
    | zero => simp
    | succ i =>
      simp only [List.take_succ_cons, List.flatten_cons, List.length_append, h w (by simp), ih (fun x hx => h x (by simp [hx])) i (by simpa using hi)]
      omega
theorem PathM.s_w {m : PathM} (h : m.WF) {w : List Int} (hw : w.length = 8) {i : Nat} (hi : i < 4) : SetN m.obj (14 + i * 8) (by8 w) ({ m with ws := m.ws.set i w } : PathM).obj := by
  have h4 := h.ws
  have hl : i < m.ws.length := by omega
  have h5 := flat_split m.ws i hl w
  have h6 := flat_split m.ws i hl m.ws[i]
  rw [List.set_getElem_self] at h6
  have h7 := flat_take h.each i (by omega)
  have := SetN.part (a := m.head ++ by8 (m.ws.take i).flatten) (us := by8 m.ws[i]) (vs := by8 w) (c := by8 (m.ws.drop (i + 1)).flatten ++ [.int .i64 m.many]) (e := 42) (off := 14 + i * 8) (by simp only [List.length_append, h.head, by8_length, h7]) (by simp only [by8_length, hw, h.each _ (List.getElem_mem hl)])
  have e1 : m.obj = .cells (m.head ++ by8 (m.ws.take i).flatten ++ (by8 m.ws[i] ++ (by8 (m.ws.drop (i + 1)).flatten ++ [Value.int .i64 m.many]))).toArray 42 (0, 0) := by
    unfold PathM.obj
    rw [PathM.cells_eq, h6]
    simp [by8]
  have e2 : ({ m with ws := m.ws.set i w } : PathM).obj = .cells (m.head ++ by8 (m.ws.take i).flatten ++ (by8 w ++ (by8 (m.ws.drop (i + 1)).flatten ++ [Value.int .i64 m.many]))).toArray 42 (0, 0) := by
    unfold PathM.obj
    rw [PathM.cells_eq]
    simp only [h5]
    simp [by8, PathM.head]
  rw [e1, e2]
  exact this

theorem came_c {B : Nat} {w0 : World} {b : Nat} {m : PathM} {s : Int} (h : m.WF) (hs : -9223372036854775808 ≤ s) (hs2 : s ≤ 9223372036854775807) :
    FnC Try.prog 9 #[.pointer (some ⟨b, 0, none⟩), .int .i64 s] B w0 [[(b, m.obj)]] (R1 (.tuple #[]) [(b, (m.came s).obj)]) := fun F => by
  have h1 := h.inn
  refine fn_enter Try.func9 rfl (by kernel_rfl) Try.ntmps9 (by simp) ?_
  refine Go.Sl.cw_seq ?_
  refine Go.Sl.cw_region ?_
  refine Go.Sl.ow_val rfl rfl (Go.Sl.v_move rfl) ?_
  refine Go.Sl.ow_val rfl rfl (Go.Sl.v_neq_nil_some Try.underlying24 rfl) ?_
  refine Go.Sl.ow_nil ?_
  refine Go.Sl.xw_then ?_
  refine Go.Sl.cw_true rfl ?_
  refine Go.Sl.cw_region ?_
  refine Go.Sl.ow_val rfl rfl (Go.Sl.v_move rfl) ?_
  refine Go.Sl.ow_val rfl rfl (Go.Sl.v_move rfl) ?_
  refine Go.Sl.ow_val rfl rfl (Go.Sl.v_nilCheck rfl) ?_
  refine Go.Sl.ow_val rfl rfl (Go.Sl.v_fieldAddr0 Ty.fd42_2 rfl) ?_
  refine Go.Sl.ow_val rfl rfl (Go.Sl.v_load rfl (Go.Sl.Var.at1 Ty.sc26 .here (PathM.g_inn))) ?_
  refine Go.Sl.ow_val rfl rfl (Go.Sl.v_move rfl) ?_
  refine Go.Sl.ow_val rfl rfl (Go.Sl.v_call rfl rfl (plus_c (by omega) (by omega) (by omega) (by omega) (by omega) (by omega))) ?_
  refine Go.Sl.ow_val rfl rfl (Go.Sl.v_nilCheck rfl) ?_
  refine Go.Sl.ow_val rfl rfl (Go.Sl.v_fieldAddr0 Ty.fd42_2 rfl) ?_
  refine Go.Sl.ow_store1 rfl rfl rfl rfl Ty.sc26 .here (PathM.s_inn) ?_
  refine Go.Sl.ow_nil ?_
  refine Go.Sl.ret0n rfl ?_
  exact done1 rfl (by repeat (first | exact List.Sublist.refl _ | refine List.Sublist.cons_cons _ ?_ | refine List.Sublist.cons _ ?_))

theorem sent_c {B : Nat} {w0 : World} {b : Nat} {m : PathM} {s : Int} (h : m.WF) (hs : -9223372036854775808 ≤ s) (hs2 : s ≤ 9223372036854775807) :
    FnC Try.prog 11 #[.pointer (some ⟨b, 0, none⟩), .int .i64 s] B w0 [[(b, m.obj)]] (R1 (.tuple #[]) [(b, (m.sent s).obj)]) := fun F => by
  have h1 := h.out
  refine fn_enter Try.func11 rfl (by kernel_rfl) Try.ntmps11 (by simp) ?_
  refine Go.Sl.cw_seq ?_
  refine Go.Sl.cw_region ?_
  refine Go.Sl.ow_val rfl rfl (Go.Sl.v_move rfl) ?_
  refine Go.Sl.ow_val rfl rfl (Go.Sl.v_neq_nil_some Try.underlying24 rfl) ?_
  refine Go.Sl.ow_nil ?_
  refine Go.Sl.xw_then ?_
  refine Go.Sl.cw_true rfl ?_
  refine Go.Sl.cw_region ?_
  refine Go.Sl.ow_val rfl rfl (Go.Sl.v_move rfl) ?_
  refine Go.Sl.ow_val rfl rfl (Go.Sl.v_move rfl) ?_
  refine Go.Sl.ow_val rfl rfl (Go.Sl.v_nilCheck rfl) ?_
  refine Go.Sl.ow_val rfl rfl (Go.Sl.v_fieldAddr0 Ty.fd42_3 rfl) ?_
  refine Go.Sl.ow_val rfl rfl (Go.Sl.v_load rfl (Go.Sl.Var.at1 Ty.sc26 .here (PathM.g_out))) ?_
  refine Go.Sl.ow_val rfl rfl (Go.Sl.v_move rfl) ?_
  refine Go.Sl.ow_val rfl rfl (Go.Sl.v_call rfl rfl (plus_c (by omega) (by omega) (by omega) (by omega) (by omega) (by omega))) ?_
  refine Go.Sl.ow_val rfl rfl (Go.Sl.v_nilCheck rfl) ?_
  refine Go.Sl.ow_val rfl rfl (Go.Sl.v_fieldAddr0 Ty.fd42_3 rfl) ?_
  refine Go.Sl.ow_store1 rfl rfl rfl rfl Ty.sc26 .here (PathM.s_out) ?_
  refine Go.Sl.ow_nil ?_
  refine Go.Sl.ret0n rfl ?_
  exact done1 rfl (by repeat (first | exact List.Sublist.refl _ | refine List.Sublist.cons_cons _ ?_ | refine List.Sublist.cons _ ?_))

theorem room_c {B : Nat} {w0 : World} {b : Nat} {m : PathM} (h : m.WF) :
    FnC Try.prog 10 #[.pointer (some ⟨b, 0, none⟩)] B w0 [[(b, m.obj)]] (R1 (.int .u64 m.room) [(b, m.obj)]) := fun F => by
  have h1 := h.inn
  have h2 := h.out
  refine fn_enter Try.func10 rfl (by kernel_rfl) Try.ntmps10 (by simp) ?_
  refine Go.Sl.cw_seq ?_
  refine Go.Sl.cw_region ?_
  refine Go.Sl.ow_val rfl rfl (Go.Sl.v_assign rfl) ?_
  refine Go.Sl.ow_nil ?_
  refine Go.Sl.xw_then ?_
  refine Go.Sl.cw_seq ?_
  refine Go.Sl.cw_seq ?_
  refine Go.Sl.cw_region ?_
  refine Go.Sl.ow_val rfl rfl (Go.Sl.v_move rfl) ?_
  refine Go.Sl.ow_val rfl rfl (Go.Sl.v_eql_nil_some Try.underlying24 rfl) ?_
  refine Go.Sl.ow_nil ?_
  refine Go.Sl.xw_then ?_
  refine Go.Sl.cw_false rfl ?_
  refine Go.Sl.cw_skip ?_
  refine Go.Sl.xw_then ?_
  refine Go.Sl.cw_seq ?_
  refine Go.Sl.cw_seq ?_
  refine Go.Sl.cw_region ?_
  refine Go.Sl.ow_val rfl rfl (Go.Sl.v_move rfl) ?_
  refine Go.Sl.ow_val rfl rfl (Go.Sl.v_nilCheck rfl) ?_
  refine Go.Sl.ow_val rfl rfl (Go.Sl.v_fieldAddr0 Ty.fd42_1 rfl) ?_
  refine Go.Sl.ow_val rfl rfl (Go.Sl.v_load rfl (Go.Sl.Var.at1 Ty.sc39 .here (PathM.g_state))) ?_
  refine Go.Sl.ow_val rfl rfl (Go.Sl.v_eql rfl rfl) ?_
  refine Go.Sl.ow_nil ?_
  refine Go.Sl.xw_then ?_
  refine Go.Sl.cw_dec rfl (fun hc10 => ?_) (fun hc10 => ?_)
  refine Go.Sl.cw_seq ?_
  refine Go.Sl.cw_region ?_
  refine Go.Sl.ow_val rfl rfl (Go.Sl.v_assign rfl) ?_
  refine Go.Sl.ow_nil ?_
  refine Go.Sl.xw_then ?_
  refine Go.Sl.cw_ret ?_
  refine Go.Sl.xw_then_ret ?_
  refine Go.Sl.ret1 rfl (Go.Sl.res_tmp rfl) ?_
  rotate_left
  refine Go.Sl.cw_skip ?_
  refine Go.Sl.xw_then ?_
  refine Go.Sl.cw_seq ?_
  refine Go.Sl.cw_region ?_
  refine Go.Sl.ow_val rfl rfl (Go.Sl.v_move rfl) ?_
  refine Go.Sl.ow_val rfl rfl (Go.Sl.v_nilCheck rfl) ?_
  refine Go.Sl.ow_val rfl rfl (Go.Sl.v_fieldAddr0 Ty.fd42_2 rfl) ?_
  refine Go.Sl.ow_val rfl rfl (Go.Sl.v_load rfl (Go.Sl.Var.at1 Ty.sc26 .here (PathM.g_inn))) ?_
  refine Go.Sl.ow_val rfl rfl (Go.Sl.v_min rfl rfl) ?_
  refine Go.Sl.ow_val rfl rfl (Go.Sl.v_mul rfl rfl (Go.Sl.nw_u64 (by omega) (by omega))) ?_
  refine Go.Sl.ow_val rfl rfl (Go.Sl.v_assign rfl) ?_
  refine Go.Sl.ow_nil ?_
  refine Go.Sl.xw_then ?_
  refine Go.Sl.cw_seq ?_
  refine Go.Sl.cw_seq ?_
  refine Go.Sl.cw_region ?_
  refine Go.Sl.ow_val rfl rfl (Go.Sl.v_move rfl) ?_
  refine Go.Sl.ow_val rfl rfl (Go.Sl.v_move rfl) ?_
  refine Go.Sl.ow_val rfl rfl (Go.Sl.v_nilCheck rfl) ?_
  refine Go.Sl.ow_val rfl rfl (Go.Sl.v_fieldAddr0 Ty.fd42_3 rfl) ?_
  refine Go.Sl.ow_val rfl rfl (Go.Sl.v_load rfl (Go.Sl.Var.at1 Ty.sc26 .here (PathM.g_out))) ?_
  refine Go.Sl.ow_val rfl rfl (Go.Sl.v_leq rfl rfl) ?_
  refine Go.Sl.ow_nil ?_
  refine Go.Sl.xw_then ?_
  refine Go.Sl.cw_dec rfl (fun hc22 => ?_) (fun hc22 => ?_)
  refine Go.Sl.cw_seq ?_
  refine Go.Sl.cw_region ?_
  refine Go.Sl.ow_val rfl rfl (Go.Sl.v_assign rfl) ?_
  refine Go.Sl.ow_nil ?_
  refine Go.Sl.xw_then ?_
  refine Go.Sl.cw_ret ?_
  refine Go.Sl.xw_then_ret ?_
  refine Go.Sl.ret1 rfl (Go.Sl.res_tmp rfl) ?_
  rotate_left
  refine Go.Sl.cw_skip ?_
  refine Go.Sl.xw_then ?_
  refine Go.Sl.cw_seq ?_
  refine Go.Sl.cw_region ?_
  refine Go.Sl.ow_val rfl rfl (Go.Sl.v_move rfl) ?_
  refine Go.Sl.ow_val rfl rfl (Go.Sl.v_move rfl) ?_
  refine Go.Sl.ow_val rfl rfl (Go.Sl.v_nilCheck rfl) ?_
  refine Go.Sl.ow_val rfl rfl (Go.Sl.v_fieldAddr0 Ty.fd42_3 rfl) ?_
  refine Go.Sl.ow_val rfl rfl (Go.Sl.v_load rfl (Go.Sl.Var.at1 Ty.sc26 .here (PathM.g_out))) ?_
  refine Go.Sl.ow_val rfl rfl (Go.Sl.v_sub rfl rfl (Go.Sl.nw_u64 (by omega) (by omega))) ?_
  refine Go.Sl.ow_val rfl rfl (Go.Sl.v_assign rfl) ?_
  refine Go.Sl.ow_nil ?_
  refine Go.Sl.xw_then ?_
  refine Go.Sl.cw_ret ?_
  refine Go.Sl.ret1 rfl (Go.Sl.res_tmp rfl) ?_
  rotate_left
  all_goals exact done1 (by simp [PathM.room, *]) (by repeat (first | exact List.Sublist.refl _ | refine List.Sublist.cons_cons _ ?_ | refine List.Sublist.cons _ ?_))

theorem know_c {B : Nat} {w0 : World} {b : Nat} {m : PathM} (h : m.WF) :
    FnC Try.prog 12 #[.pointer (some ⟨b, 0, none⟩)] B w0 [[(b, m.obj)]] (R1 (.tuple #[]) [(b, m.know.obj)]) := fun F => by
  refine fn_enter Try.func12 rfl (by kernel_rfl) Try.ntmps12 (by simp) ?_
  refine Go.Sl.cw_seq ?_
  refine Go.Sl.cw_region ?_
  refine Go.Sl.ow_val rfl rfl (Go.Sl.v_move rfl) ?_
  refine Go.Sl.ow_val rfl rfl (Go.Sl.v_neq_nil_some Try.underlying24 rfl) ?_
  refine Go.Sl.ow_nil ?_
  refine Go.Sl.xw_then ?_
  refine Go.Sl.cw_true rfl ?_
  refine Go.Sl.cw_seq ?_
  refine Go.Sl.cw_region ?_
  refine Go.Sl.ow_val rfl rfl (Go.Sl.v_move rfl) ?_
  refine Go.Sl.ow_val rfl rfl (Go.Sl.v_nilCheck rfl) ?_
  refine Go.Sl.ow_val rfl rfl (Go.Sl.v_fieldAddr0 Ty.fd42_1 rfl) ?_
  refine Go.Sl.ow_store1 rfl rfl rfl rfl Ty.sc39 .here (PathM.s_state) ?_
  refine Go.Sl.ow_nil ?_
  refine Go.Sl.xw_then ?_
  refine Go.Sl.cw_region ?_
  refine Go.Sl.ow_val rfl rfl (Go.Sl.v_move rfl) ?_
  refine Go.Sl.ow_val rfl rfl (Go.Sl.v_nilCheck rfl) ?_
  refine Go.Sl.ow_val rfl rfl (Go.Sl.v_fieldAddr0 Ty.fd42_6 rfl) ?_
  refine Go.Sl.ow_store1 rfl rfl rfl rfl Ty.sc4 .here (PathM.s_asks (by exact h.word)) ?_
  refine Go.Sl.ow_nil ?_
  refine Go.Sl.ret0n rfl ?_
  all_goals exact done1 rfl (by repeat (first | exact List.Sublist.refl _ | refine List.Sublist.cons_cons _ ?_ | refine List.Sublist.cons _ ?_))

theorem told_c {B : Nat} {w0 : World} {b : Nat} {m : PathM} (h : m.WF) :
    FnC Try.prog 15 #[.pointer (some ⟨b, 0, none⟩)] B w0 [[(b, m.obj)]] (R1 (.tuple #[]) [(b, m.told.obj)]) := fun F => by
  refine fn_enter Try.func15 rfl (by kernel_rfl) Try.ntmps15 (by simp) ?_
  refine Go.Sl.cw_seq ?_
  refine Go.Sl.cw_region ?_
  refine Go.Sl.ow_val rfl rfl (Go.Sl.v_move rfl) ?_
  refine Go.Sl.ow_val rfl rfl (Go.Sl.v_neq_nil_some Try.underlying24 rfl) ?_
  refine Go.Sl.ow_nil ?_
  refine Go.Sl.xw_then ?_
  refine Go.Sl.cw_true rfl ?_
  refine Go.Sl.cw_region ?_
  refine Go.Sl.ow_val rfl rfl (Go.Sl.v_move rfl) ?_
  refine Go.Sl.ow_val rfl rfl (Go.Sl.v_nilCheck rfl) ?_
  refine Go.Sl.ow_val rfl rfl (Go.Sl.v_fieldAddr0 Ty.fd42_6 rfl) ?_
  refine Go.Sl.ow_store1 rfl rfl rfl rfl Ty.sc4 .here (PathM.s_asks (by exact h.word)) ?_
  refine Go.Sl.ow_nil ?_
  refine Go.Sl.ret0n rfl ?_
  all_goals exact done1 rfl (by repeat (first | exact List.Sublist.refl _ | refine List.Sublist.cons_cons _ ?_ | refine List.Sublist.cons _ ?_))

theorem tick_c {B : Nat} {w0 : World} {b : Nat} {m : PathM} {now : Int} (h : m.WF) :
    FnC Try.prog 21 #[.pointer (some ⟨b, 0, none⟩), .int .u64 now] B w0 [[(b, m.obj)]] (R1 (.bool (m.tick now).2) [(b, (m.tick now).1.obj)]) := fun F => by
  refine fn_enter Try.func21 rfl (by kernel_rfl) Try.ntmps21 (by simp) ?_
  refine Go.Sl.cw_seq ?_
  refine Go.Sl.cw_region ?_
  refine Go.Sl.ow_val rfl rfl (Go.Sl.v_assign rfl) ?_
  refine Go.Sl.ow_nil ?_
  refine Go.Sl.xw_then ?_
  refine Go.Sl.cw_seq ?_
  refine Go.Sl.cw_seq ?_
  refine Go.Sl.cw_region ?_
  refine Go.Sl.ow_val rfl rfl (Go.Sl.v_move rfl) ?_
  refine Go.Sl.ow_val rfl rfl (Go.Sl.v_eql_nil_some Try.underlying24 rfl) ?_
  refine Go.Sl.ow_val rfl rfl (Go.Sl.v_move rfl) ?_
  refine Go.Sl.ow_val rfl rfl (Go.Sl.v_move rfl) ?_
  refine Go.Sl.ow_val rfl rfl (Go.Sl.v_nilCheck rfl) ?_
  refine Go.Sl.ow_val rfl rfl (Go.Sl.v_fieldAddr0 Ty.fd42_1 rfl) ?_
  refine Go.Sl.ow_val rfl rfl (Go.Sl.v_load rfl (Go.Sl.Var.at1 Ty.sc39 .here (PathM.g_state))) ?_
  refine Go.Sl.ow_val rfl rfl (Go.Sl.v_neq rfl rfl) ?_
  refine Go.Sl.ow_val rfl rfl (Go.Sl.v_pick_false rfl rfl) ?_
  refine Go.Sl.ow_val rfl rfl (Go.Sl.v_move rfl) ?_
  refine Go.Sl.ow_dec 14 rfl (fun hc14 => ?_) (fun hc14 => ?_)
  refine Go.Sl.ow_skip rfl rfl ?_
  refine Go.Sl.ow_skip rfl rfl ?_
  refine Go.Sl.ow_skip rfl rfl ?_
  refine Go.Sl.ow_skip rfl rfl ?_
  refine Go.Sl.ow_skip rfl rfl ?_
  refine Go.Sl.ow_skip rfl rfl ?_
  refine Go.Sl.ow_val rfl rfl (Go.Sl.v_pick_true rfl rfl) ?_
  refine Go.Sl.ow_nil ?_
  refine Go.Sl.xw_then ?_
  refine Go.Sl.cw_true rfl ?_
  refine Go.Sl.cw_seq ?_
  refine Go.Sl.cw_region ?_
  refine Go.Sl.ow_val rfl rfl (Go.Sl.v_assign rfl) ?_
  refine Go.Sl.ow_nil ?_
  refine Go.Sl.xw_then ?_
  refine Go.Sl.cw_ret ?_
  refine Go.Sl.xw_then_ret ?_
  refine Go.Sl.ret1 rfl (Go.Sl.res_tmp rfl) ?_
  rotate_left
  refine Go.Sl.ow_val rfl rfl (Go.Sl.v_move rfl) ?_
  refine Go.Sl.ow_val rfl rfl (Go.Sl.v_move rfl) ?_
  refine Go.Sl.ow_val rfl rfl (Go.Sl.v_nilCheck rfl) ?_
  refine Go.Sl.ow_val rfl rfl (Go.Sl.v_fieldAddr0 Ty.fd42_5 rfl) ?_
  refine Go.Sl.ow_val rfl rfl (Go.Sl.v_load rfl (Go.Sl.Var.at1 Ty.sc26 .here (PathM.g_till h))) ?_
  refine Go.Sl.ow_val rfl rfl (Go.Sl.v_lss rfl rfl) ?_
  refine Go.Sl.ow_val rfl rfl (Go.Sl.v_pick_false rfl rfl) ?_
  refine Go.Sl.ow_nil ?_
  refine Go.Sl.xw_then ?_
  refine Go.Sl.cw_dec rfl (fun hc21 => ?_) (fun hc21 => ?_)
  refine Go.Sl.cw_seq ?_
  refine Go.Sl.cw_region ?_
  refine Go.Sl.ow_val rfl rfl (Go.Sl.v_assign rfl) ?_
  refine Go.Sl.ow_nil ?_
  refine Go.Sl.xw_then ?_
  refine Go.Sl.cw_ret ?_
  refine Go.Sl.xw_then_ret ?_
  refine Go.Sl.ret1 rfl (Go.Sl.res_tmp rfl) ?_
  rotate_left
  refine Go.Sl.cw_skip ?_
  refine Go.Sl.xw_then ?_
  refine Go.Sl.cw_seq ?_
  refine Go.Sl.cw_region ?_
  refine Go.Sl.ow_val rfl rfl (Go.Sl.v_move rfl) ?_
  refine Go.Sl.ow_val rfl rfl (Go.Sl.v_nilCheck rfl) ?_
  refine Go.Sl.ow_val rfl rfl (Go.Sl.v_fieldAddr0 Ty.fd42_1 rfl) ?_
  refine Go.Sl.ow_store1 rfl rfl rfl rfl Ty.sc39 .here (PathM.s_state) ?_
  refine Go.Sl.ow_nil ?_
  refine Go.Sl.xw_then ?_
  refine Go.Sl.cw_seq ?_
  refine Go.Sl.cw_region ?_
  refine Go.Sl.ow_val rfl rfl (Go.Sl.v_move rfl) ?_
  refine Go.Sl.ow_val rfl rfl (Go.Sl.v_nilCheck rfl) ?_
  refine Go.Sl.ow_val rfl rfl (Go.Sl.v_fieldAddr0 Ty.fd42_6 rfl) ?_
  refine Go.Sl.ow_store1 rfl rfl rfl rfl Ty.sc4 .here (PathM.s_asks (by exact h.word)) ?_
  refine Go.Sl.ow_nil ?_
  refine Go.Sl.xw_then ?_
  refine Go.Sl.cw_seq ?_
  refine Go.Sl.cw_region ?_
  refine Go.Sl.ow_val rfl rfl (Go.Sl.v_assign rfl) ?_
  refine Go.Sl.ow_nil ?_
  refine Go.Sl.xw_then ?_
  refine Go.Sl.cw_ret ?_
  refine Go.Sl.ret1 rfl (Go.Sl.res_tmp rfl) ?_
  rotate_left
  · rw [show m.tick now = (m, false) from by simp [PathM.tick, hc14]]
    exact done1 rfl (by repeat (first | exact List.Sublist.refl _ | refine List.Sublist.cons_cons _ ?_ | refine List.Sublist.cons _ ?_))
  · rw [show m.tick now = (m, false) from by simp [PathM.tick, hc21]]
    exact done1 rfl (by repeat (first | exact List.Sublist.refl _ | refine List.Sublist.cons_cons _ ?_ | refine List.Sublist.cons _ ?_))
  · rw [show m.tick now = ({ m with state := 3, asks := false }, true) from by simp [PathM.tick, hc14, hc21]]
    exact done1 rfl (by repeat (first | exact List.Sublist.refl _ | refine List.Sublist.cons_cons _ ?_ | refine List.Sublist.cons _ ?_))

theorem eq8 {xs ys : List Int} (hx : xs.length = 8) (hy : ys.length = 8) : ∀ w : World, (Op.equal 33 (.agg (by8 xs).toArray) (.agg (by8 ys).toArray)).run Try.prog w = .ok (decide (xs = ys)) w :=
  run_equal_ints Try.underlying33 Try.underlying5 Ty.el33 hx hy

theorem ask_c {B : Nat} {w0 : World} {b : Nat} {m : PathM} {word : List Int} {now : Int} (h : m.WF) (hw : word.length = 8) :
    FnC Try.prog 13 #[.pointer (some ⟨b, 0, none⟩), .agg (by8 word).toArray, .int .u64 now] B w0 [[(b, m.obj)]] (R1 (.tuple #[]) [(b, (m.ask word now).obj)]) := fun F => by
  have hw1 := by8_one word
  have hw2 : (by8 word).length = 8 := by simp [hw]
  refine fn_enter Try.func13 rfl (by kernel_rfl) Try.ntmps13 (by simp) ?_
  refine Go.Sl.cw_seq ?_
  refine Go.Sl.cw_region ?_
  (refine Go.Sl.ow_box rfl rfl rfl rfl ?_; intro b4)
  refine Go.Sl.ow_nil ?_
  refine Go.Sl.xw_then ?_
  refine Go.Sl.cw_seq ?_
  refine Go.Sl.cw_seq ?_
  refine Go.Sl.cw_region ?_
  refine Go.Sl.ow_val rfl rfl (Go.Sl.v_move rfl) ?_
  refine Go.Sl.ow_val rfl rfl (Go.Sl.v_eql_nil_some Try.underlying24 rfl) ?_
  refine Go.Sl.ow_val rfl rfl (Go.Sl.v_move rfl) ?_
  refine Go.Sl.ow_val rfl rfl (Go.Sl.v_move rfl) ?_
  refine Go.Sl.ow_val rfl rfl (Go.Sl.v_nilCheck rfl) ?_
  refine Go.Sl.ow_val rfl rfl (Go.Sl.v_fieldAddr0 Ty.fd42_1 rfl) ?_
  refine Go.Sl.ow_val rfl rfl (Go.Sl.v_load rfl (Go.Sl.Var.at1 Ty.sc39 (.there .here) (PathM.g_state))) ?_
  refine Go.Sl.ow_val rfl rfl (Go.Sl.v_eql rfl rfl) ?_
  refine Go.Sl.ow_val rfl rfl (Go.Sl.v_pick_false rfl rfl) ?_
  refine Go.Sl.ow_nil ?_
  refine Go.Sl.xw_then ?_
  refine Go.Sl.cw_dec rfl (fun hc14 => ?_) (fun hc14 => ?_)
  refine Go.Sl.cw_ret ?_
  refine Go.Sl.xw_then_ret ?_
  refine Go.Sl.ret0 rfl ?_
  rotate_left
  refine Go.Sl.cw_skip ?_
  refine Go.Sl.xw_then ?_
  refine Go.Sl.cw_seq ?_
  refine Go.Sl.cw_region ?_
  refine Go.Sl.ow_val rfl rfl (Go.Sl.v_move rfl) ?_
  refine Go.Sl.ow_val rfl rfl (Go.Sl.v_nilCheck rfl) ?_
  refine Go.Sl.ow_val rfl rfl (Go.Sl.v_fieldAddr0 Ty.fd42_1 rfl) ?_
  refine Go.Sl.ow_store1 rfl rfl rfl rfl Ty.sc39 (.there .here) (PathM.s_state) ?_
  refine Go.Sl.ow_nil ?_
  refine Go.Sl.xw_then ?_
  refine Go.Sl.cw_region ?_
  refine Go.Sl.ow_val rfl rfl (Go.Sl.v_move rfl) ?_
  refine Go.Sl.ow_val rfl rfl (Go.Sl.v_move rfl) ?_
  refine Go.Sl.ow_val rfl rfl (Go.Sl.v_move rfl) ?_
  refine Go.Sl.ow_val rfl rfl (Go.Sl.v_load rfl (Go.Sl.Var.atN Ty.ag33 .here Go.Sl.GetN.all (by first | rfl | assumption))) ?_
  refine Go.Sl.ow_val rfl rfl (Go.Sl.v_move rfl) ?_
  refine Go.Sl.ow_val rfl rfl (Go.Sl.v_nilCheck rfl) ?_
  refine Go.Sl.ow_val rfl rfl (Go.Sl.v_fieldAddr0 Ty.fd42_4 rfl) ?_
  refine Go.Sl.ow_storeN rfl rfl rfl Ty.ag33 (by first | rfl | assumption) (by first | assumption | simp) (.there .here) (PathM.s_word (by exact ⟨h.inn, h.out, h.word, h.till, h.ws, h.each, h.many, h.num⟩) hw) ?_
  refine Go.Sl.ow_val rfl rfl (Go.Sl.v_nilCheck rfl) ?_
  refine Go.Sl.ow_val rfl rfl (Go.Sl.v_fieldAddr0 Ty.fd42_5 rfl) ?_
  refine Go.Sl.ow_store1 rfl rfl rfl rfl Ty.sc26 (.there .here) (PathM.s_till (by exact hw)) ?_
  refine Go.Sl.ow_val rfl rfl (Go.Sl.v_nilCheck rfl) ?_
  refine Go.Sl.ow_val rfl rfl (Go.Sl.v_fieldAddr0 Ty.fd42_6 rfl) ?_
  refine Go.Sl.ow_store1 rfl rfl rfl rfl Ty.sc4 (.there .here) (PathM.s_asks (by exact hw)) ?_
  refine Go.Sl.ow_nil ?_
  refine Go.Sl.ret0n rfl ?_
  rotate_left
  · rw [show m.ask word now = m from by simp [PathM.ask, hc14]]
    exact done1 rfl (by repeat (first | exact List.Sublist.refl _ | refine List.Sublist.cons_cons _ ?_ | refine List.Sublist.cons _ ?_))
  · rw [show m.ask word now = { m with state := 1, word := word, till := now, asks := true } from by simp [PathM.ask, hc14]]
    exact done1 rfl (by repeat (first | exact List.Sublist.refl _ | refine List.Sublist.cons_cons _ ?_ | refine List.Sublist.cons _ ?_))

def zero8 : List Int := [0, 0, 0, 0, 0, 0, 0, 0]
theorem b0 : Build Try.prog 33 #[] (.agg (by8 zero8).toArray) := fun w => by kernel_rfl

def PathM.asksV (m : PathM) : List Int × Bool := if m.asks = true ∧ m.state = 1 then (m.word, true) else (zero8, false)
theorem asks_c {B : Nat} {w0 : World} {b : Nat} {m : PathM} (h : m.WF) :
    FnC Try.prog 14 #[.pointer (some ⟨b, 0, none⟩)] B w0 [[(b, m.obj)]] (R1 (.tuple #[.agg (by8 m.asksV.1).toArray, .bool m.asksV.2]) [(b, m.obj)]) := fun F => by
  have hw0 := h.word
  have hw2 : (by8 m.word).length = 8 := by simp [h.word]
  have hw1 := by8_one m.word
  have hz := by8_one zero8
  refine fn_enter Try.func14 rfl (by kernel_rfl) Try.ntmps14 (by simp) ?_
  refine Go.Sl.cw_seq ?_
  refine Go.Sl.cw_region ?_
  (refine Go.Sl.ow_alloc rfl rfl Ty.ze33 ?_; intro b2)
  refine Go.Sl.ow_val rfl rfl (Go.Sl.v_assign rfl) ?_
  refine Go.Sl.ow_nil ?_
  refine Go.Sl.xw_then ?_
  refine Go.Sl.cw_seq ?_
  refine Go.Sl.cw_seq ?_
  refine Go.Sl.cw_region ?_
  refine Go.Sl.ow_val rfl rfl (Go.Sl.v_move rfl) ?_
  refine Go.Sl.ow_val rfl rfl (Go.Sl.v_eql_nil_some Try.underlying24 rfl) ?_
  refine Go.Sl.ow_val rfl rfl (Go.Sl.v_move rfl) ?_
  refine Go.Sl.ow_val rfl rfl (Go.Sl.v_move rfl) ?_
  refine Go.Sl.ow_val rfl rfl (Go.Sl.v_nilCheck rfl) ?_
  refine Go.Sl.ow_val rfl rfl (Go.Sl.v_fieldAddr0 Ty.fd42_6 rfl) ?_
  refine Go.Sl.ow_val rfl rfl (Go.Sl.v_load rfl (Go.Sl.Var.at1 Ty.sc4 (.there .here) (PathM.g_asks h))) ?_
  refine Go.Sl.ow_val rfl rfl (Go.Sl.v_not_bool rfl) ?_
  refine Go.Sl.ow_val rfl rfl (Go.Sl.v_pick_false rfl rfl) ?_
  refine Go.Sl.ow_val rfl rfl (Go.Sl.v_move rfl) ?_
  refine Go.Sl.ow_bool 13 rfl (fun hc13 => ?_) (fun hc13 => ?_)
  refine Go.Sl.ow_skip rfl rfl ?_
  refine Go.Sl.ow_skip rfl rfl ?_
  refine Go.Sl.ow_skip rfl rfl ?_
  refine Go.Sl.ow_skip rfl rfl ?_
  refine Go.Sl.ow_skip rfl rfl ?_
  refine Go.Sl.ow_val rfl rfl (Go.Sl.v_pick_true rfl rfl) ?_
  refine Go.Sl.ow_nil ?_
  refine Go.Sl.xw_then ?_
  refine Go.Sl.cw_true rfl ?_
  refine Go.Sl.cw_seq ?_
  refine Go.Sl.cw_region ?_
  refine Go.Sl.ow_val rfl rfl (Go.Sl.v_build rfl (b0)) ?_
  refine Go.Sl.ow_storeN rfl rfl rfl Ty.ag33 (by first | rfl | assumption) (by first | assumption | simp) .here (Go.Sl.SetN.all (by first | rfl | assumption | simp_all)) ?_
  refine Go.Sl.ow_val rfl rfl (Go.Sl.v_assign rfl) ?_
  refine Go.Sl.ow_nil ?_
  refine Go.Sl.xw_then ?_
  refine Go.Sl.cw_ret ?_
  refine Go.Sl.xw_then_ret ?_
  refine Go.Sl.ret2 rfl (Go.Sl.res_cell rfl (Go.Sl.Var.atN Ty.ag33 .here Go.Sl.GetN.all (by first | rfl | assumption))) (Go.Sl.res_tmp rfl) ?_
  rotate_left
  refine Go.Sl.ow_val rfl rfl (Go.Sl.v_move rfl) ?_
  refine Go.Sl.ow_val rfl rfl (Go.Sl.v_nilCheck rfl) ?_
  refine Go.Sl.ow_val rfl rfl (Go.Sl.v_fieldAddr0 Ty.fd42_1 rfl) ?_
  refine Go.Sl.ow_val rfl rfl (Go.Sl.v_load rfl (Go.Sl.Var.at1 Ty.sc39 (.there .here) (PathM.g_state))) ?_
  refine Go.Sl.ow_val rfl rfl (Go.Sl.v_neq rfl rfl) ?_
  refine Go.Sl.ow_val rfl rfl (Go.Sl.v_pick_false rfl rfl) ?_
  refine Go.Sl.ow_nil ?_
  refine Go.Sl.xw_then ?_
  refine Go.Sl.cw_dec rfl (fun hc19 => ?_) (fun hc19 => ?_)
  refine Go.Sl.cw_seq ?_
  refine Go.Sl.cw_region ?_
  refine Go.Sl.ow_val rfl rfl (Go.Sl.v_build rfl (b0)) ?_
  refine Go.Sl.ow_storeN rfl rfl rfl Ty.ag33 (by first | rfl | assumption) (by first | assumption | simp) .here (Go.Sl.SetN.all (by first | rfl | assumption | simp_all)) ?_
  refine Go.Sl.ow_val rfl rfl (Go.Sl.v_assign rfl) ?_
  refine Go.Sl.ow_nil ?_
  refine Go.Sl.xw_then ?_
  refine Go.Sl.cw_ret ?_
  refine Go.Sl.xw_then_ret ?_
  refine Go.Sl.ret2 rfl (Go.Sl.res_cell rfl (Go.Sl.Var.atN Ty.ag33 .here Go.Sl.GetN.all (by first | rfl | assumption))) (Go.Sl.res_tmp rfl) ?_
  rotate_left
  refine Go.Sl.cw_skip ?_
  refine Go.Sl.xw_then ?_
  refine Go.Sl.cw_seq ?_
  refine Go.Sl.cw_region ?_
  refine Go.Sl.ow_val rfl rfl (Go.Sl.v_move rfl) ?_
  refine Go.Sl.ow_val rfl rfl (Go.Sl.v_nilCheck rfl) ?_
  refine Go.Sl.ow_val rfl rfl (Go.Sl.v_fieldAddr0 Ty.fd42_4 rfl) ?_
  refine Go.Sl.ow_val rfl rfl (Go.Sl.v_load rfl (Go.Sl.Var.atN Ty.ag33 (.there .here) (PathM.g_word) (by first | rfl | assumption))) ?_
  refine Go.Sl.ow_storeN rfl rfl rfl Ty.ag33 (by first | rfl | assumption) (by first | assumption | simp) .here (Go.Sl.SetN.all (by first | rfl | assumption | simp_all)) ?_
  refine Go.Sl.ow_val rfl rfl (Go.Sl.v_assign rfl) ?_
  refine Go.Sl.ow_nil ?_
  refine Go.Sl.xw_then ?_
  refine Go.Sl.cw_ret ?_
  refine Go.Sl.ret2 rfl (Go.Sl.res_cell rfl (Go.Sl.Var.atN Ty.ag33 .here Go.Sl.GetN.all (by first | rfl | assumption))) (Go.Sl.res_tmp rfl) ?_
  rotate_left
  · rw [show m.asksV = (zero8, false) from by simp at hc13; simp [PathM.asksV, hc13]]
    exact done1 rfl (by repeat (first | exact List.Sublist.refl _ | refine List.Sublist.cons_cons _ ?_ | refine List.Sublist.cons _ ?_))
  · rw [show m.asksV = (zero8, false) from by simp [PathM.asksV, hc19]]
    exact done1 rfl (by repeat (first | exact List.Sublist.refl _ | refine List.Sublist.cons_cons _ ?_ | refine List.Sublist.cons _ ?_))
  · rw [show m.asksV = (m.word, true) from by simp at hc13 hc19; simp [PathM.asksV, hc13, hc19]]
    exact done1 rfl (by repeat (first | exact List.Sublist.refl _ | refine List.Sublist.cons_cons _ ?_ | refine List.Sublist.cons _ ?_))

theorem response_c {B : Nat} {w0 : World} {b : Nat} {m : PathM} {word : List Int} (h : m.WF) (hw : word.length = 8) :
    FnC Try.prog 19 #[.pointer (some ⟨b, 0, none⟩), .agg (by8 word).toArray] B w0 [[(b, m.obj)]] (R1 (.bool (m.response word).2) [(b, (m.response word).1.obj)]) := fun F => by
  have hw2 : (by8 m.word).length = 8 := by simp [h.word]
  have hw3 : (by8 word).length = 8 := by simp [hw]
  refine fn_enter Try.func19 rfl (by kernel_rfl) Try.ntmps19 (by simp) ?_
  refine Go.Sl.cw_seq ?_
  refine Go.Sl.cw_region ?_
  (refine Go.Sl.ow_box rfl rfl rfl rfl ?_; intro b3)
  refine Go.Sl.ow_val rfl rfl (Go.Sl.v_assign rfl) ?_
  refine Go.Sl.ow_nil ?_
  refine Go.Sl.xw_then ?_
  refine Go.Sl.cw_seq ?_
  refine Go.Sl.cw_seq ?_
  refine Go.Sl.cw_quiet Ty.mixed (by decide +kernel) ?_
  refine Go.Sl.kw_val rfl rfl (Go.Sl.v_move rfl) ?_
  refine Go.Sl.kw_val rfl rfl (Go.Sl.v_eql_nil_some Try.underlying24 rfl) ?_
  refine Go.Sl.kw_val rfl rfl (Go.Sl.v_move rfl) ?_
  refine Go.Sl.kw_val rfl rfl (Go.Sl.v_move rfl) ?_
  refine Go.Sl.kw_val rfl rfl (Go.Sl.v_nilCheck rfl) ?_
  refine Go.Sl.kw_val rfl rfl (Go.Sl.v_fieldAddr0 Ty.fd42_1 rfl) ?_
  refine Go.Sl.kw_val rfl rfl (Go.Sl.v_load rfl (Go.Sl.Var.at1 Ty.sc39 (.there .here) (PathM.g_state))) ?_
  refine Go.Sl.kw_val rfl rfl (Go.Sl.v_neq rfl rfl) ?_
  refine Go.Sl.kw_val rfl rfl (Go.Sl.v_pick_false rfl rfl) ?_
  refine Go.Sl.kw_val rfl rfl (Go.Sl.v_move rfl) ?_
  refine Go.Sl.kw_dec 14 rfl (fun hc14 => ?_) (fun hc14 => ?_)
  refine Go.Sl.kw_skip rfl rfl ?_
  refine Go.Sl.kw_skip rfl rfl ?_
  refine Go.Sl.kw_skip rfl rfl ?_
  refine Go.Sl.kw_skip rfl rfl ?_
  refine Go.Sl.kw_skip rfl rfl ?_
  refine Go.Sl.kw_skip rfl rfl ?_
  refine Go.Sl.kw_val rfl rfl (Go.Sl.v_pick_true rfl rfl) ?_
  refine Go.Sl.kw_nil ?_
  refine Go.Sl.xw_then ?_
  refine Go.Sl.cw_true rfl ?_
  refine Go.Sl.cw_seq ?_
  refine Go.Sl.cw_region ?_
  refine Go.Sl.ow_val rfl rfl (Go.Sl.v_assign rfl) ?_
  refine Go.Sl.ow_nil ?_
  refine Go.Sl.xw_then ?_
  refine Go.Sl.cw_ret ?_
  refine Go.Sl.xw_then_ret ?_
  refine Go.Sl.ret1 rfl (Go.Sl.res_tmp rfl) ?_
  rotate_left
  refine Go.Sl.kw_val rfl rfl (Go.Sl.v_move rfl) ?_
  refine Go.Sl.kw_val rfl rfl (Go.Sl.v_nilCheck rfl) ?_
  refine Go.Sl.kw_val rfl rfl (Go.Sl.v_fieldAddr0 Ty.fd42_4 rfl) ?_
  refine Go.Sl.kw_val rfl rfl (Go.Sl.v_load rfl (Go.Sl.Var.atN Ty.ag33 (.there .here) (PathM.g_word) (by first | rfl | assumption))) ?_
  refine Go.Sl.kw_val rfl rfl (Go.Sl.v_load rfl (Go.Sl.Var.atN Ty.ag33 .here Go.Sl.GetN.all (by first | rfl | assumption))) ?_
  refine Go.Sl.kw_val rfl rfl (Go.Sl.v_neqA rfl rfl Ty.gt33 (eq8 h.word hw)) ?_
  refine Go.Sl.kw_val rfl rfl (Go.Sl.v_pick_false rfl rfl) ?_
  refine Go.Sl.kw_nil ?_
  refine Go.Sl.xw_then ?_
  refine Go.Sl.cw_dec rfl (fun hc21 => ?_) (fun hc21 => ?_)
  refine Go.Sl.cw_seq ?_
  refine Go.Sl.cw_region ?_
  refine Go.Sl.ow_val rfl rfl (Go.Sl.v_assign rfl) ?_
  refine Go.Sl.ow_nil ?_
  refine Go.Sl.xw_then ?_
  refine Go.Sl.cw_ret ?_
  refine Go.Sl.xw_then_ret ?_
  refine Go.Sl.ret1 rfl (Go.Sl.res_tmp rfl) ?_
  rotate_left
  refine Go.Sl.cw_skip ?_
  refine Go.Sl.xw_then ?_
  refine Go.Sl.cw_seq ?_
  refine Go.Sl.cw_region ?_
  refine Go.Sl.ow_val rfl rfl (Go.Sl.v_move rfl) ?_
  (refine Go.Sl.ow_call rfl rfl rfl rfl (Go.Sl.Fn.c1q (.there .here) (know_c h)) ?_; rintro _ _ ⟨rfl, rfl⟩)
  refine Go.Sl.ow_nil ?_
  refine Go.Sl.xw_then ?_
  refine Go.Sl.cw_seq ?_
  refine Go.Sl.cw_region ?_
  refine Go.Sl.ow_val rfl rfl (Go.Sl.v_assign rfl) ?_
  refine Go.Sl.ow_nil ?_
  refine Go.Sl.xw_then ?_
  refine Go.Sl.cw_ret ?_
  refine Go.Sl.ret1 rfl (Go.Sl.res_tmp rfl) ?_
  rotate_left
  · rw [show m.response word = (m, false) from by simp [PathM.response, hc14]]
    exact done1 rfl (by repeat (first | exact List.Sublist.refl _ | refine List.Sublist.cons_cons _ ?_ | refine List.Sublist.cons _ ?_))
  · rw [show m.response word = (m, false) from by simp [PathM.response, hc21]]
    exact done1 rfl (by repeat (first | exact List.Sublist.refl _ | refine List.Sublist.cons_cons _ ?_ | refine List.Sublist.cons _ ?_))
  · rw [show m.response word = (m.know, true) from by simp at hc14 hc21; simp [PathM.response, hc14, hc21]]
    exact done1 rfl (by repeat (first | exact List.Sublist.refl _ | refine List.Sublist.cons_cons _ ?_ | refine List.Sublist.cons _ ?_))

theorem lost_c {B : Nat} {w0 : World} {b : Nat} {m : PathM} {word : List Int} (h : m.WF) (hw : word.length = 8) :
    FnC Try.prog 20 #[.pointer (some ⟨b, 0, none⟩), .agg (by8 word).toArray] B w0 [[(b, m.obj)]] (R1 (.tuple #[]) [(b, (m.lost word).obj)]) := fun F => by
  have hw2 : (by8 m.word).length = 8 := by simp [h.word]
  have hw3 : (by8 word).length = 8 := by simp [hw]
  refine fn_enter Try.func20 rfl (by kernel_rfl) Try.ntmps20 (by simp) ?_
  refine Go.Sl.cw_seq ?_
  refine Go.Sl.cw_region ?_
  (refine Go.Sl.ow_box rfl rfl rfl rfl ?_; intro b3)
  refine Go.Sl.ow_nil ?_
  refine Go.Sl.xw_then ?_
  refine Go.Sl.cw_seq ?_
  refine Go.Sl.cw_quiet Ty.mixed (by decide +kernel) ?_
  refine Go.Sl.kw_val rfl rfl (Go.Sl.v_move rfl) ?_
  refine Go.Sl.kw_val rfl rfl (Go.Sl.v_neq_nil_some Try.underlying24 rfl) ?_
  refine Go.Sl.kw_val rfl rfl (Go.Sl.v_move rfl) ?_
  refine Go.Sl.kw_val rfl rfl (Go.Sl.v_move rfl) ?_
  refine Go.Sl.kw_val rfl rfl (Go.Sl.v_nilCheck rfl) ?_
  refine Go.Sl.kw_val rfl rfl (Go.Sl.v_fieldAddr0 Ty.fd42_1 rfl) ?_
  refine Go.Sl.kw_val rfl rfl (Go.Sl.v_load rfl (Go.Sl.Var.at1 Ty.sc39 (.there .here) (PathM.g_state))) ?_
  refine Go.Sl.kw_val rfl rfl (Go.Sl.v_eql rfl rfl) ?_
  refine Go.Sl.kw_val rfl rfl (Go.Sl.v_pick_true rfl rfl) ?_
  refine Go.Sl.kw_val rfl rfl (Go.Sl.v_move rfl) ?_
  refine Go.Sl.kw_dec 13 rfl (fun hc13 => ?_) (fun hc13 => ?_)
  refine Go.Sl.kw_val rfl rfl (Go.Sl.v_move rfl) ?_
  refine Go.Sl.kw_val rfl rfl (Go.Sl.v_nilCheck rfl) ?_
  refine Go.Sl.kw_val rfl rfl (Go.Sl.v_fieldAddr0 Ty.fd42_4 rfl) ?_
  refine Go.Sl.kw_val rfl rfl (Go.Sl.v_load rfl (Go.Sl.Var.atN Ty.ag33 (.there .here) (PathM.g_word) (by first | rfl | assumption))) ?_
  refine Go.Sl.kw_val rfl rfl (Go.Sl.v_load rfl (Go.Sl.Var.atN Ty.ag33 .here Go.Sl.GetN.all (by first | rfl | assumption))) ?_
  refine Go.Sl.kw_val rfl rfl (Go.Sl.v_eqlA rfl rfl Ty.gt33 (eq8 h.word hw)) ?_
  refine Go.Sl.kw_val rfl rfl (Go.Sl.v_pick_true rfl rfl) ?_
  refine Go.Sl.kw_nil ?_
  refine Go.Sl.xw_then ?_
  refine Go.Sl.cw_dec rfl (fun hc20 => ?_) (fun hc20 => ?_)
  refine Go.Sl.cw_region ?_
  refine Go.Sl.ow_val rfl rfl (Go.Sl.v_move rfl) ?_
  refine Go.Sl.ow_val rfl rfl (Go.Sl.v_nilCheck rfl) ?_
  refine Go.Sl.ow_val rfl rfl (Go.Sl.v_fieldAddr0 Ty.fd42_6 rfl) ?_
  refine Go.Sl.ow_store1 rfl rfl rfl rfl Ty.sc4 (.there .here) (PathM.s_asks (by exact h.word)) ?_
  refine Go.Sl.ow_nil ?_
  refine Go.Sl.ret0n rfl ?_
  rotate_left
  refine Go.Sl.cw_skip ?_
  refine Go.Sl.ret0n rfl ?_
  rotate_left
  refine Go.Sl.kw_skip rfl rfl ?_
  refine Go.Sl.kw_skip rfl rfl ?_
  refine Go.Sl.kw_skip rfl rfl ?_
  refine Go.Sl.kw_skip rfl rfl ?_
  refine Go.Sl.kw_skip rfl rfl ?_
  refine Go.Sl.kw_skip rfl rfl ?_
  refine Go.Sl.kw_val rfl rfl (Go.Sl.v_pick_false rfl rfl) ?_
  refine Go.Sl.kw_nil ?_
  refine Go.Sl.xw_then ?_
  refine Go.Sl.cw_false rfl ?_
  refine Go.Sl.cw_skip ?_
  refine Go.Sl.ret0n rfl ?_
  rotate_left
  · rw [show m.lost word = { m with asks := true } from by simp [PathM.lost, hc13, hc20]]
    exact done1 rfl (by repeat (first | exact List.Sublist.refl _ | refine List.Sublist.cons_cons _ ?_ | refine List.Sublist.cons _ ?_))
  · rw [show m.lost word = m from by simp [PathM.lost, hc20]]
    exact done1 rfl (by repeat (first | exact List.Sublist.refl _ | refine List.Sublist.cons_cons _ ?_ | refine List.Sublist.cons _ ?_))
  · rw [show m.lost word = m from by simp [PathM.lost, hc13]]
    exact done1 rfl (by repeat (first | exact List.Sublist.refl _ | refine List.Sublist.cons_cons _ ?_ | refine List.Sublist.cons _ ?_))

theorem challenged_c {B : Nat} {w0 : World} {b : Nat} {m : PathM} {word : List Int} (h : m.WF) (hw : word.length = 8) :
    FnC Try.prog 16 #[.pointer (some ⟨b, 0, none⟩), .agg (by8 word).toArray] B w0 [[(b, m.obj)]] (R1 (.tuple #[]) [(b, (m.challenged word).obj)]) := fun F => by
  have hw1 := by8_one word
  have hw2 : (by8 m.word).length = 8 := by simp [h.word]
  have hw3 : (by8 word).length = 8 := by simp [hw]
  have hmany := h.many
  refine fn_enter Try.func16 rfl (by kernel_rfl) Try.ntmps16 (by simp) ?_
  have h8 : ∀ i, ∀ w ∈ m.ws.set i word, w.length = 8 := fun i w hm => by
    rcases List.mem_or_eq_of_mem_set hm with h1 | h1
    · exact h.each w h1
    · rw [h1, hw]
  have hflat : ∀ i, i < 4 → (m.ws.set i word).flatten.length = 32 := fun i hi => by
    have := flat_take (h8 i) 4 (by simp [h.ws])
    rwa [List.take_of_length_le (by simp [h.ws])] at this
  have hg : GetN ({ m with ws := m.ws.set m.many word } : PathM).obj 46 [.int .i64 m.many] := PathM.g_many (m := { m with ws := m.ws.set m.many word }) ⟨h.inn, h.out, h.word, h.till, by simp [h.ws], h8 _, h.many, h.num⟩
  refine Go.Sl.cw_seq ?_
  refine Go.Sl.cw_region ?_
  (refine Go.Sl.ow_box rfl rfl rfl rfl ?_; intro b3)
  refine Go.Sl.ow_nil ?_
  refine Go.Sl.xw_then ?_
  refine Go.Sl.cw_seq ?_
  refine Go.Sl.cw_region ?_
  refine Go.Sl.ow_val rfl rfl (Go.Sl.v_move rfl) ?_
  refine Go.Sl.ow_val rfl rfl (Go.Sl.v_neq_nil_some Try.underlying24 rfl) ?_
  refine Go.Sl.ow_val rfl rfl (Go.Sl.v_move rfl) ?_
  refine Go.Sl.ow_val rfl rfl (Go.Sl.v_move rfl) ?_
  refine Go.Sl.ow_val rfl rfl (Go.Sl.v_nilCheck rfl) ?_
  refine Go.Sl.ow_val rfl rfl (Go.Sl.v_fieldAddr0 Ty.fd42_8 rfl) ?_
  refine Go.Sl.ow_val rfl rfl (Go.Sl.v_load rfl (Go.Sl.Var.at1 Ty.sc3 (.there .here) (PathM.g_many h))) ?_
  refine Go.Sl.ow_val rfl rfl (Go.Sl.v_lss rfl rfl) ?_
  refine Go.Sl.ow_val rfl rfl (Go.Sl.v_pick_true rfl rfl) ?_
  refine Go.Sl.ow_nil ?_
  refine Go.Sl.xw_then ?_
  refine Go.Sl.cw_dec rfl (fun hc12 => ?_) (fun hc12 => ?_)
  refine Go.Sl.cw_seq ?_
  refine Go.Sl.cw_mix [9] [0, 1, 2, 3, 4, 5, 6, 7, 8] Ty.mixed rfl rfl (by decide) rfl (by decide +kernel) ?_
  refine Go.Sl.hw_pure rfl rfl (Go.Sl.v_move rfl) rfl ?_
  refine Go.Sl.hw_pure rfl rfl (Go.Sl.v_move rfl) rfl ?_
  refine Go.Sl.hw_pure rfl rfl (Go.Sl.v_nilCheck rfl) rfl ?_
  refine Go.Sl.hw_pure rfl rfl (Go.Sl.v_fieldAddr0 Ty.fd42_8 rfl) rfl ?_
  refine Go.Sl.hw_read rfl rfl rfl (Go.Sl.v_load rfl (Go.Sl.Var.at1 Ty.sc3 (.there .here) (PathM.g_many h))) ?_
  refine Go.Sl.hw_read rfl rfl rfl (Go.Sl.v_load rfl (Go.Sl.Var.atN Ty.ag33 .here Go.Sl.GetN.all (by first | rfl | assumption))) ?_
  refine Go.Sl.hw_pure rfl rfl (Go.Sl.v_nilCheck rfl) rfl ?_
  refine Go.Sl.hw_pure rfl rfl (Go.Sl.v_fieldAddr0 Ty.fd42_7 rfl) rfl ?_
  refine Go.Sl.hw_pure rfl rfl (Go.Sl.v_indexAddrA Try.underlying40 Ty.el40 rfl rfl rfl (by omega)) rfl ?_
  refine Go.Sl.hw_nil ?_
  refine Go.Sl.ow_storeN rfl rfl rfl Ty.ag33 (by first | rfl | assumption) (by first | assumption | simp) (.there .here) (PathM.s_w h hw (by omega)) ?_
  refine Go.Sl.ow_nil ?_
  refine Go.Sl.xw_np ?_
  refine Go.Sl.xw_then ?_
  refine Go.Sl.cw_region ?_
  refine Go.Sl.ow_val rfl rfl (Go.Sl.v_move rfl) ?_
  refine Go.Sl.ow_val rfl rfl (Go.Sl.v_nilCheck rfl) ?_
  refine Go.Sl.ow_val rfl rfl (Go.Sl.v_fieldAddr0 Ty.fd42_8 rfl) ?_
  refine Go.Sl.ow_val rfl rfl (Go.Sl.v_load rfl (Go.Sl.Var.at1 Ty.sc3 (.there .here) (hg))) ?_
  refine Go.Sl.ow_val rfl rfl (Go.Sl.v_add rfl rfl (Go.Sl.nw_i64 (by omega) (by omega))) ?_
  refine Go.Sl.ow_val rfl rfl (Go.Sl.v_nilCheck rfl) ?_
  refine Go.Sl.ow_val rfl rfl (Go.Sl.v_fieldAddr0 Ty.fd42_8 rfl) ?_
  refine Go.Sl.ow_store1 rfl rfl rfl rfl Ty.sc3 (.there .here) (PathM.s_many' (by exact h.word) (hflat _ (by omega)) (m.many + 1) (by omega)) ?_
  refine Go.Sl.ow_nil ?_
  refine Go.Sl.ret0n rfl ?_
  rotate_left
  refine Go.Sl.cw_skip ?_
  refine Go.Sl.ret0n rfl ?_
  rotate_left
  · rw [show m.challenged word = { m with ws := m.ws.set m.many word, many := m.many + 1 } from by simp [PathM.challenged]; omega]
    exact done1 rfl (by repeat (first | exact List.Sublist.refl _ | refine List.Sublist.cons_cons _ ?_ | refine List.Sublist.cons _ ?_))
  · rw [show m.challenged word = m from by simp [PathM.challenged]; omega]
    exact done1 rfl (by repeat (first | exact List.Sublist.refl _ | refine List.Sublist.cons_cons _ ?_ | refine List.Sublist.cons _ ?_))

theorem answer_c {B : Nat} {w0 : World} {b : Nat} {m : PathM} {u : List Int} (h : m.WF) (hu : m.ws[0]? = some u) :
    FnC Try.prog 17 #[.pointer (some ⟨b, 0, none⟩)] B w0 [[(b, m.obj)]] (R1 (if m.many = 0 then .tuple #[.agg (by8 zero8).toArray, .bool false] else .tuple #[.agg (by8 u).toArray, .bool true]) [(b, m.obj)]) := fun F => by
  have hul : u.length = 8 := h.each u (List.mem_of_getElem? hu)
  have hw1 := by8_one u
  have hz := by8_one zero8
  have hw3 : (by8 u).length = 8 := by simp [hul]
  refine fn_enter Try.func17 rfl (by kernel_rfl) Try.ntmps17 (by simp) ?_
  refine Go.Sl.cw_seq ?_
  refine Go.Sl.cw_region ?_
  (refine Go.Sl.ow_alloc rfl rfl Ty.ze33 ?_; intro b2)
  refine Go.Sl.ow_val rfl rfl (Go.Sl.v_assign rfl) ?_
  refine Go.Sl.ow_nil ?_
  refine Go.Sl.xw_then ?_
  refine Go.Sl.cw_seq ?_
  refine Go.Sl.cw_seq ?_
  refine Go.Sl.cw_region ?_
  refine Go.Sl.ow_val rfl rfl (Go.Sl.v_move rfl) ?_
  refine Go.Sl.ow_val rfl rfl (Go.Sl.v_eql_nil_some Try.underlying24 rfl) ?_
  refine Go.Sl.ow_val rfl rfl (Go.Sl.v_move rfl) ?_
  refine Go.Sl.ow_val rfl rfl (Go.Sl.v_move rfl) ?_
  refine Go.Sl.ow_val rfl rfl (Go.Sl.v_nilCheck rfl) ?_
  refine Go.Sl.ow_val rfl rfl (Go.Sl.v_fieldAddr0 Ty.fd42_8 rfl) ?_
  refine Go.Sl.ow_val rfl rfl (Go.Sl.v_load rfl (Go.Sl.Var.at1 Ty.sc3 (.there .here) (PathM.g_many h))) ?_
  refine Go.Sl.ow_val rfl rfl (Go.Sl.v_eql rfl rfl) ?_
  refine Go.Sl.ow_val rfl rfl (Go.Sl.v_pick_false rfl rfl) ?_
  refine Go.Sl.ow_nil ?_
  refine Go.Sl.xw_then ?_
  refine Go.Sl.cw_dec rfl (fun hc12 => ?_) (fun hc12 => ?_)
  refine Go.Sl.cw_seq ?_
  refine Go.Sl.cw_region ?_
  refine Go.Sl.ow_val rfl rfl (Go.Sl.v_build rfl (b0)) ?_
  refine Go.Sl.ow_storeN rfl rfl rfl Ty.ag33 (by first | rfl | assumption) (by first | assumption | simp) .here (Go.Sl.SetN.all (by first | rfl | assumption | simp_all)) ?_
  refine Go.Sl.ow_val rfl rfl (Go.Sl.v_assign rfl) ?_
  refine Go.Sl.ow_nil ?_
  refine Go.Sl.xw_then ?_
  refine Go.Sl.cw_ret ?_
  refine Go.Sl.xw_then_ret ?_
  refine Go.Sl.ret2 rfl (Go.Sl.res_cell rfl (Go.Sl.Var.atN Ty.ag33 .here Go.Sl.GetN.all (by first | rfl | assumption))) (Go.Sl.res_tmp rfl) ?_
  rotate_left
  refine Go.Sl.cw_skip ?_
  refine Go.Sl.xw_then ?_
  refine Go.Sl.cw_seq ?_
  refine Go.Sl.cw_region ?_
  refine Go.Sl.ow_val rfl rfl (Go.Sl.v_move rfl) ?_
  refine Go.Sl.ow_val rfl rfl (Go.Sl.v_nilCheck rfl) ?_
  refine Go.Sl.ow_val rfl rfl (Go.Sl.v_fieldAddr0 Ty.fd42_7 rfl) ?_
  refine Go.Sl.ow_val rfl rfl (Go.Sl.v_indexAddrA (i := 0) Try.underlying40 Ty.el40 rfl rfl rfl (by omega)) ?_
  refine Go.Sl.ow_val rfl rfl (Go.Sl.v_load rfl (Go.Sl.Var.atN Ty.ag33 (.there .here) (PathM.g_w h hu) (by first | rfl | assumption))) ?_
  refine Go.Sl.ow_storeN rfl rfl rfl Ty.ag33 (by first | rfl | assumption) (by first | assumption | simp) .here (Go.Sl.SetN.all (by first | rfl | assumption | simp_all)) ?_
  refine Go.Sl.ow_val rfl rfl (Go.Sl.v_assign rfl) ?_
  refine Go.Sl.ow_nil ?_
  refine Go.Sl.xw_then ?_
  refine Go.Sl.cw_ret ?_
  refine Go.Sl.ret2 rfl (Go.Sl.res_cell rfl (Go.Sl.Var.atN Ty.ag33 .here Go.Sl.GetN.all (by first | rfl | assumption))) (Go.Sl.res_tmp rfl) ?_
  rotate_left
  · have h0 : m.many = 0 := by omega
    rw [if_pos h0]
    exact done1 rfl (by repeat (first | exact List.Sublist.refl _ | refine List.Sublist.cons_cons _ ?_ | refine List.Sublist.cons _ ?_))
  · have h0 : ¬ m.many = 0 := by omega
    rw [if_neg h0]
    exact done1 rfl (by repeat (first | exact List.Sublist.refl _ | refine List.Sublist.cons_cons _ ?_ | refine List.Sublist.cons _ ?_))

theorem answered_c {B : Nat} {w0 : World} {b : Nat} {m : PathM} (h : m.WF) :
    FnC Try.prog 18 #[.pointer (some ⟨b, 0, none⟩)] B w0 [[(b, m.obj)]] (R1 (.tuple #[]) [(b, m.answered.obj)]) := fun F => by
  have hmany := h.many
  refine fn_enter Try.func18 rfl (by kernel_rfl) Try.ntmps18 (by simp) ?_
  refine Go.Sl.cw_seq ?_
  refine Go.Sl.cw_seq ?_
  refine Go.Sl.cw_region ?_
  refine Go.Sl.ow_val rfl rfl (Go.Sl.v_move rfl) ?_
  refine Go.Sl.ow_val rfl rfl (Go.Sl.v_eql_nil_some Try.underlying24 rfl) ?_
  refine Go.Sl.ow_val rfl rfl (Go.Sl.v_move rfl) ?_
  refine Go.Sl.ow_val rfl rfl (Go.Sl.v_move rfl) ?_
  refine Go.Sl.ow_val rfl rfl (Go.Sl.v_nilCheck rfl) ?_
  refine Go.Sl.ow_val rfl rfl (Go.Sl.v_fieldAddr0 Ty.fd42_8 rfl) ?_
  refine Go.Sl.ow_val rfl rfl (Go.Sl.v_load rfl (Go.Sl.Var.at1 Ty.sc3 .here (PathM.g_many h))) ?_
  refine Go.Sl.ow_val rfl rfl (Go.Sl.v_eql rfl rfl) ?_
  refine Go.Sl.ow_val rfl rfl (Go.Sl.v_pick_false rfl rfl) ?_
  refine Go.Sl.ow_nil ?_
  refine Go.Sl.xw_then ?_
  refine Go.Sl.cw_dec rfl (fun hc10 => ?_) (fun hc10 => ?_)
  refine Go.Sl.cw_ret ?_
  refine Go.Sl.xw_then_ret ?_
  refine Go.Sl.ret0 rfl ?_
  rotate_left
  refine Go.Sl.cw_skip ?_
  refine Go.Sl.xw_then ?_
  refine Go.Sl.cw_seq ?_
  refine Go.Sl.cw_mix [8] [0, 1, 2, 3, 4, 5, 6, 7] Ty.mixed rfl rfl (by decide) rfl (by decide +kernel) ?_
  refine Go.Sl.hw_pure rfl rfl (Go.Sl.v_move rfl) rfl ?_
  refine Go.Sl.hw_pure rfl rfl (Go.Sl.v_nilCheck rfl) rfl ?_
  refine Go.Sl.hw_pure rfl rfl (Go.Sl.v_fieldAddr0 Ty.fd42_7 rfl) rfl ?_
  refine Go.Sl.hw_pure rfl rfl (Go.Sl.v_sliceA_nn Try.underlying40 Ty.el40 rfl) rfl ?_
  refine Go.Sl.hw_pure rfl rfl (Go.Sl.v_move rfl) rfl ?_
  refine Go.Sl.hw_pure rfl rfl (Go.Sl.v_nilCheck rfl) rfl ?_
  refine Go.Sl.hw_pure rfl rfl (Go.Sl.v_fieldAddr0 Ty.fd42_7 rfl) rfl ?_
  refine Go.Sl.hw_pure rfl rfl (Go.Sl.v_sliceA_ln (l := 1) Try.underlying40 Ty.el40 rfl rfl rfl (by omega)) rfl ?_
  refine Go.Sl.hw_nil ?_
  rotate_left
  · rw [show m.answered = m from by simp [PathM.answered]; omega]
    exact done1 rfl (by repeat (first | exact List.Sublist.refl _ | refine List.Sublist.cons_cons _ ?_ | refine List.Sublist.cons _ ?_))
  have h8 : ∀ w ∈ m.ws.drop 1 ++ m.ws.drop 3, w.length = 8 := fun w hm => by
    rcases List.mem_append.1 hm with h1 | h1
    · exact h.each w (List.mem_of_mem_drop h1)
    · exact h.each w (List.mem_of_mem_drop h1)
  have h9 : (m.ws.drop 1 ++ m.ws.drop 3).flatten.length = 32 := by
    have := flat_take h8 4 (by simp [h.ws])
    rwa [List.take_of_length_le (by simp [h.ws])] at this
  have h10 : (m.ws.drop 1).flatten.length = 24 := by
    have := flat_take (ws := m.ws.drop 1) (fun w hm => h.each w (List.mem_of_mem_drop hm)) 3 (by simp [h.ws])
    rwa [List.take_of_length_le (by simp [h.ws])] at this
  have h11 : m.ws.flatten = (m.ws.take 1).flatten ++ (m.ws.drop 1).flatten := by rw [← List.flatten_append, List.take_append_drop]
  have h12 : (m.ws.take 1).flatten.length = 8 := flat_take h.each 1 (by rw [h.ws]; omega)
  have h13 : m.ws.flatten = (m.ws.take 3).flatten ++ (m.ws.drop 3).flatten := by rw [← List.flatten_append, List.take_append_drop]
  have h14 : (m.ws.take 3).flatten.length = 24 := flat_take h.each 3 (by rw [h.ws]; omega)
  have hget : GetN m.obj 22 (by8 (m.ws.drop 1).flatten) := by
    refine (PathM.g_ws h).sub (k := 8) fun i v hv => ?_
    rw [h11]
    simp only [by8, List.map_append] at *
    rw [List.getElem?_append_right (by simp only [List.length_map]; omega)]
    rw [← hv]
    congr 1
    simp only [List.length_map, h12]
    omega
  have hset : SetN m.obj 14 (by8 (m.ws.drop 1).flatten) ({ m with ws := m.ws.drop 1 ++ m.ws.drop 3 } : PathM).obj := by
    have := SetN.part (a := m.head) (us := by8 (m.ws.take 3).flatten) (vs := by8 (m.ws.drop 1).flatten) (c := by8 (m.ws.drop 3).flatten ++ [.int .i64 m.many]) (e := 42) (off := 14) (by rw [h.head]) (by simp only [by8_length, h10, h14])
    have e1 : m.obj = .cells (m.head ++ (by8 (m.ws.take 3).flatten ++ (by8 (m.ws.drop 3).flatten ++ [Value.int .i64 m.many]))).toArray 42 (0, 0) := by
      unfold PathM.obj
      rw [PathM.cells_eq, h13]
      simp [by8]
    have e2 : ({ m with ws := m.ws.drop 1 ++ m.ws.drop 3 } : PathM).obj = .cells (m.head ++ (by8 (m.ws.drop 1).flatten ++ (by8 (m.ws.drop 3).flatten ++ [Value.int .i64 m.many]))).toArray 42 (0, 0) := by
      unfold PathM.obj
      rw [PathM.cells_eq]
      simp [by8, PathM.head]
    rw [e1, e2]
    exact this
  have hone := by8_one (m.ws.drop 1).flatten
  refine ow_copy (n := 3) (vs := by8 (m.ws.drop 1).flatten) rfl rfl rfl Try.underlying32 Ty.el32 rfl rfl rfl ?_ hone .here hset ?_
  · rw [cutA_some (by omega)]
    exact Reads.block .here (.head _) hget (by simp only [by8_length, h10])
  have hg : GetN ({ m with ws := m.ws.drop 1 ++ m.ws.drop 3 } : PathM).obj 46 [.int .i64 m.many] := PathM.g_many (m := { m with ws := m.ws.drop 1 ++ m.ws.drop 3 }) ⟨h.inn, h.out, h.word, h.till, by simp [h.ws], h8, h.many, h.num⟩
  refine Go.Sl.ow_nil ?_
  refine Go.Sl.xw_np ?_
  refine Go.Sl.xw_then ?_
  refine Go.Sl.cw_region ?_
  refine Go.Sl.ow_val rfl rfl (Go.Sl.v_move rfl) ?_
  refine Go.Sl.ow_val rfl rfl (Go.Sl.v_nilCheck rfl) ?_
  refine Go.Sl.ow_val rfl rfl (Go.Sl.v_fieldAddr0 Ty.fd42_8 rfl) ?_
  refine Go.Sl.ow_val rfl rfl (Go.Sl.v_load rfl (Go.Sl.Var.at1 Ty.sc3 .here (hg))) ?_
  refine Go.Sl.ow_val rfl rfl (Go.Sl.v_sub rfl rfl (Go.Sl.nw_i64 (by omega) (by omega))) ?_
  refine Go.Sl.ow_val rfl rfl (Go.Sl.v_nilCheck rfl) ?_
  refine Go.Sl.ow_val rfl rfl (Go.Sl.v_fieldAddr0 Ty.fd42_8 rfl) ?_
  refine Go.Sl.ow_store1 rfl rfl rfl rfl Ty.sc3 .here (PathM.s_many' (by exact h.word) h9 (m.many - 1) (by omega)) ?_
  refine Go.Sl.ow_nil ?_
  refine Go.Sl.ret0n rfl ?_
  rw [show m.answered = { m with ws := m.ws.drop 1 ++ m.ws.drop 3, many := m.many - 1 } from by simp [PathM.answered]; omega]
  exact done1 rfl (by repeat (first | exact List.Sublist.refl _ | refine List.Sublist.cons_cons _ ?_ | refine List.Sublist.cons _ ?_))

def pathNew (number : Int) (known : Bool) : PathM := { number := number, state := if known then 2 else 0, inn := 0, out := 0, word := zero8, till := 0, asks := false, ws := [zero8, zero8, zero8, zero8], many := 0 }
theorem b_path {number : Int} : Build Try.prog 42 #[(0, .int .u64 number)] (.agg (pathNew number false).cells.toArray) := fun w => by kernel_rfl
theorem new_c {B : Nat} {w0 : World} {number : Int} {known : Bool} :
    FnC Try.prog 8 #[.int .u64 number, .bool known] B w0 [] (fun v C' => ∃ b, v = .pointer (some ⟨b, 0, none⟩) ∧ C' = [[(b, (pathNew number known).obj)]]) := fun F => by
  refine fn_enter Try.func8 rfl (by kernel_rfl) Try.ntmps8 (by simp) ?_
  refine Go.Sl.cw_seq ?_
  refine Go.Sl.cw_region ?_
  refine Go.Sl.ow_val rfl rfl (Go.Sl.v_assign rfl) ?_
  refine Go.Sl.ow_nil ?_
  refine Go.Sl.xw_then ?_
  refine Go.Sl.cw_seq ?_
  refine Go.Sl.cw_region ?_
  refine Go.Sl.ow_val rfl rfl (Go.Sl.v_move rfl) ?_
  refine Go.Sl.ow_val rfl rfl (Go.Sl.v_build rfl (b_path)) ?_
  (refine Go.Sl.ow_box rfl rfl rfl rfl ?_; intro b8)
  refine Go.Sl.ow_val rfl rfl (Go.Sl.v_assign rfl) ?_
  refine Go.Sl.ow_nil ?_
  refine Go.Sl.xw_then ?_
  refine Go.Sl.cw_seq ?_
  refine Go.Sl.cw_seq ?_
  refine Go.Sl.cw_region ?_
  refine Go.Sl.ow_val rfl rfl (Go.Sl.v_move rfl) ?_
  refine Go.Sl.ow_nil ?_
  refine Go.Sl.xw_then ?_
  refine Go.Sl.cw_bool rfl (fun hc9 => ?_) (fun hc9 => ?_)
  refine Go.Sl.cw_region ?_
  refine Go.Sl.ow_val rfl rfl (Go.Sl.v_move rfl) ?_
  refine Go.Sl.ow_val rfl rfl (Go.Sl.v_nilCheck rfl) ?_
  refine Go.Sl.ow_val rfl rfl (Go.Sl.v_fieldAddr0 Ty.fd42_1 rfl) ?_
  refine Go.Sl.ow_store1 rfl rfl rfl rfl Ty.sc39 .here (PathM.s_state (m := pathNew number false)) ?_
  refine Go.Sl.ow_nil ?_
  refine Go.Sl.xw_then ?_
  refine Go.Sl.cw_seq ?_
  refine Go.Sl.cw_region ?_
  refine Go.Sl.ow_val rfl rfl (Go.Sl.v_move rfl) ?_
  refine Go.Sl.ow_val rfl rfl (Go.Sl.v_assign rfl) ?_
  refine Go.Sl.ow_nil ?_
  refine Go.Sl.xw_then ?_
  refine Go.Sl.cw_ret ?_
  refine Go.Sl.ret1 rfl (Go.Sl.res_tmp rfl) ?_
  rotate_left
  refine Go.Sl.cw_skip ?_
  refine Go.Sl.xw_then ?_
  refine Go.Sl.cw_seq ?_
  refine Go.Sl.cw_region ?_
  refine Go.Sl.ow_val rfl rfl (Go.Sl.v_move rfl) ?_
  refine Go.Sl.ow_val rfl rfl (Go.Sl.v_assign rfl) ?_
  refine Go.Sl.ow_nil ?_
  refine Go.Sl.xw_then ?_
  refine Go.Sl.cw_ret ?_
  refine Go.Sl.ret1 rfl (Go.Sl.res_tmp rfl) ?_
  rotate_left
  · refine ⟨_, ⟨b8, rfl, rfl⟩, ?_⟩
    rw [hc9]
    exact (by repeat (first | exact List.Sublist.refl _ | refine List.Sublist.cons_cons _ ?_ | refine List.Sublist.cons _ ?_))
  · refine ⟨_, ⟨b8, rfl, rfl⟩, ?_⟩
    rw [hc9]
    exact (by repeat (first | exact List.Sublist.refl _ | refine List.Sublist.cons_cons _ ?_ | refine List.Sublist.cons _ ?_))

end Go.Proofs.Ytlollnhoghledaa
