/- IdsOwn: whatever the input it returns true, and the input reads as it did. Conditions: none. -/
import Derived.Test.YtfilpenkihdjiaaIdsLaw
namespace Go.Proofs.Ytfilpenkihdjiaa.lawIdsOwn
open Go Go.Sl Go.Proofs Go.RowKit Go.ChangeShapes Go.WideShapes Go.ChangeAt Go.Proofs.Ytfilpenkihdjiaa
set_option linter.unusedVariables false
set_option linter.unusedSimpArgs false

theorem v_extractL {P : Program} {S : World → Prop} {N : Nat} {E : Env} {ty : TypeId} {x : Operand} {vs : List Value} {i : Nat} {v : Value} (hx : Env.ev E x = some (.tuple vs.toArray)) (hv : vs[i]? = some v) : OpV P S N E (.extract x i) ty v := Go.Sl.v_extract hx (by simpa using hv)
theorem tmod6 {k : Int} (h : 0 ≤ k) : 0 ≤ k.tmod 6 ∧ k.tmod 6 ≤ 5 := by
  have := Int.emod_nonneg k (b := 6) (by decide)
  have := Int.emod_lt_of_pos k (b := 6) (by decide)
  rw [Int.tmod_eq_emod_of_nonneg h]
  omega
theorem tmod5 {k : Int} (h : 0 ≤ k) : 0 ≤ k.tmod 5 ∧ k.tmod 5 ≤ 4 := by
  have := Int.emod_nonneg k (b := 5) (by decide)
  have := Int.emod_lt_of_pos k (b := 5) (by decide)
  rw [Int.tmod_eq_emod_of_nonneg h]
  omega
theorem bsz (s : ByteArray) : s.data.toList.length = s.size := Array.length_toList

structure ActM where
  kind : Int
  id : Int
  by_ : Int
  tok : List Int
  any : ByteArray
  seq : Int
  raw : Bool
instance : Inhabited ActM := ⟨⟨0, 0, 0, [], ⟨#[]⟩, 0, false⟩⟩
def ActM.cells (a : ActM) : List Value := .int .u8 a.kind :: .int .u8 a.id :: .int .u8 a.by_ :: (a.tok.map (Value.int .u8) ++ [.string a.any, .int .u64 a.seq, .bool a.raw])
def enA : Enc ActM := ⟨ActM.cells, 22, fun a => .agg a.cells.toArray, fun a => (0 ≤ a.kind ∧ a.kind ≤ 255) ∧ (0 ≤ a.id ∧ a.id ≤ 255) ∧ (0 ≤ a.by_ ∧ a.by_ ≤ 255) ∧ a.tok.length = 16 ∧ (0 ≤ a.seq ∧ a.seq ≤ 18446744073709551615)⟩
theorem aTy : EncTy Try.prog 49 enA := EncTy.agg Ty.ag49 (by decide) (fun _ => rfl) (fun a h => by simp [enA, ActM.cells, h.2.2.2.1]) (fun a _ u hu => by
  simp only [enA, ActM.cells, List.mem_cons, List.mem_append, List.mem_map, List.not_mem_nil, or_false] at hu
  rcases hu with rfl | rfl | rfl | ⟨x, _, rfl⟩ | rfl | rfl | rfl <;> rfl)

section
variable {a : ActM} {T : TypeId}
def ActM.obj (a : ActM) : Obj := .cells a.cells.toArray 49 (0, 0)
theorem g_tok (h : a.tok.length = 16) : GetN (.cells a.cells.toArray T (0, 0)) 3 (a.tok.map (Value.int .u8)) := GetN.part (a := [.int .u8 a.kind, .int .u8 a.id, .int .u8 a.by_]) rfl
theorem g_any (h : a.tok.length = 16) : GetN (.cells a.cells.toArray T (0, 0)) 19 [.string a.any] := by
  have := GetN.part (a := [Value.int .u8 a.kind, .int .u8 a.id, .int .u8 a.by_] ++ a.tok.map (Value.int .u8)) (vs := [.string a.any]) (c := [.int .u64 a.seq, .bool a.raw]) (e := T) (fr := (0, 0)) (off := 19) (by simp [h])
  simpa [ActM.cells] using this
theorem g_seq (h : a.tok.length = 16) : GetN (.cells a.cells.toArray T (0, 0)) 20 [.int .u64 a.seq] := by
  have := GetN.part (a := [Value.int .u8 a.kind, .int .u8 a.id, .int .u8 a.by_] ++ a.tok.map (Value.int .u8) ++ [.string a.any]) (vs := [.int .u64 a.seq]) (c := [.bool a.raw]) (e := T) (fr := (0, 0)) (off := 20) (by simp [h])
  simpa [ActM.cells] using this
theorem g_raw (h : a.tok.length = 16) : GetN (.cells a.cells.toArray T (0, 0)) 21 [.bool a.raw] := by
  have := GetN.part (a := [Value.int .u8 a.kind, .int .u8 a.id, .int .u8 a.by_] ++ a.tok.map (Value.int .u8) ++ [.string a.any, .int .u64 a.seq]) (vs := [.bool a.raw]) (c := []) (e := T) (fr := (0, 0)) (off := 21) (by simp [h])
  simpa [ActM.cells] using this
end

/-- numbers rise, and are below the next one -/
structure Rise (m : OwnM) : Prop where
  rise : m.l.Pairwise fun x y => x.seq < y.seq
  low : ∀ e ∈ m.l, 0 ≤ e.seq ∧ e.seq < m.next

theorem capLe {α : Type} {En : Enc α} {e : TypeId} {ao : Option Addr} {n cap : Nat} {c : Hp} {l : List α} (h : Ls En e (.slice ao n cap) c l) : l.length ≤ cap := by
  obtain ⟨_, _, hv, hc⟩ := h.view
  injection hv with _ _ h3
  omega
theorem giveCases (m : OwnM) (id : ByteArray) (tok : List Int) :
    (m.give id.data.toList tok = (m, noEntry, 6) ∧ ¬ (1 ≤ (id.size : Int) ∧ (id.size : Int) ≤ 20)) ∨
    (m.give id.data.toList tok = (m, noEntry, 11) ∧ (1 ≤ (id.size : Int) ∧ (id.size : Int) ≤ 20) ∧ ¬ (m.l.length : Int) < m.most) ∨
    (m.give id.data.toList tok = (m, noEntry, 18) ∧ (1 ≤ (id.size : Int) ∧ (id.size : Int) ≤ 20) ∧ (m.l.length : Int) < m.most ∧ (m.l.any fun x => decide (x.id = id)) = true) ∨
    (m.give id.data.toList tok = ({ m with next := m.next + 1, l := m.l ++ [⟨m.next, id, tok⟩] }, ⟨m.next, id, tok⟩, 0) ∧ (1 ≤ (id.size : Int) ∧ (id.size : Int) ≤ 20) ∧ (m.l.length : Int) < m.most ∧ (m.l.any fun x => decide (x.id = id)) = false) := by
  have hs : ((id.data.toList.length : Nat) : Int) = (id.size : Int) := by rw [bsz]
  by_cases h1 : 1 ≤ (id.size : Int) ∧ (id.size : Int) ≤ 20
  · by_cases h2 : (m.l.length : Int) < m.most
    · cases h3 : (m.l.any fun x => decide (x.id = id)) with
      | true => exact .inr (.inr (.inl ⟨by rw [OwnM.give, hs, if_neg (by omega), if_neg (by omega)]; exact if_pos h3, h1, h2, rfl⟩))
      | false => exact .inr (.inr (.inr ⟨by rw [OwnM.give, hs, if_neg (by omega), if_neg (by omega)]; exact if_neg (by rw [show (m.l.any fun e => decide (e.id = str id.data.toList)) = false from h3]; decide), h1, h2, rfl⟩))
    · exact .inr (.inl ⟨by rw [OwnM.give, hs, if_neg (by omega), if_pos h2], h1, h2⟩)
  · exact .inl ⟨by rw [OwnM.give, hs, if_pos h1], h1⟩

def pseq (n : Int) (e : Entry) : Bool := decide (e.seq = n)
theorem retireCases (m : OwnM) (seq : Int) (by_ : ByteArray) :
    (m.retire seq by_.data.toList = (m, 10) ∧ m.next ≤ seq) ∨
    (m.retire seq by_.data.toList = (m, 0) ∧ ¬ m.next ≤ seq ∧ idxF (fun e : Entry => decide (e.seq = seq)) m.l < 0) ∨
    (m.retire seq by_.data.toList = (m, 25) ∧ ¬ m.next ≤ seq ∧ ¬ idxF (fun e : Entry => decide (e.seq = seq)) m.l < 0 ∧ (m.l[(idxF (fun e : Entry => decide (e.seq = seq)) m.l).toNat]!).id = by_) ∨
    (m.retire seq by_.data.toList = ({ m with l := m.l.take (idxF (fun e : Entry => decide (e.seq = seq)) m.l).toNat ++ m.l.drop ((idxF (fun e : Entry => decide (e.seq = seq)) m.l).toNat + 1) }, 0) ∧ ¬ m.next ≤ seq ∧ ¬ idxF (fun e : Entry => decide (e.seq = seq)) m.l < 0 ∧ ¬ (m.l[(idxF (fun e : Entry => decide (e.seq = seq)) m.l).toNat]!).id = by_) := by
  by_cases h1 : m.next ≤ seq
  · exact .inl ⟨by rw [OwnM.retire, if_pos h1], h1⟩
  by_cases h2 : idxF (fun e : Entry => decide (e.seq = seq)) m.l < 0
  · exact .inr (.inl ⟨by rw [OwnM.retire, if_neg h1, if_pos h2], h1, h2⟩)
  have h3 := findE_get (seq := seq) (l := m.l) h2
  by_cases h4 : (m.l[(idxF (fun e : Entry => decide (e.seq = seq)) m.l).toNat]!).id = by_
  · exact .inr (.inr (.inl ⟨by rw [OwnM.retire, if_neg h1, if_neg h2, h3]; exact if_pos h4, h1, h2, h4⟩))
  · exact .inr (.inr (.inr ⟨by rw [OwnM.retire, if_neg h1, if_neg h2, h3]; exact if_neg h4, h1, h2, h4⟩))

theorem any_succ {l : List Entry} {p : Entry → Bool} {j : Nat} (h : j < l.length) : (l.take (j + 1)).any p = ((l.take j).any p || p l[j]) := by
  rw [List.take_succ_eq_append_getElem h, List.any_append]
  simp
theorem idx_succ {l : List Entry} {p : Entry → Bool} {j : Nat} (h : j < l.length) (hu : p l[j] = true → ∀ k (hk : k < l.length), k < j → p l[k] = false) : idxF p (l.take (j + 1)) = if p l[j] = true then (j : Int) else idxF p (l.take j) := by
  unfold idxF
  rw [List.take_succ_eq_append_getElem h, List.findIdx?_append]
  by_cases hp : p l[j] = true
  · have hn : (l.take j).findIdx? p = none := List.findIdx?_eq_none_iff.2 fun x hx => by
      obtain ⟨k, hk, rfl⟩ := List.mem_iff_getElem.1 hx
      simp at hk
      rw [List.getElem_take]
      exact hu hp k (by omega) (by omega)
    simp [hn, hp, Nat.min_eq_left (Nat.le_of_lt h)]
  · have hp' : p l[j] = false := by simpa using hp
    simp [hp']
theorem Rise.uniq {m : OwnM} (h : Rise m) {i j : Nat} (hi : i < m.l.length) (hj : j < m.l.length) (he : m.l[i].seq = m.l[j].seq) : i = j := by
  have h1 := List.pairwise_iff_getElem.1 h.rise
  rcases Nat.lt_trichotomy i j with h2 | h2 | h2
  · have := h1 i j hi hj h2; omega
  · exact h2
  · have := h1 j i hj hi h2; omega
theorem Rise.find {m : OwnM} (h : Rise m) {j : Nat} (hj : j < m.l.length) : findE m.l[j].seq m.l = m.l[j] ∧ hasE m.l[j].seq m.l = true := by
  constructor
  · unfold findE
    rw [List.find?_eq_some_iff_getElem.2 ⟨by simp, j, hj, rfl, fun k hk => by
      have : ¬ m.l[k].seq = m.l[j].seq := fun he => by have := h.uniq (by omega) hj he; omega
      simp [this]⟩]
    rfl
  · exact List.any_eq_true.2 ⟨m.l[j], List.getElem_mem hj, by simp⟩
theorem Rise.give {m : OwnM} (h : Rise m) (hn : 0 ≤ m.next) (id : ByteArray) (tok : List Int) : Rise { m with next := m.next + 1, l := m.l ++ [⟨m.next, id, tok⟩] } := by
  refine ⟨List.pairwise_append.2 ⟨h.rise, by simp, fun a ha b hb => ?_⟩, fun e he => ?_⟩
  · simp at hb
    subst hb
    exact (h.low a ha).2
  · rcases List.mem_append.1 he with h1 | h1
    · have := h.low e h1
      dsimp only
      omega
    · simp at h1
      subst h1
      dsimp only
      omega
theorem Rise.cut {m : OwnM} (h : Rise m) (i : Nat) : Rise { m with l := m.l.take i ++ m.l.drop (i + 1) } := by
  have hsub : List.Sublist (m.l.take i ++ m.l.drop (i + 1)) m.l := by
    conv => rhs; rw [← List.take_append_drop i m.l]
    refine List.Sublist.append (List.Sublist.refl _) ?_
    rw [← List.drop_drop]
    exact List.drop_sublist _ _
  exact ⟨h.rise.sublist hsub, fun e he => h.low e (hsub.subset he)⟩

structure Ix where
  i : Nat
  o : OwnM
  c : Hp
  ao : Option Addr
  cap : Nat
  cl : Hp

structure Inv (x : Ix) (mo : Int) (b : Nat) : Prop where
  at_ : OwnAt x.o b x.c
  wf : x.o.WF
  most : x.o.most = mo
  next : x.o.next ≤ 1 + x.i
  rise : Rise x.o
  l : Ls enE 30 (.slice x.ao x.o.l.length x.cap) x.cl x.o.l

structure Pk where
  id : ByteArray
  seq : Int

theorem findE_ok {l : List Entry} (h : ∀ e ∈ l, enE.ok e) (n : Int) : enE.ok (findE n l) := by
  unfold findE
  cases hf : l.find? (fun e => decide (e.seq = n)) with
  | none => exact ok_no
  | some e => exact h e (List.mem_of_find?_eq_some hf)
theorem give_ok {m : OwnM} {l : List UInt8} {tok : List Int} (hw : m.WF) (ht : tok.length = 16) : enE.ok (m.give l tok).2.1 := by
  have h1 := hw.next
  unfold OwnM.give
  split
  · exact ok_no
  split
  · exact ok_no
  split
  · exact ok_no
  exact ⟨by dsimp only; omega, by dsimp only; omega, ht⟩

set_option maxHeartbeats 8000000 in
theorem law {B : Nat} {w0 : World} {first : ByteArray} {most : Int} {acts : List ActM} {aoA : Option Addr} {capA : Nat} (hm : -9223372036854775808 ≤ most ∧ most ≤ 9223372036854775807) (hl : acts.length ≤ 9223372036854775807) (hA : ∀ G, Vw enA (St B w0 G) (.slice aoA acts.length capA) acts) :
    FnC Try.prog 4 #[.string first, .int .i64 most, .slice aoA acts.length capA] B w0 [] (R0 (.bool true)) := fun F => by
  have hok1 := ok_first first
  refine fn_enter Try.func4 rfl (by kernel_rfl) Try.ntmps4 (by simp) ?_
  refine Go.Sl.cw_seq ?_
  refine Go.Sl.cw_region ?_
  refine Go.Sl.ow_val rfl rfl (Go.Sl.v_assign rfl) ?_
  refine Go.Sl.ow_nil ?_
  refine Go.Sl.xw_then ?_
  refine Go.Sl.cw_seq ?_
  refine Go.Sl.cw_seq ?_
  refine Go.Sl.cw_region ?_
  refine Go.Sl.ow_val rfl rfl (Go.Sl.v_call rfl rfl (awake_c)) ?_
  refine Go.Sl.ow_val rfl rfl (Go.Sl.v_not_true rfl) ?_
  refine Go.Sl.ow_nil ?_
  refine Go.Sl.xw_then ?_
  refine Go.Sl.cw_false rfl ?_
  refine Go.Sl.cw_skip ?_
  refine Go.Sl.xw_then ?_
  refine Go.Sl.cw_seq ?_
  refine Go.Sl.cw_seq ?_
  refine Go.Sl.cw_region ?_
  refine Go.Sl.ow_val rfl rfl (Go.Sl.v_move rfl) ?_
  refine Go.Sl.ow_val rfl rfl (Go.Sl.v_len_str rfl Try.underlying9 rfl) ?_
  refine Go.Sl.ow_val rfl rfl (Go.Sl.v_gtr rfl rfl) ?_
  refine Go.Sl.ow_nil ?_
  refine Go.Sl.xw_then ?_
  refine Go.Sl.cw_dec rfl (fun hc36 => ?_) (fun hc36 => ?_)
  refine Go.Sl.cw_seq ?_
  refine Go.Sl.cw_region ?_
  refine Go.Sl.ow_val rfl rfl (Go.Sl.v_assign rfl) ?_
  refine Go.Sl.ow_nil ?_
  refine Go.Sl.xw_then ?_
  refine Go.Sl.cw_ret ?_
  refine Go.Sl.xw_then_ret ?_
  refine Go.Sl.ret1 rfl (Go.Sl.res_tmp rfl) ?_
  rotate_left
  refine Go.Sl.cw_skip ?_
  refine Go.Sl.xw_then ?_
  refine Go.Sl.cw_seq ?_
  refine Go.Sl.cw_region ?_
  refine Go.Sl.ow_val rfl rfl (Go.Sl.v_move rfl) ?_
  (refine Go.Sl.ow_bytes rfl rfl Try.underlying26 Try.underlying9 Try.underlying5 rfl ?_; intro ao38 cap38 c38 hb38)
  refine Go.Sl.ow_val rfl rfl (Go.Sl.v_move rfl) ?_
  (refine Go.Sl.ow_call rfl rfl rfl rfl (newOwn_c (Rd.vw (by assumption) (by repeat (first | exact Go.Sl.Sub.here | assumption | refine Go.Sl.Sub.there ?_)))) ?_; rintro _ _ ⟨x40, rfl, hq40, rfl⟩)
  refine Go.Sl.ow_val rfl rfl (Go.Sl.v_assign rfl) ?_
  refine Go.Sl.ow_nil ?_
  refine Go.Sl.xw_then ?_
  refine Go.Sl.cw_seq ?_
  refine Go.Sl.cw_region ?_
  refine Go.Sl.ow_val rfl rfl (Go.Sl.v_move rfl) ?_
  refine Go.Sl.ow_val rfl rfl (Go.Sl.v_build rfl (b_first)) ?_
  (refine Go.Sl.ow_buildL (es := [(firstE first)]) rfl rfl Try.underlying31 Ty.em31 (eTy) rfl rfl (by simp [*]) (by simp only [List.length_cons, List.length_nil]; decide) ?_; intro ao43 c43 hL43)
  refine Go.Sl.ow_val rfl rfl (Go.Sl.v_assign rfl) ?_
  refine Go.Sl.ow_nil ?_
  refine Go.Sl.xw_then ?_
  refine Go.Sl.cw_seq ?_
  refine Go.Sl.cw_region ?_
  refine Go.Sl.ow_val rfl rfl (Go.Sl.v_assign rfl) ?_
  refine Go.Sl.ow_nil ?_
  refine Go.Sl.xw_then ?_
  refine Go.Sl.cw_seq ?_
  refine Go.Sl.cw_seq ?_
  refine Go.Sl.cw_region ?_
  refine Go.Sl.ow_val rfl rfl (Go.Sl.v_move rfl) ?_
  refine Go.Sl.ow_val rfl rfl (Go.Sl.v_len rfl Try.underlying45 rfl) ?_
  refine Go.Sl.ow_val rfl rfl (Go.Sl.v_move rfl) ?_
  refine Go.Sl.ow_nil ?_
  refine Go.Sl.xw_then ?_
  refine Go.Sl.cw_block ?_
  rotate_left
  · exact done0 rfl (by first | exact Go.Sl.Cov.refl _ | (intro p; simp only [List.flatten_cons, List.flatten_nil, List.flatten_append, List.append_nil, List.nil_append, Go.Sl.cnt_append, Go.Sl.cnt_cons, Go.Sl.cnt_nil, List.set_cons_zero, List.set_cons_succ, List.length_nil, List.length_cons, Nat.zero_add, List.append]; omega))
  have hq0 : OwnAt ⟨min (max most 1) 4, 1, [firstE first]⟩ x40.1 x40.2 := hq40
  refine Go.Sl.cw_loop2 (ι := (Ix)) [(0, _), (1, _), (2, _), (7, _), (44, _), (45, _)] ⟨rfl, rfl, rfl, rfl, rfl, rfl, trivial⟩ ((fun x => [(8, .slice x.ao x.o.l.length x.cap), (9, .int .u64 x.o.next), (46, .int .i64 x.i)])) ((fun x => x.i ≤ acts.length ∧ x.i ≤ 60 ∧ Inv x (min (max most 1) 4) x40.1)) ((fun x => acts.length - x.i)) ((fun x => x.c :: x.cl :: F)) ((⟨0, ⟨min (max most 1) 4, 1, [firstE first]⟩, x40.2, ao43, 1, c43⟩ : Ix)) (by repeat (first | exact True.intro | refine And.intro rfl ?_)) (by first | exact Go.Sl.Cov.refl _ | (intro p; simp only [List.flatten_cons, List.flatten_nil, List.flatten_append, List.append_nil, List.nil_append, Go.Sl.cnt_append, Go.Sl.cnt_cons, Go.Sl.cnt_nil, List.set_cons_zero, List.set_cons_succ, List.length_nil, List.length_cons, Nat.zero_add, List.append]; omega)) ?_ ?_
  · exact ⟨Nat.zero_le _, by simp, hq0, ⟨by dsimp only; omega, by simp, by simp; omega⟩, rfl, by simp, ⟨by simp, by simp [firstE]⟩, hL43⟩
  rintro ⟨i, o, c, ao, cap, cl⟩ ⟨hi, hi60, hI⟩
  dsimp only at hi hi60 hI ⊢
  have hO := hI.at_
  have hw := hI.wf
  have hmo := hI.most
  have hL := hI.l
  have hr := hI.rise
  have hnx := hI.next
  dsimp only at hO hw hmo hL hr hnx
  refine Go.Sl.cw_seq ?_
  refine Go.Sl.cw_region ?_
  refine Go.Sl.ow_val rfl rfl (Go.Sl.v_lss rfl rfl) ?_
  refine Go.Sl.ow_nil ?_
  refine Go.Sl.xw_then ?_
  refine Go.Sl.cw_seq ?_
  refine Go.Sl.cw_dec rfl (fun hc47 => ?_) (fun hc47 => ?_)
  refine Go.Sl.cw_skip ?_
  refine Go.Sl.xw_then ?_
  refine Go.Sl.cw_seq ?_
  refine Go.Sl.cw_block ?_
  refine Go.Sl.cw_seq ?_
  refine Go.Sl.cw_region ?_
  refine Go.Sl.ow_val rfl rfl (Go.Sl.v_move rfl) ?_
  rotate_left
  refine Go.Sl.cw_exit ?_
  refine Go.Sl.xw_then_exit ?_
  refine Go.Sl.xw_round_exit ?_
  refine Go.Sl.xw_block_exit ?_
  refine Go.Sl.xw_then ?_
  refine Go.Sl.cw_seq ?_
  refine Go.Sl.cw_region ?_
  refine Go.Sl.ow_val rfl rfl (Go.Sl.v_move rfl) ?_
  refine Go.Sl.ow_val rfl rfl (Go.Sl.v_move rfl) ?_
  rotate_left
  · have hi2 : i < acts.length := by omega
    have hao := (hA []).ok _ (List.getElem_mem hi2)
    have hat := hao.2.2.2.1
    have ha18 : (acts[i]).cells.length = 22 := aTy.len _ hao
    have h6 := tmod6 hao.2.1.1
    have h5 := tmod5 hao.1.1
    have h5b := tmod5 hao.2.2.1.1
    have hon : hasE o.next o.l = false := List.any_eq_false.2 fun e he => by have := (hr.low e he).2; simp; omega
    have hfok := findE_ok hL.ok o.next
    refine Go.Sl.ow_val rfl rfl (Go.Sl.v_indexAddr_vw Try.underlying45 (aTy) rfl rfl (hA []) rfl (by omega)) ?_
    refine Go.Sl.ow_val rfl rfl (Go.Sl.v_load rfl (Go.Sl.Vw.var (aTy) (hA _) (by omega))) ?_
    (refine Go.Sl.ow_alloc rfl rfl Ty.ze49 ?_; intro b11)
    refine Go.Sl.ow_val rfl rfl (Go.Sl.v_assign rfl) ?_
    refine Go.Sl.ow_storeE rfl (aTy) rfl rfl .here (by first | rfl | assumption) (by assumption) ?_
    refine Go.Sl.ow_nil ?_
    refine Go.Sl.xw_then ?_
    refine Go.Sl.cw_seq ?_
    refine Go.Sl.cw_seq ?_
    refine Go.Sl.cw_region ?_
    refine Go.Sl.ow_val rfl rfl (Go.Sl.v_move rfl) ?_
    refine Go.Sl.ow_val rfl rfl (Go.Sl.v_geq rfl rfl) ?_
    refine Go.Sl.ow_nil ?_
    refine Go.Sl.xw_then ?_
    refine Go.Sl.cw_dec rfl (fun hc52 => ?_) (fun hc52 => ?_)
    refine Go.Sl.cw_exit ?_
    refine Go.Sl.xw_then_exit ?_
    refine Go.Sl.xw_block_other rfl ?_
    refine Go.Sl.xw_then_exit ?_
    refine Go.Sl.xw_round_exit ?_
    refine Go.Sl.xw_block_exit ?_
    refine Go.Sl.xw_then ?_
    refine Go.Sl.cw_seq ?_
    refine Go.Sl.cw_region ?_
    refine Go.Sl.ow_val rfl rfl (Go.Sl.v_move rfl) ?_
    refine Go.Sl.ow_val rfl rfl (Go.Sl.v_move rfl) ?_
    refine Go.Sl.ow_val rfl rfl (Go.Sl.v_call rfl rfl (find_c hO (by repeat (first | exact Go.Sl.Sub.here | assumption | refine Go.Sl.Sub.there ?_)) hw)) ?_
    refine Go.Sl.ow_val rfl rfl (Go.Sl.v_move rfl) ?_
    refine Go.Sl.ow_val rfl rfl (v_extractL rfl rfl) ?_
    refine Go.Sl.ow_val rfl rfl (v_extractL rfl rfl) ?_
    (refine Go.Sl.ow_alloc rfl rfl Ty.ze30 ?_; intro b30)
    refine Go.Sl.ow_storeE rfl (eTy) rfl rfl .here (by first | rfl | assumption) (by assumption) ?_
    refine Go.Sl.ow_val rfl rfl (Go.Sl.v_assign rfl) ?_
    refine Go.Sl.ow_nil ?_
    refine Go.Sl.xw_then ?_
    refine Go.Sl.cw_seq ?_
    refine Go.Sl.cw_region ?_
    refine Go.Sl.ow_val rfl rfl (Go.Sl.v_move rfl) ?_
    refine Go.Sl.ow_val rfl rfl (Go.Sl.v_not_bool rfl) ?_
    refine Go.Sl.ow_val rfl rfl (Go.Sl.v_assign rfl) ?_
    refine Go.Sl.ow_nil ?_
    refine Go.Sl.xw_then ?_
    refine Go.Sl.cw_ret ?_
    refine Go.Sl.ret1 rfl (Go.Sl.res_tmp rfl) ?_
    rotate_left
    refine Go.Sl.cw_skip ?_
    refine Go.Sl.xw_then ?_
    refine Go.Sl.cw_seq ?_
    refine Go.Sl.cw_quiet Ty.mixed (by decide +kernel) ?_
    refine Go.Sl.kw_val rfl rfl (Go.Sl.v_fieldAddr0 Ty.fd49_1 rfl) ?_
    refine Go.Sl.kw_val rfl rfl (Go.Sl.v_load rfl (Go.Sl.Var.at1 Ty.sc5 .here (Go.Sl.GetN.lit rfl))) ?_
    refine Go.Sl.kw_val rfl rfl (Go.Sl.v_call rfl rfl (name_c hao.2.1)) ?_
    refine Go.Sl.kw_val rfl rfl (Go.Sl.v_fieldAddr0 Ty.fd49_2 rfl) ?_
    refine Go.Sl.kw_val rfl rfl (Go.Sl.v_load rfl (Go.Sl.Var.at1 Ty.sc5 .here (Go.Sl.GetN.lit rfl))) ?_
    refine Go.Sl.kw_val rfl rfl (Go.Sl.v_call rfl rfl (name_c hao.2.2.1)) ?_
    refine Go.Sl.kw_val rfl rfl (Go.Sl.v_fieldAddr0 Ty.fd49_1 rfl) ?_
    refine Go.Sl.kw_val rfl rfl (Go.Sl.v_load rfl (Go.Sl.Var.at1 Ty.sc5 .here (Go.Sl.GetN.lit rfl))) ?_
    refine Go.Sl.kw_val rfl rfl (Go.Sl.v_rem rfl rfl (by decide)) ?_
    refine Go.Sl.kw_val rfl rfl (Go.Sl.v_convert Try.underlying5 Try.underlying27 rfl (Go.Sl.nw_u64 (by omega) (by omega))) ?_
    refine Go.Sl.kw_val rfl rfl (Go.Sl.v_assign rfl) ?_
    refine Go.Sl.kw_val rfl rfl (Go.Sl.v_assign rfl) ?_
    refine Go.Sl.kw_val rfl rfl (Go.Sl.v_assign rfl) ?_
    refine Go.Sl.kw_nil ?_
    refine Go.Sl.xw_then ?_
    rotate_left
    · exact done0 (by rw [hon]; rfl) (by first | exact Go.Sl.Cov.refl _ | (intro p; simp only [List.flatten_cons, List.flatten_nil, List.flatten_append, List.append_nil, List.nil_append, Go.Sl.cnt_append, Go.Sl.cnt_cons, Go.Sl.cnt_nil, List.set_cons_zero, List.set_cons_succ, List.length_nil, List.length_cons, Nat.zero_add, List.append]; omega))
    · refine Go.Sl.cw_cut2 (ι := (Pk)) [(0, _), (1, _), (2, _), (7, _), (8, _), (9, _), (11, _), (13, _), (44, _), (45, _), (46, _)] ⟨rfl, rfl, rfl, rfl, rfl, rfl, rfl, rfl, rfl, rfl, rfl, trivial⟩ ((fun p => [(12, .string p.id), (14, .int .u64 p.seq)])) ((fun p => p.id.size ≤ 100 ∧ 0 ≤ p.seq ∧ p.seq ≤ 18446744073709551615)) ((fun p => [(b11, .cells (enA.f acts[i]).toArray 49 (0, 0))] :: c :: cl :: F)) ?_ ?_
      · refine Go.Sl.cw_seq ?_
        refine Go.Sl.cw_region ?_
        refine Go.Sl.ow_val rfl rfl (Go.Sl.v_fieldAddr0 Ty.fd49_6 rfl) ?_
        refine Go.Sl.ow_val rfl rfl (Go.Sl.v_load rfl (Go.Sl.Var.at1 Ty.sc4 .here (g_raw hat))) ?_
        refine Go.Sl.ow_nil ?_
        refine Go.Sl.xw_then ?_
        refine Go.Sl.cw_bool rfl (fun hc64 => ?_) (fun hc64 => ?_)
        refine Go.Sl.cw_seq ?_
        refine Go.Sl.cw_seq ?_
        refine Go.Sl.cw_region ?_
        refine Go.Sl.ow_val rfl rfl (Go.Sl.v_fieldAddr0 Ty.fd49_4 rfl) ?_
        refine Go.Sl.ow_val rfl rfl (Go.Sl.v_load rfl (Go.Sl.Var.at1 Ty.sc9 .here (g_any hat))) ?_
        refine Go.Sl.ow_val rfl rfl (Go.Sl.v_len_str rfl Try.underlying9 rfl) ?_
        refine Go.Sl.ow_val rfl rfl (Go.Sl.v_gtr rfl rfl) ?_
        refine Go.Sl.ow_nil ?_
        refine Go.Sl.xw_then ?_
        refine Go.Sl.cw_dec rfl (fun hc68 => ?_) (fun hc68 => ?_)
        refine Go.Sl.cw_seq ?_
        refine Go.Sl.cw_region ?_
        refine Go.Sl.ow_val rfl rfl (Go.Sl.v_assign rfl) ?_
        refine Go.Sl.ow_nil ?_
        refine Go.Sl.xw_then ?_
        refine Go.Sl.cw_ret ?_
        refine Go.Sl.xw_then_ret ?_
        refine Go.Sl.xw_joint_ret ?_
        refine Go.Sl.xw_block_ret ?_
        refine Go.Sl.xw_then_ret ?_
        refine Go.Sl.xw_round_ret ?_
        refine Go.Sl.xw_block_ret ?_
        refine Go.Sl.xw_then_ret ?_
        refine Go.Sl.ret1 rfl (Go.Sl.res_tmp rfl) ?_
        rotate_left
        refine Go.Sl.cw_skip ?_
        refine Go.Sl.xw_then ?_
        refine Go.Sl.cw_quiet Ty.mixed (by decide +kernel) ?_
        refine Go.Sl.kw_val rfl rfl (Go.Sl.v_fieldAddr0 Ty.fd49_4 rfl) ?_
        refine Go.Sl.kw_val rfl rfl (Go.Sl.v_load rfl (Go.Sl.Var.at1 Ty.sc9 .here (g_any hat))) ?_
        refine Go.Sl.kw_val rfl rfl (Go.Sl.v_fieldAddr0 Ty.fd49_5 rfl) ?_
        refine Go.Sl.kw_val rfl rfl (Go.Sl.v_load rfl (Go.Sl.Var.at1 Ty.sc27 .here (g_seq hat))) ?_
        refine Go.Sl.kw_val rfl rfl (Go.Sl.v_assign rfl) ?_
        refine Go.Sl.kw_val rfl rfl (Go.Sl.v_assign rfl) ?_
        refine Go.Sl.kw_nil ?_
        rotate_left
        refine Go.Sl.cw_skip ?_
        rotate_left
        · exact done0 rfl (by first | exact Go.Sl.Cov.refl _ | (intro p; simp only [List.flatten_cons, List.flatten_nil, List.flatten_append, List.append_nil, List.nil_append, Go.Sl.cnt_append, Go.Sl.cnt_cons, Go.Sl.cnt_nil, List.set_cons_zero, List.set_cons_succ, List.length_nil, List.length_cons, Nat.zero_add, List.append]; omega))
        · exact xw_joint (⟨acts[i].any, acts[i].seq⟩ : Pk) ⟨by dsimp only; omega, hao.2.2.2.2⟩ (by first | exact Go.Sl.Cov.refl _ | (intro p; simp only [List.flatten_cons, List.flatten_nil, List.flatten_append, List.append_nil, List.nil_append, Go.Sl.cnt_append, Go.Sl.cnt_cons, Go.Sl.cnt_nil, List.set_cons_zero, List.set_cons_succ, List.length_nil, List.length_cons, Nat.zero_add, List.append]; omega)) (by repeat (first | exact True.intro | refine And.intro rfl ?_))
        · exact xw_joint (⟨nameB acts[i].id, acts[i].id.tmod 6⟩ : Pk) ⟨by dsimp only; rw [nameB_size]; omega, by dsimp only; omega, by dsimp only; omega⟩ (by first | exact Go.Sl.Cov.refl _ | (intro p; simp only [List.flatten_cons, List.flatten_nil, List.flatten_append, List.append_nil, List.nil_append, Go.Sl.cnt_append, Go.Sl.cnt_cons, Go.Sl.cnt_nil, List.set_cons_zero, List.set_cons_succ, List.length_nil, List.length_cons, Nat.zero_add, List.append]; omega)) (by repeat (first | exact True.intro | refine And.intro rfl ?_))
      · rintro ⟨id, seq⟩ ⟨hp1, hp2⟩
        dsimp only at hp1 hp2 ⊢
        skip
        refine Go.Sl.cw_cut2 (ι := (ByteArray)) [(0, _), (1, _), (2, _), (7, _), (8, _), (9, _), (11, _), (12, _), (14, _), (44, _), (45, _), (46, _)] ⟨rfl, rfl, rfl, rfl, rfl, rfl, rfl, rfl, rfl, rfl, rfl, rfl, trivial⟩ ((fun p => [(13, .string p)])) ((fun p => p.size ≤ 100)) ((fun p => [(b11, .cells (enA.f acts[i]).toArray 49 (0, 0))] :: c :: cl :: F)) ?_ ?_
        · refine Go.Sl.cw_seq ?_
          refine Go.Sl.cw_region ?_
          refine Go.Sl.ow_val rfl rfl (Go.Sl.v_fieldAddr0 Ty.fd49_2 rfl) ?_
          refine Go.Sl.ow_val rfl rfl (Go.Sl.v_load rfl (Go.Sl.Var.at1 Ty.sc5 .here (Go.Sl.GetN.lit rfl))) ?_
          refine Go.Sl.ow_val rfl rfl (Go.Sl.v_rem rfl rfl (by decide)) ?_
          refine Go.Sl.ow_val rfl rfl (Go.Sl.v_eql rfl rfl) ?_
          refine Go.Sl.ow_nil ?_
          refine Go.Sl.xw_then ?_
          refine Go.Sl.cw_dec rfl (fun hc76 => ?_) (fun hc76 => ?_)
          refine Go.Sl.cw_region ?_
          refine Go.Sl.ow_val rfl rfl (Go.Sl.v_move rfl) ?_
          refine Go.Sl.ow_val rfl rfl (Go.Sl.v_assign rfl) ?_
          refine Go.Sl.ow_nil ?_
          rotate_left
          refine Go.Sl.cw_skip ?_
          rotate_left
          · exact xw_joint first (by omega) (by first | exact Go.Sl.Cov.refl _ | (intro p; simp only [List.flatten_cons, List.flatten_nil, List.flatten_append, List.append_nil, List.nil_append, Go.Sl.cnt_append, Go.Sl.cnt_cons, Go.Sl.cnt_nil, List.set_cons_zero, List.set_cons_succ, List.length_nil, List.length_cons, Nat.zero_add, List.append]; omega)) (by repeat (first | exact True.intro | refine And.intro rfl ?_))
          · exact xw_joint (nameB acts[i].by_) (by rw [nameB_size]; omega) (by first | exact Go.Sl.Cov.refl _ | (intro p; simp only [List.flatten_cons, List.flatten_nil, List.flatten_append, List.append_nil, List.nil_append, Go.Sl.cnt_append, Go.Sl.cnt_cons, Go.Sl.cnt_nil, List.set_cons_zero, List.set_cons_succ, List.length_nil, List.length_cons, Nat.zero_add, List.append]; omega)) (by repeat (first | exact True.intro | refine And.intro rfl ?_))
        · rintro by_ hby
          have hids := bsz id
          have hbys := bsz by_
          skip
          refine Go.Sl.cw_cut2 (ι := (Ix)) [(0, _), (1, _), (2, _), (7, _), (44, _), (45, _), (46, _)] ⟨rfl, rfl, rfl, rfl, rfl, rfl, rfl, trivial⟩ ((fun x => [(8, .slice x.ao x.o.l.length x.cap), (9, .int .u64 x.o.next)])) ((fun x => x.i = i + 1 ∧ Inv x (min (max most 1) 4) x40.1)) ((fun x => [(b11, .cells (enA.f acts[i]).toArray 49 (0, 0))] :: x.c :: x.cl :: F)) ?_ ?_
          · have hgok := give_ok (l := id.data.toList) hw hat
            have htl : (acts[i].tok.map (Value.int .u8)).length = 16 := by simp [hat]
            have hoke : enE.ok ⟨o.next, id, acts[i].tok⟩ := ⟨by dsimp only; have := hw.next; omega, by dsimp only; have := hw.next; omega, hat⟩
            have hwm := hw.most
            have hwl := hw.len
            have hwn := hw.next
            have hcap := capLe hL
            refine Go.Sl.cw_seq ?_
            refine Go.Sl.cw_region ?_
            refine Go.Sl.ow_val rfl rfl (Go.Sl.v_fieldAddr0 Ty.fd49_0 rfl) ?_
            refine Go.Sl.ow_val rfl rfl (Go.Sl.v_load rfl (Go.Sl.Var.at1 Ty.sc5 .here (Go.Sl.GetN.lit rfl))) ?_
            refine Go.Sl.ow_val rfl rfl (Go.Sl.v_rem rfl rfl (by decide)) ?_
            refine Go.Sl.ow_val rfl rfl (Go.Sl.v_lss rfl rfl) ?_
            refine Go.Sl.ow_nil ?_
            refine Go.Sl.xw_then ?_
            refine Go.Sl.cw_dec rfl (fun hc81 => ?_) (fun hc81 => ?_)
            refine Go.Sl.cw_seq ?_
            refine Go.Sl.cw_region ?_
            refine Go.Sl.ow_val rfl rfl (Go.Sl.v_move rfl) ?_
            refine Go.Sl.ow_val rfl rfl (Go.Sl.v_move rfl) ?_
            (refine Go.Sl.ow_bytes rfl rfl Try.underlying26 Try.underlying9 Try.underlying5 rfl ?_; intro ao85 cap85 c85 hb85)
            refine Go.Sl.ow_val rfl rfl (Go.Sl.v_fieldAddr0 Ty.fd49_3 rfl) ?_
            refine Go.Sl.ow_val rfl rfl (Go.Sl.v_load rfl (Go.Sl.Var.atN Ty.ag28 (.there .here) (g_tok hat) (by first | rfl | assumption))) ?_
            (refine Go.Sl.ow_call rfl rfl rfl rfl (give_c (by repeat (first | exact Go.Sl.Sel.here | apply Go.Sl.Sel.there)) hO hw (Rd.vw (by assumption) (by repeat (first | exact Go.Sl.Sub.here | assumption | refine Go.Sl.Sub.there ?_))) hat) ?_; rintro _ _ ⟨x88, rfl, hq88, rfl⟩)
            refine Go.Sl.ow_val rfl rfl (Go.Sl.v_move rfl) ?_
            refine Go.Sl.ow_val rfl rfl (v_extractL rfl rfl) ?_
            refine Go.Sl.ow_val rfl rfl (v_extractL rfl rfl) ?_
            (refine Go.Sl.ow_alloc rfl rfl Ty.ze30 ?_; intro b15)
            refine Go.Sl.ow_storeE rfl (eTy) rfl rfl .here (by first | rfl | assumption) (by assumption) ?_
            refine Go.Sl.ow_val rfl rfl (Go.Sl.v_assign rfl) ?_
            refine Go.Sl.ow_nil ?_
            refine Go.Sl.xw_then ?_
            refine Go.Sl.cw_seq ?_
            refine Go.Sl.cw_region ?_
            refine Go.Sl.ow_val rfl rfl (Go.Sl.v_assign rfl) ?_
            refine Go.Sl.ow_nil ?_
            refine Go.Sl.xw_then ?_
            rotate_left
            refine Go.Sl.cw_seq ?_
            refine Go.Sl.cw_region ?_
            refine Go.Sl.ow_val rfl rfl (Go.Sl.v_assign rfl) ?_
            refine Go.Sl.ow_val rfl rfl (Go.Sl.v_assign rfl) ?_
            refine Go.Sl.ow_nil ?_
            refine Go.Sl.xw_then ?_
            rotate_left
            · refine Go.Sl.cw_cut2 (ι := (Unit)) [(0, _), (1, _), (2, _), (7, _), (8, _), (9, _), (11, _), (12, _), (15, _), (16, _), (44, _), (45, _), (46, _)] ⟨rfl, rfl, rfl, rfl, rfl, rfl, rfl, rfl, rfl, rfl, rfl, rfl, rfl, trivial⟩ ((fun _ => [(17, .bool (o.l.any fun x => decide (x.id = id)))])) ((fun _ => True)) ((fun _ => [(b15, .cells (enE.f (o.give id.data.toList acts[i].tok).2.1).toArray 30 (0, 0))] :: [(b11, .cells (enA.f acts[i]).toArray 49 (0, 0))] :: x88 :: cl :: F)) ?_ ?_
              · refine Go.Sl.cw_seq ?_
                refine Go.Sl.cw_region ?_
                refine Go.Sl.ow_val rfl rfl (Go.Sl.v_move rfl) ?_
                refine Go.Sl.ow_val rfl rfl (Go.Sl.v_len rfl Try.underlying31 rfl) ?_
                refine Go.Sl.ow_val rfl rfl (Go.Sl.v_move rfl) ?_
                refine Go.Sl.ow_nil ?_
                refine Go.Sl.xw_then ?_
                refine Go.Sl.cw_block ?_
                refine Go.Sl.cw_loop2 (ι := (Nat)) [(0, _), (1, _), (2, _), (7, _), (8, _), (9, _), (11, _), (12, _), (15, _), (16, _), (44, _), (45, _), (46, _), (91, _), (92, _)] ⟨rfl, rfl, rfl, rfl, rfl, rfl, rfl, rfl, rfl, rfl, rfl, rfl, rfl, rfl, rfl, trivial⟩ ((fun j => [(17, .bool ((o.l.take j).any fun x => decide (x.id = id))), (93, .int .i64 j)])) ((fun j => j ≤ o.l.length)) ((fun j => o.l.length - j)) ((fun _ => [(b15, .cells (enE.f (o.give id.data.toList acts[i].tok).2.1).toArray 30 (0, 0))] :: [(b11, .cells (enA.f acts[i]).toArray 49 (0, 0))] :: x88 :: cl :: F)) (0) (by repeat (first | exact True.intro | refine And.intro rfl ?_)) (by first | exact Go.Sl.Cov.refl _ | (intro p; simp only [List.flatten_cons, List.flatten_nil, List.flatten_append, List.append_nil, List.nil_append, Go.Sl.cnt_append, Go.Sl.cnt_cons, Go.Sl.cnt_nil, List.set_cons_zero, List.set_cons_succ, List.length_nil, List.length_cons, Nat.zero_add, List.append]; omega)) ?_ ?_
                · exact Nat.zero_le _
                rintro j hj
                refine Go.Sl.cw_seq ?_
                refine Go.Sl.cw_region ?_
                refine Go.Sl.ow_val rfl rfl (Go.Sl.v_lss rfl rfl) ?_
                refine Go.Sl.ow_nil ?_
                refine Go.Sl.xw_then ?_
                refine Go.Sl.cw_seq ?_
                refine Go.Sl.cw_dec rfl (fun hc94 => ?_) (fun hc94 => ?_)
                refine Go.Sl.cw_skip ?_
                refine Go.Sl.xw_then ?_
                refine Go.Sl.cw_seq ?_
                refine Go.Sl.cw_block ?_
                refine Go.Sl.cw_seq ?_
                refine Go.Sl.cw_region ?_
                rotate_left
                refine Go.Sl.cw_exit ?_
                refine Go.Sl.xw_then_exit ?_
                refine Go.Sl.xw_round_exit ?_
                refine Go.Sl.xw_block_exit ?_
                rotate_left
                · have hj2 : j < o.l.length := by omega
                  have hokj := hL.ok _ (List.getElem_mem hj2)
                  have hany := any_succ (p := fun x => decide (x.id = id)) hj2
                  refine Go.Sl.ow_val rfl rfl (Go.Sl.v_indexAddr_ls Try.underlying31 (eTy) rfl rfl (by assumption) rfl (by omega)) ?_
                  refine Go.Sl.ow_val rfl rfl (Go.Sl.v_load rfl (Go.Sl.Vw.var (eTy) (Go.Sl.Ls.vw (by assumption) (by repeat (first | exact Go.Sl.Sub.here | assumption | refine Go.Sl.Sub.there ?_))) (by omega))) ?_
                  (refine Go.Sl.ow_alloc rfl rfl Ty.ze30 ?_; intro b19)
                  refine Go.Sl.ow_storeE rfl (eTy) rfl rfl .here (by first | rfl | assumption) (by assumption) ?_
                  refine Go.Sl.ow_nil ?_
                  refine Go.Sl.xw_then ?_
                  refine Go.Sl.cw_region ?_
                  refine Go.Sl.ow_val rfl rfl (Go.Sl.v_move rfl) ?_
                  refine Go.Sl.ow_val rfl rfl (Go.Sl.v_move rfl) ?_
                  refine Go.Sl.ow_bool 98 rfl (fun hc98 => ?_) (fun hc98 => ?_)
                  refine Go.Sl.ow_skip rfl rfl ?_
                  refine Go.Sl.ow_skip rfl rfl ?_
                  refine Go.Sl.ow_skip rfl rfl ?_
                  refine Go.Sl.ow_skip rfl rfl ?_
                  refine Go.Sl.ow_val rfl rfl (Go.Sl.v_pick_true rfl rfl) ?_
                  refine Go.Sl.ow_val rfl rfl (Go.Sl.v_assign rfl) ?_
                  refine Go.Sl.ow_nil ?_
                  refine Go.Sl.xw_block ?_
                  refine Go.Sl.xw_then ?_
                  refine Go.Sl.cw_region ?_
                  refine Go.Sl.ow_val rfl rfl (Go.Sl.v_add rfl rfl (Go.Sl.nw_i64 (by omega) (by omega))) ?_
                  refine Go.Sl.ow_val rfl rfl (Go.Sl.v_move rfl) ?_
                  refine Go.Sl.ow_nil ?_
                  rotate_left
                  refine Go.Sl.ow_val rfl rfl (Go.Sl.v_fieldAddr0 Ty.fd30_1 rfl) ?_
                  refine Go.Sl.ow_val rfl rfl (Go.Sl.v_load rfl (Go.Sl.Var.at1 Ty.sc9 .here (Go.Sl.GetN.lit rfl))) ?_
                  refine Go.Sl.ow_val rfl rfl (Go.Sl.v_move rfl) ?_
                  refine Go.Sl.ow_val rfl rfl (Go.Sl.v_eqlS rfl rfl) ?_
                  refine Go.Sl.ow_val rfl rfl (Go.Sl.v_pick_false rfl rfl) ?_
                  refine Go.Sl.ow_val rfl rfl (Go.Sl.v_assign rfl) ?_
                  refine Go.Sl.ow_nil ?_
                  refine Go.Sl.xw_block ?_
                  refine Go.Sl.xw_then ?_
                  refine Go.Sl.cw_region ?_
                  refine Go.Sl.ow_val rfl rfl (Go.Sl.v_add rfl rfl (Go.Sl.nw_i64 (by omega) (by omega))) ?_
                  refine Go.Sl.ow_val rfl rfl (Go.Sl.v_move rfl) ?_
                  refine Go.Sl.ow_nil ?_
                  rotate_left
                  · have hx : ((o.l.take (j + 1)).any fun x => decide (x.id = id)) = true := by rw [hany, hc98]; rfl
                    exact xw_round (j + 1) (by omega) (by omega) (by first | exact Go.Sl.Cov.refl _ | (intro p; simp only [List.flatten_cons, List.flatten_nil, List.flatten_append, List.append_nil, List.nil_append, Go.Sl.cnt_append, Go.Sl.cnt_cons, Go.Sl.cnt_nil, List.set_cons_zero, List.set_cons_succ, List.length_nil, List.length_cons, Nat.zero_add, List.append]; omega)) ⟨by rw [hx]; rfl, (by repeat (first | exact True.intro | refine And.intro rfl ?_))⟩
                  · have hx : ((o.l.take (j + 1)).any fun x => decide (x.id = id)) = decide (o.l[j].id = id) := by rw [hany, hc98]; simp
                    exact xw_round (j + 1) (by omega) (by omega) (by first | exact Go.Sl.Cov.refl _ | (intro p; simp only [List.flatten_cons, List.flatten_nil, List.flatten_append, List.append_nil, List.nil_append, Go.Sl.cnt_append, Go.Sl.cnt_cons, Go.Sl.cnt_nil, List.set_cons_zero, List.set_cons_succ, List.length_nil, List.length_cons, Nat.zero_add, List.append]; omega)) ⟨by rw [hx]; rfl, (by repeat (first | exact True.intro | refine And.intro rfl ?_))⟩
                · have hx : o.l.take j = o.l := List.take_of_length_le (by omega)
                  exact xw_joint () trivial (by first | exact Go.Sl.Cov.refl _ | (intro p; simp only [List.flatten_cons, List.flatten_nil, List.flatten_append, List.append_nil, List.nil_append, Go.Sl.cnt_append, Go.Sl.cnt_cons, Go.Sl.cnt_nil, List.set_cons_zero, List.set_cons_succ, List.length_nil, List.length_cons, Nat.zero_add, List.append]; omega)) ⟨by rw [hx]; rfl, (by repeat (first | exact True.intro | refine And.intro rfl ?_))⟩
              · rintro _ _
                rcases giveCases o id acts[i].tok with ⟨hg, hg1⟩ | ⟨hg, hg1, hg2⟩ | ⟨hg, hg1, hg2, hg3⟩ | ⟨hg, hg1, hg2, hg3⟩
                all_goals rw [hg] at hq88 ⊢
                all_goals dsimp only at hq88 ⊢
                · refine Go.Sl.cw_seq ?_
                  refine Go.Sl.cw_region ?_
                  refine Go.Sl.ow_val rfl rfl (Go.Sl.v_assign rfl) ?_
                  refine Go.Sl.ow_nil ?_
                  refine Go.Sl.xw_then ?_
                  refine Go.Sl.cw_seq ?_
                  refine Go.Sl.cw_block ?_
                  refine Go.Sl.cw_seq ?_
                  refine Go.Sl.cw_region ?_
                  refine Go.Sl.ow_val rfl rfl (Go.Sl.v_move rfl) ?_
                  refine Go.Sl.ow_val rfl rfl (Go.Sl.v_len_str rfl Try.underlying9 rfl) ?_
                  refine Go.Sl.ow_val rfl rfl (Go.Sl.v_lss rfl rfl) ?_
                  refine Go.Sl.ow_val rfl rfl (Go.Sl.v_move rfl) ?_
                  refine Go.Sl.ow_dec 109 rfl (fun hc109 => ?_) (fun hc109 => ?_)
                  refine Go.Sl.ow_skip rfl rfl ?_
                  refine Go.Sl.ow_skip rfl rfl ?_
                  refine Go.Sl.ow_skip rfl rfl ?_
                  refine Go.Sl.ow_val rfl rfl (Go.Sl.v_pick_true rfl rfl) ?_
                  refine Go.Sl.ow_val rfl rfl (Go.Sl.v_assign rfl) ?_
                  refine Go.Sl.ow_nil ?_
                  refine Go.Sl.xw_then ?_
                  refine Go.Sl.cw_true rfl ?_
                  refine Go.Sl.cw_region ?_
                  refine Go.Sl.ow_val rfl rfl (Go.Sl.v_assign rfl) ?_
                  refine Go.Sl.ow_nil ?_
                  refine Go.Sl.xw_block ?_
                  refine Go.Sl.xw_then ?_
                  refine Go.Sl.cw_seq ?_
                  refine Go.Sl.cw_seq ?_
                  refine Go.Sl.cw_region ?_
                  refine Go.Sl.ow_val rfl rfl (Go.Sl.v_move rfl) ?_
                  refine Go.Sl.ow_val rfl rfl (Go.Sl.v_move rfl) ?_
                  refine Go.Sl.ow_val rfl rfl (Go.Sl.v_neq rfl rfl) ?_
                  refine Go.Sl.ow_val rfl rfl (Go.Sl.v_move rfl) ?_
                  refine Go.Sl.ow_dec 126 rfl (fun hc126 => ?_) (fun hc126 => ?_)
                  (exfalso; omega)
                  refine Go.Sl.ow_val rfl rfl (Go.Sl.v_move rfl) ?_
                  refine Go.Sl.ow_val rfl rfl (Go.Sl.v_neq rfl rfl) ?_
                  refine Go.Sl.ow_val rfl rfl (Go.Sl.v_move rfl) ?_
                  refine Go.Sl.ow_dec 129 rfl (fun hc129 => ?_) (fun hc129 => ?_)
                  rotate_left; (exfalso; omega); rotate_right
                  refine Go.Sl.ow_val rfl rfl (Go.Sl.v_load rfl (Go.Sl.Var.atN Ty.ag30 .here Go.Sl.GetN.all (by first | rfl | assumption))) ?_
                  refine Go.Sl.ow_val rfl rfl (Go.Sl.v_build rfl (b_entry0)) ?_
                  refine Go.Sl.ow_val rfl rfl (Go.Sl.v_neqA rfl rfl Ty.gt30 (eqE ok_no ok_no)) ?_
                  refine Go.Sl.ow_val rfl rfl (Go.Sl.v_pick_true rfl rfl) ?_
                  refine Go.Sl.ow_val rfl rfl (Go.Sl.v_pick_false rfl rfl) ?_
                  refine Go.Sl.ow_nil ?_
                  refine Go.Sl.xw_then ?_
                  refine Go.Sl.cw_false rfl ?_
                  refine Go.Sl.cw_skip ?_
                  refine Go.Sl.xw_then ?_
                  refine Go.Sl.cw_seq ?_
                  refine Go.Sl.cw_region ?_
                  refine Go.Sl.ow_val rfl rfl (Go.Sl.v_move rfl) ?_
                  refine Go.Sl.ow_val rfl rfl (Go.Sl.v_eql rfl rfl) ?_
                  refine Go.Sl.ow_nil ?_
                  refine Go.Sl.xw_then ?_
                  refine Go.Sl.cw_false rfl ?_
                  refine Go.Sl.cw_skip ?_
                  rotate_left
                  refine Go.Sl.ow_val rfl rfl (Go.Sl.v_move rfl) ?_
                  refine Go.Sl.ow_val rfl rfl (Go.Sl.v_len_str rfl Try.underlying9 rfl) ?_
                  refine Go.Sl.ow_val rfl rfl (Go.Sl.v_gtr rfl rfl) ?_
                  refine Go.Sl.ow_val rfl rfl (Go.Sl.v_pick_false rfl rfl) ?_
                  refine Go.Sl.ow_val rfl rfl (Go.Sl.v_assign rfl) ?_
                  refine Go.Sl.ow_nil ?_
                  refine Go.Sl.xw_then ?_
                  refine Go.Sl.cw_dec rfl (fun hc105 => ?_) (fun hc105 => ?_)
                  rotate_left; (exfalso; omega); rotate_right
                  refine Go.Sl.cw_region ?_
                  refine Go.Sl.ow_val rfl rfl (Go.Sl.v_assign rfl) ?_
                  refine Go.Sl.ow_nil ?_
                  refine Go.Sl.xw_block ?_
                  refine Go.Sl.xw_then ?_
                  refine Go.Sl.cw_seq ?_
                  refine Go.Sl.cw_seq ?_
                  refine Go.Sl.cw_region ?_
                  refine Go.Sl.ow_val rfl rfl (Go.Sl.v_move rfl) ?_
                  refine Go.Sl.ow_val rfl rfl (Go.Sl.v_move rfl) ?_
                  refine Go.Sl.ow_val rfl rfl (Go.Sl.v_neq rfl rfl) ?_
                  refine Go.Sl.ow_val rfl rfl (Go.Sl.v_move rfl) ?_
                  refine Go.Sl.ow_dec 126 rfl (fun hc126 => ?_) (fun hc126 => ?_)
                  (exfalso; omega)
                  refine Go.Sl.ow_val rfl rfl (Go.Sl.v_move rfl) ?_
                  refine Go.Sl.ow_val rfl rfl (Go.Sl.v_neq rfl rfl) ?_
                  refine Go.Sl.ow_val rfl rfl (Go.Sl.v_move rfl) ?_
                  refine Go.Sl.ow_dec 129 rfl (fun hc129 => ?_) (fun hc129 => ?_)
                  rotate_left; (exfalso; omega); rotate_right
                  refine Go.Sl.ow_val rfl rfl (Go.Sl.v_load rfl (Go.Sl.Var.atN Ty.ag30 .here Go.Sl.GetN.all (by first | rfl | assumption))) ?_
                  refine Go.Sl.ow_val rfl rfl (Go.Sl.v_build rfl (b_entry0)) ?_
                  refine Go.Sl.ow_val rfl rfl (Go.Sl.v_neqA rfl rfl Ty.gt30 (eqE ok_no ok_no)) ?_
                  refine Go.Sl.ow_val rfl rfl (Go.Sl.v_pick_true rfl rfl) ?_
                  refine Go.Sl.ow_val rfl rfl (Go.Sl.v_pick_false rfl rfl) ?_
                  refine Go.Sl.ow_nil ?_
                  refine Go.Sl.xw_then ?_
                  refine Go.Sl.cw_false rfl ?_
                  refine Go.Sl.cw_skip ?_
                  refine Go.Sl.xw_then ?_
                  refine Go.Sl.cw_seq ?_
                  refine Go.Sl.cw_region ?_
                  refine Go.Sl.ow_val rfl rfl (Go.Sl.v_move rfl) ?_
                  refine Go.Sl.ow_val rfl rfl (Go.Sl.v_eql rfl rfl) ?_
                  refine Go.Sl.ow_nil ?_
                  refine Go.Sl.xw_then ?_
                  refine Go.Sl.cw_false rfl ?_
                  refine Go.Sl.cw_skip ?_
                  rotate_left
                  all_goals first
                    | exact absurd rfl hc126
                    | exact absurd rfl hc132
                    | exact xw_joint (⟨i + 1, o, x88, ao, cap, cl⟩ : Ix) ⟨rfl, hq88, hw, hmo, by dsimp only; omega, hr, hL⟩ (by first | exact Go.Sl.Cov.refl _ | (intro p; simp only [List.flatten_cons, List.flatten_nil, List.flatten_append, List.append_nil, List.nil_append, Go.Sl.cnt_append, Go.Sl.cnt_cons, Go.Sl.cnt_nil, List.set_cons_zero, List.set_cons_succ, List.length_nil, List.length_cons, Nat.zero_add, List.append]; omega)) (by repeat (first | exact True.intro | refine And.intro rfl ?_))
                · refine Go.Sl.cw_seq ?_
                  refine Go.Sl.cw_region ?_
                  refine Go.Sl.ow_val rfl rfl (Go.Sl.v_assign rfl) ?_
                  refine Go.Sl.ow_nil ?_
                  refine Go.Sl.xw_then ?_
                  refine Go.Sl.cw_seq ?_
                  refine Go.Sl.cw_block ?_
                  refine Go.Sl.cw_seq ?_
                  refine Go.Sl.cw_region ?_
                  refine Go.Sl.ow_val rfl rfl (Go.Sl.v_move rfl) ?_
                  refine Go.Sl.ow_val rfl rfl (Go.Sl.v_len_str rfl Try.underlying9 rfl) ?_
                  refine Go.Sl.ow_val rfl rfl (Go.Sl.v_lss rfl rfl) ?_
                  refine Go.Sl.ow_val rfl rfl (Go.Sl.v_move rfl) ?_
                  refine Go.Sl.ow_dec 109 rfl (fun hc109 => ?_) (fun hc109 => ?_)
                  (exfalso; omega)
                  refine Go.Sl.ow_val rfl rfl (Go.Sl.v_move rfl) ?_
                  refine Go.Sl.ow_val rfl rfl (Go.Sl.v_len_str rfl Try.underlying9 rfl) ?_
                  refine Go.Sl.ow_val rfl rfl (Go.Sl.v_gtr rfl rfl) ?_
                  refine Go.Sl.ow_val rfl rfl (Go.Sl.v_pick_false rfl rfl) ?_
                  refine Go.Sl.ow_val rfl rfl (Go.Sl.v_assign rfl) ?_
                  refine Go.Sl.ow_nil ?_
                  refine Go.Sl.xw_then ?_
                  refine Go.Sl.cw_dec rfl (fun hc105 => ?_) (fun hc105 => ?_)
                  (exfalso; omega)
                  refine Go.Sl.cw_seq ?_
                  refine Go.Sl.cw_region ?_
                  refine Go.Sl.ow_val rfl rfl (Go.Sl.v_move rfl) ?_
                  refine Go.Sl.ow_val rfl rfl (Go.Sl.v_len rfl Try.underlying31 rfl) ?_
                  refine Go.Sl.ow_val rfl rfl (Go.Sl.v_move rfl) ?_
                  refine Go.Sl.ow_val rfl rfl (Go.Sl.v_max rfl rfl) ?_
                  refine Go.Sl.ow_val rfl rfl (Go.Sl.v_min rfl rfl) ?_
                  refine Go.Sl.ow_val rfl rfl (Go.Sl.v_geq rfl rfl) ?_
                  refine Go.Sl.ow_val rfl rfl (Go.Sl.v_assign rfl) ?_
                  refine Go.Sl.ow_nil ?_
                  refine Go.Sl.xw_then ?_
                  refine Go.Sl.cw_dec rfl (fun hc114 => ?_) (fun hc114 => ?_)
                  rotate_left; (exfalso; omega); rotate_right
                  refine Go.Sl.cw_region ?_
                  refine Go.Sl.ow_val rfl rfl (Go.Sl.v_assign rfl) ?_
                  refine Go.Sl.ow_nil ?_
                  refine Go.Sl.xw_block ?_
                  refine Go.Sl.xw_then ?_
                  refine Go.Sl.cw_seq ?_
                  refine Go.Sl.cw_seq ?_
                  refine Go.Sl.cw_region ?_
                  refine Go.Sl.ow_val rfl rfl (Go.Sl.v_move rfl) ?_
                  refine Go.Sl.ow_val rfl rfl (Go.Sl.v_move rfl) ?_
                  refine Go.Sl.ow_val rfl rfl (Go.Sl.v_neq rfl rfl) ?_
                  refine Go.Sl.ow_val rfl rfl (Go.Sl.v_move rfl) ?_
                  refine Go.Sl.ow_dec 126 rfl (fun hc126 => ?_) (fun hc126 => ?_)
                  (exfalso; omega)
                  refine Go.Sl.ow_val rfl rfl (Go.Sl.v_move rfl) ?_
                  refine Go.Sl.ow_val rfl rfl (Go.Sl.v_neq rfl rfl) ?_
                  refine Go.Sl.ow_val rfl rfl (Go.Sl.v_move rfl) ?_
                  refine Go.Sl.ow_dec 129 rfl (fun hc129 => ?_) (fun hc129 => ?_)
                  rotate_left; (exfalso; omega); rotate_right
                  refine Go.Sl.ow_val rfl rfl (Go.Sl.v_load rfl (Go.Sl.Var.atN Ty.ag30 .here Go.Sl.GetN.all (by first | rfl | assumption))) ?_
                  refine Go.Sl.ow_val rfl rfl (Go.Sl.v_build rfl (b_entry0)) ?_
                  refine Go.Sl.ow_val rfl rfl (Go.Sl.v_neqA rfl rfl Ty.gt30 (eqE ok_no ok_no)) ?_
                  refine Go.Sl.ow_val rfl rfl (Go.Sl.v_pick_true rfl rfl) ?_
                  refine Go.Sl.ow_val rfl rfl (Go.Sl.v_pick_false rfl rfl) ?_
                  refine Go.Sl.ow_nil ?_
                  refine Go.Sl.xw_then ?_
                  refine Go.Sl.cw_false rfl ?_
                  refine Go.Sl.cw_skip ?_
                  refine Go.Sl.xw_then ?_
                  refine Go.Sl.cw_seq ?_
                  refine Go.Sl.cw_region ?_
                  refine Go.Sl.ow_val rfl rfl (Go.Sl.v_move rfl) ?_
                  refine Go.Sl.ow_val rfl rfl (Go.Sl.v_eql rfl rfl) ?_
                  refine Go.Sl.ow_nil ?_
                  refine Go.Sl.xw_then ?_
                  refine Go.Sl.cw_false rfl ?_
                  refine Go.Sl.cw_skip ?_
                  all_goals first
                    | exact absurd rfl hc126
                    | exact absurd rfl hc132
                    | exact xw_joint (⟨i + 1, o, x88, ao, cap, cl⟩ : Ix) ⟨rfl, hq88, hw, hmo, by dsimp only; omega, hr, hL⟩ (by first | exact Go.Sl.Cov.refl _ | (intro p; simp only [List.flatten_cons, List.flatten_nil, List.flatten_append, List.append_nil, List.nil_append, Go.Sl.cnt_append, Go.Sl.cnt_cons, Go.Sl.cnt_nil, List.set_cons_zero, List.set_cons_succ, List.length_nil, List.length_cons, Nat.zero_add, List.append]; omega)) (by repeat (first | exact True.intro | refine And.intro rfl ?_))
                · rw [hg3]
                  refine Go.Sl.cw_seq ?_
                  refine Go.Sl.cw_region ?_
                  refine Go.Sl.ow_val rfl rfl (Go.Sl.v_assign rfl) ?_
                  refine Go.Sl.ow_nil ?_
                  refine Go.Sl.xw_then ?_
                  refine Go.Sl.cw_seq ?_
                  refine Go.Sl.cw_block ?_
                  refine Go.Sl.cw_seq ?_
                  refine Go.Sl.cw_region ?_
                  refine Go.Sl.ow_val rfl rfl (Go.Sl.v_move rfl) ?_
                  refine Go.Sl.ow_val rfl rfl (Go.Sl.v_len_str rfl Try.underlying9 rfl) ?_
                  refine Go.Sl.ow_val rfl rfl (Go.Sl.v_lss rfl rfl) ?_
                  refine Go.Sl.ow_val rfl rfl (Go.Sl.v_move rfl) ?_
                  refine Go.Sl.ow_dec 109 rfl (fun hc109 => ?_) (fun hc109 => ?_)
                  (exfalso; omega)
                  refine Go.Sl.ow_val rfl rfl (Go.Sl.v_move rfl) ?_
                  refine Go.Sl.ow_val rfl rfl (Go.Sl.v_len_str rfl Try.underlying9 rfl) ?_
                  refine Go.Sl.ow_val rfl rfl (Go.Sl.v_gtr rfl rfl) ?_
                  refine Go.Sl.ow_val rfl rfl (Go.Sl.v_pick_false rfl rfl) ?_
                  refine Go.Sl.ow_val rfl rfl (Go.Sl.v_assign rfl) ?_
                  refine Go.Sl.ow_nil ?_
                  refine Go.Sl.xw_then ?_
                  refine Go.Sl.cw_dec rfl (fun hc105 => ?_) (fun hc105 => ?_)
                  (exfalso; omega)
                  refine Go.Sl.cw_seq ?_
                  refine Go.Sl.cw_region ?_
                  refine Go.Sl.ow_val rfl rfl (Go.Sl.v_move rfl) ?_
                  refine Go.Sl.ow_val rfl rfl (Go.Sl.v_len rfl Try.underlying31 rfl) ?_
                  refine Go.Sl.ow_val rfl rfl (Go.Sl.v_move rfl) ?_
                  refine Go.Sl.ow_val rfl rfl (Go.Sl.v_max rfl rfl) ?_
                  refine Go.Sl.ow_val rfl rfl (Go.Sl.v_min rfl rfl) ?_
                  refine Go.Sl.ow_val rfl rfl (Go.Sl.v_geq rfl rfl) ?_
                  refine Go.Sl.ow_val rfl rfl (Go.Sl.v_assign rfl) ?_
                  refine Go.Sl.ow_nil ?_
                  refine Go.Sl.xw_then ?_
                  refine Go.Sl.cw_dec rfl (fun hc114 => ?_) (fun hc114 => ?_)
                  (exfalso; omega)
                  refine Go.Sl.cw_seq ?_
                  refine Go.Sl.cw_region ?_
                  refine Go.Sl.ow_val rfl rfl (Go.Sl.v_move rfl) ?_
                  refine Go.Sl.ow_val rfl rfl (Go.Sl.v_assign rfl) ?_
                  refine Go.Sl.ow_nil ?_
                  refine Go.Sl.xw_then ?_
                  refine Go.Sl.cw_true rfl ?_
                  refine Go.Sl.cw_region ?_
                  refine Go.Sl.ow_val rfl rfl (Go.Sl.v_assign rfl) ?_
                  refine Go.Sl.ow_nil ?_
                  refine Go.Sl.xw_block ?_
                  refine Go.Sl.xw_then ?_
                  refine Go.Sl.cw_seq ?_
                  refine Go.Sl.cw_seq ?_
                  refine Go.Sl.cw_region ?_
                  refine Go.Sl.ow_val rfl rfl (Go.Sl.v_move rfl) ?_
                  refine Go.Sl.ow_val rfl rfl (Go.Sl.v_move rfl) ?_
                  refine Go.Sl.ow_val rfl rfl (Go.Sl.v_neq rfl rfl) ?_
                  refine Go.Sl.ow_val rfl rfl (Go.Sl.v_move rfl) ?_
                  refine Go.Sl.ow_dec 126 rfl (fun hc126 => ?_) (fun hc126 => ?_)
                  (exfalso; omega)
                  refine Go.Sl.ow_val rfl rfl (Go.Sl.v_move rfl) ?_
                  refine Go.Sl.ow_val rfl rfl (Go.Sl.v_neq rfl rfl) ?_
                  refine Go.Sl.ow_val rfl rfl (Go.Sl.v_move rfl) ?_
                  refine Go.Sl.ow_dec 129 rfl (fun hc129 => ?_) (fun hc129 => ?_)
                  rotate_left; (exfalso; omega); rotate_right
                  refine Go.Sl.ow_val rfl rfl (Go.Sl.v_load rfl (Go.Sl.Var.atN Ty.ag30 .here Go.Sl.GetN.all (by first | rfl | assumption))) ?_
                  refine Go.Sl.ow_val rfl rfl (Go.Sl.v_build rfl (b_entry0)) ?_
                  refine Go.Sl.ow_val rfl rfl (Go.Sl.v_neqA rfl rfl Ty.gt30 (eqE ok_no ok_no)) ?_
                  refine Go.Sl.ow_val rfl rfl (Go.Sl.v_pick_true rfl rfl) ?_
                  refine Go.Sl.ow_val rfl rfl (Go.Sl.v_pick_false rfl rfl) ?_
                  refine Go.Sl.ow_nil ?_
                  refine Go.Sl.xw_then ?_
                  refine Go.Sl.cw_false rfl ?_
                  refine Go.Sl.cw_skip ?_
                  refine Go.Sl.xw_then ?_
                  refine Go.Sl.cw_seq ?_
                  refine Go.Sl.cw_region ?_
                  refine Go.Sl.ow_val rfl rfl (Go.Sl.v_move rfl) ?_
                  refine Go.Sl.ow_val rfl rfl (Go.Sl.v_eql rfl rfl) ?_
                  refine Go.Sl.ow_nil ?_
                  refine Go.Sl.xw_then ?_
                  refine Go.Sl.cw_false rfl ?_
                  refine Go.Sl.cw_skip ?_
                  all_goals first
                    | exact absurd rfl hc126
                    | exact absurd rfl hc132
                    | exact xw_joint (⟨i + 1, o, x88, ao, cap, cl⟩ : Ix) ⟨rfl, hq88, hw, hmo, by dsimp only; omega, hr, hL⟩ (by first | exact Go.Sl.Cov.refl _ | (intro p; simp only [List.flatten_cons, List.flatten_nil, List.flatten_append, List.append_nil, List.nil_append, Go.Sl.cnt_append, Go.Sl.cnt_cons, Go.Sl.cnt_nil, List.set_cons_zero, List.set_cons_succ, List.length_nil, List.length_cons, Nat.zero_add, List.append]; omega)) (by repeat (first | exact True.intro | refine And.intro rfl ?_))
                · rw [hg3]
                  have hwf' : ({ o with next := o.next + 1, l := o.l ++ [⟨o.next, id, acts[i].tok⟩] } : OwnM).WF := ⟨hw.most, by dsimp only; omega, by simp; omega⟩
                  refine Go.Sl.cw_seq ?_
                  refine Go.Sl.cw_region ?_
                  refine Go.Sl.ow_val rfl rfl (Go.Sl.v_assign rfl) ?_
                  refine Go.Sl.ow_nil ?_
                  refine Go.Sl.xw_then ?_
                  refine Go.Sl.cw_seq ?_
                  refine Go.Sl.cw_block ?_
                  refine Go.Sl.cw_seq ?_
                  refine Go.Sl.cw_region ?_
                  refine Go.Sl.ow_val rfl rfl (Go.Sl.v_move rfl) ?_
                  refine Go.Sl.ow_val rfl rfl (Go.Sl.v_len_str rfl Try.underlying9 rfl) ?_
                  refine Go.Sl.ow_val rfl rfl (Go.Sl.v_lss rfl rfl) ?_
                  refine Go.Sl.ow_val rfl rfl (Go.Sl.v_move rfl) ?_
                  refine Go.Sl.ow_dec 109 rfl (fun hc109 => ?_) (fun hc109 => ?_)
                  (exfalso; omega)
                  refine Go.Sl.ow_val rfl rfl (Go.Sl.v_move rfl) ?_
                  refine Go.Sl.ow_val rfl rfl (Go.Sl.v_len_str rfl Try.underlying9 rfl) ?_
                  refine Go.Sl.ow_val rfl rfl (Go.Sl.v_gtr rfl rfl) ?_
                  refine Go.Sl.ow_val rfl rfl (Go.Sl.v_pick_false rfl rfl) ?_
                  refine Go.Sl.ow_val rfl rfl (Go.Sl.v_assign rfl) ?_
                  refine Go.Sl.ow_nil ?_
                  refine Go.Sl.xw_then ?_
                  refine Go.Sl.cw_dec rfl (fun hc105 => ?_) (fun hc105 => ?_)
                  (exfalso; omega)
                  refine Go.Sl.cw_seq ?_
                  refine Go.Sl.cw_region ?_
                  refine Go.Sl.ow_val rfl rfl (Go.Sl.v_move rfl) ?_
                  refine Go.Sl.ow_val rfl rfl (Go.Sl.v_len rfl Try.underlying31 rfl) ?_
                  refine Go.Sl.ow_val rfl rfl (Go.Sl.v_move rfl) ?_
                  refine Go.Sl.ow_val rfl rfl (Go.Sl.v_max rfl rfl) ?_
                  refine Go.Sl.ow_val rfl rfl (Go.Sl.v_min rfl rfl) ?_
                  refine Go.Sl.ow_val rfl rfl (Go.Sl.v_geq rfl rfl) ?_
                  refine Go.Sl.ow_val rfl rfl (Go.Sl.v_assign rfl) ?_
                  refine Go.Sl.ow_nil ?_
                  refine Go.Sl.xw_then ?_
                  refine Go.Sl.cw_dec rfl (fun hc114 => ?_) (fun hc114 => ?_)
                  (exfalso; omega)
                  refine Go.Sl.cw_seq ?_
                  refine Go.Sl.cw_region ?_
                  refine Go.Sl.ow_val rfl rfl (Go.Sl.v_move rfl) ?_
                  refine Go.Sl.ow_val rfl rfl (Go.Sl.v_assign rfl) ?_
                  refine Go.Sl.ow_nil ?_
                  refine Go.Sl.xw_then ?_
                  refine Go.Sl.cw_false rfl ?_
                  refine Go.Sl.cw_skip ?_
                  refine Go.Sl.xw_block ?_
                  refine Go.Sl.xw_then ?_
                  refine Go.Sl.cw_seq ?_
                  refine Go.Sl.cw_seq ?_
                  refine Go.Sl.cw_region ?_
                  refine Go.Sl.ow_val rfl rfl (Go.Sl.v_move rfl) ?_
                  refine Go.Sl.ow_val rfl rfl (Go.Sl.v_move rfl) ?_
                  refine Go.Sl.ow_val rfl rfl (Go.Sl.v_neq rfl rfl) ?_
                  refine Go.Sl.ow_val rfl rfl (Go.Sl.v_move rfl) ?_
                  refine Go.Sl.ow_dec 126 rfl (fun hc126 => ?_) (fun hc126 => ?_)
                  (exfalso; omega)
                  refine Go.Sl.ow_val rfl rfl (Go.Sl.v_move rfl) ?_
                  refine Go.Sl.ow_val rfl rfl (Go.Sl.v_neq rfl rfl) ?_
                  refine Go.Sl.ow_val rfl rfl (Go.Sl.v_move rfl) ?_
                  refine Go.Sl.ow_skip rfl rfl ?_
                  refine Go.Sl.ow_skip rfl rfl ?_
                  refine Go.Sl.ow_skip rfl rfl ?_
                  refine Go.Sl.ow_val rfl rfl (Go.Sl.v_pick_false rfl rfl) ?_
                  refine Go.Sl.ow_val rfl rfl (Go.Sl.v_pick_false rfl rfl) ?_
                  refine Go.Sl.ow_nil ?_
                  refine Go.Sl.xw_then ?_
                  refine Go.Sl.cw_false rfl ?_
                  refine Go.Sl.cw_skip ?_
                  refine Go.Sl.xw_then ?_
                  refine Go.Sl.cw_seq ?_
                  refine Go.Sl.cw_region ?_
                  refine Go.Sl.ow_val rfl rfl (Go.Sl.v_move rfl) ?_
                  refine Go.Sl.ow_val rfl rfl (Go.Sl.v_eql rfl rfl) ?_
                  refine Go.Sl.ow_nil ?_
                  refine Go.Sl.xw_then ?_
                  refine Go.Sl.cw_true rfl ?_
                  refine Go.Sl.cw_seq ?_
                  refine Go.Sl.cw_region ?_
                  refine Go.Sl.ow_val rfl rfl (Go.Sl.v_move rfl) ?_
                  refine Go.Sl.ow_val rfl rfl (Go.Sl.v_move rfl) ?_
                  refine Go.Sl.ow_val rfl rfl (Go.Sl.v_fieldAddr0 Ty.fd49_3 rfl) ?_
                  refine Go.Sl.ow_val rfl rfl (Go.Sl.v_load rfl (Go.Sl.Var.atN Ty.ag28 (.there .here) (g_tok hat) (by first | rfl | assumption))) ?_
                  refine Go.Sl.ow_val rfl rfl (Go.Sl.v_build rfl (b_give hat)) ?_
                  (refine Go.Sl.ow_alloc rfl rfl Ty.ze30 ?_; intro b21)
                  refine Go.Sl.ow_storeE rfl (eTy) rfl rfl .here (by first | rfl | assumption) (by assumption) ?_
                  refine Go.Sl.ow_nil ?_
                  refine Go.Sl.xw_then ?_
                  refine Go.Sl.cw_seq ?_
                  refine Go.Sl.cw_seq ?_
                  refine Go.Sl.cw_region ?_
                  refine Go.Sl.ow_val rfl rfl (Go.Sl.v_load rfl (Go.Sl.Var.atE (eTy) (.there .here) (by assumption))) ?_
                  refine Go.Sl.ow_val rfl rfl (Go.Sl.v_load rfl (Go.Sl.Var.atE (eTy) .here (by assumption))) ?_
                  refine Go.Sl.ow_val rfl rfl (Go.Sl.v_neqA rfl rfl Ty.gt30 (eqE hoke hoke)) ?_
                  refine Go.Sl.ow_nil ?_
                  refine Go.Sl.xw_then ?_
                  refine Go.Sl.cw_dec rfl (fun hc144 => ?_) (fun hc144 => ?_)
                  refine Go.Sl.cw_seq ?_
                  refine Go.Sl.cw_region ?_
                  refine Go.Sl.ow_val rfl rfl (Go.Sl.v_assign rfl) ?_
                  refine Go.Sl.ow_nil ?_
                  refine Go.Sl.xw_then ?_
                  refine Go.Sl.cw_ret ?_
                  refine Go.Sl.xw_then_ret ?_
                  refine Go.Sl.xw_joint_ret ?_
                  refine Go.Sl.xw_block_ret ?_
                  refine Go.Sl.xw_then_ret ?_
                  refine Go.Sl.xw_round_ret ?_
                  refine Go.Sl.xw_block_ret ?_
                  refine Go.Sl.xw_then_ret ?_
                  refine Go.Sl.ret1 rfl (Go.Sl.res_tmp rfl) ?_
                  rotate_left
                  refine Go.Sl.cw_skip ?_
                  refine Go.Sl.xw_then ?_
                  refine Go.Sl.cw_seq ?_
                  refine Go.Sl.cw_region ?_
                  refine Go.Sl.ow_val rfl rfl (Go.Sl.v_move rfl) ?_
                  refine Go.Sl.ow_val rfl rfl (Go.Sl.v_load rfl (Go.Sl.Var.atE (eTy) .here (by assumption))) ?_
                  (refine Go.Sl.ow_buildL (es := [(⟨o.next, id, acts[i].tok⟩)]) rfl rfl Try.underlying31 Ty.em31 (eTy) rfl rfl (by simp [*]) (by simp only [List.length_cons, List.length_nil]; decide) ?_; intro ao147 c147 hL147)
                  (refine Go.Sl.ow_appendL rfl rfl Try.underlying31 Try.underlying31 Ty.em31 (eTy) rfl rfl (by assumption) (by repeat (first | exact Go.Sl.Sel.here | apply Go.Sl.Sel.there)) (Go.Sl.Ls.vw (by assumption) (by repeat (first | exact Go.Sl.Sub.here | assumption | refine Go.Sl.Sub.there ?_))) (by first | omega | (simp only [List.length_append, List.length_take, List.length_drop, List.length_nil, List.length_cons]; omega)) (by first | omega | (simp only [List.length_append, List.length_take, List.length_drop, List.length_nil, List.length_cons]; omega)) ?_; intro ao148 cap148 c148 hL148)
                  refine Go.Sl.ow_val rfl rfl (Go.Sl.v_assign rfl) ?_
                  refine Go.Sl.ow_nil ?_
                  refine Go.Sl.xw_then ?_
                  refine Go.Sl.cw_region ?_
                  refine Go.Sl.ow_val rfl rfl (Go.Sl.v_move rfl) ?_
                  refine Go.Sl.ow_val rfl rfl (Go.Sl.v_add rfl rfl (Go.Sl.nw_u64 (by omega) (by omega))) ?_
                  refine Go.Sl.ow_val rfl rfl (Go.Sl.v_assign rfl) ?_
                  refine Go.Sl.ow_nil ?_
                  rotate_left
                  all_goals first
                    | exact absurd rfl hc126
                    | exact absurd rfl hc144
                    | exact xw_joint (⟨i + 1, _, x88, ao148, cap148, c148⟩ : Ix) ⟨rfl, hq88, hwf', hmo, by dsimp only; omega, hr.give hwn.1 _ _, hL148⟩ (by first | exact Go.Sl.Cov.refl _ | (intro p; simp only [List.flatten_cons, List.flatten_nil, List.flatten_append, List.append_nil, List.nil_append, Go.Sl.cnt_append, Go.Sl.cnt_cons, Go.Sl.cnt_nil, List.set_cons_zero, List.set_cons_succ, List.length_nil, List.length_cons, Nat.zero_add, List.append]; omega)) (by repeat (first | exact True.intro | refine And.intro rfl ?_))
            · refine Go.Sl.cw_cut2 (ι := (Unit)) [(0, _), (1, _), (2, _), (7, _), (8, _), (9, _), (13, _), (14, _), (22, _), (44, _), (45, _), (46, _)] ⟨rfl, rfl, rfl, rfl, rfl, rfl, rfl, rfl, rfl, rfl, rfl, rfl, trivial⟩ ((fun _ => [(23, .int .i64 (idxF (fun e : Entry => decide (e.seq = seq)) o.l))])) ((fun _ => True)) ((fun _ => [(b11, .cells (enA.f acts[i]).toArray 49 (0, 0))] :: c :: cl :: F)) ?_ ?_
              · refine Go.Sl.cw_seq ?_
                refine Go.Sl.cw_region ?_
                refine Go.Sl.ow_val rfl rfl (Go.Sl.v_move rfl) ?_
                refine Go.Sl.ow_val rfl rfl (Go.Sl.v_len rfl Try.underlying31 rfl) ?_
                refine Go.Sl.ow_val rfl rfl (Go.Sl.v_move rfl) ?_
                refine Go.Sl.ow_nil ?_
                refine Go.Sl.xw_then ?_
                refine Go.Sl.cw_block ?_
                refine Go.Sl.cw_loop2 (ι := (Nat)) [(0, _), (1, _), (2, _), (7, _), (8, _), (9, _), (13, _), (14, _), (22, _), (44, _), (45, _), (46, _), (151, _), (152, _)] ⟨rfl, rfl, rfl, rfl, rfl, rfl, rfl, rfl, rfl, rfl, rfl, rfl, rfl, rfl, trivial⟩ ((fun j => [(23, .int .i64 (idxF (fun e : Entry => decide (e.seq = seq)) (o.l.take j))), (153, .int .i64 j)])) ((fun j => j ≤ o.l.length)) ((fun j => o.l.length - j)) ((fun _ => [(b11, .cells (enA.f acts[i]).toArray 49 (0, 0))] :: c :: cl :: F)) (0) (by repeat (first | exact True.intro | refine And.intro rfl ?_)) (by first | exact Go.Sl.Cov.refl _ | (intro p; simp only [List.flatten_cons, List.flatten_nil, List.flatten_append, List.append_nil, List.nil_append, Go.Sl.cnt_append, Go.Sl.cnt_cons, Go.Sl.cnt_nil, List.set_cons_zero, List.set_cons_succ, List.length_nil, List.length_cons, Nat.zero_add, List.append]; omega)) ?_ ?_
                · exact Nat.zero_le _
                rintro j hj
                refine Go.Sl.cw_seq ?_
                refine Go.Sl.cw_region ?_
                refine Go.Sl.ow_val rfl rfl (Go.Sl.v_lss rfl rfl) ?_
                refine Go.Sl.ow_nil ?_
                refine Go.Sl.xw_then ?_
                refine Go.Sl.cw_seq ?_
                refine Go.Sl.cw_dec rfl (fun hc154 => ?_) (fun hc154 => ?_)
                refine Go.Sl.cw_skip ?_
                refine Go.Sl.xw_then ?_
                refine Go.Sl.cw_seq ?_
                refine Go.Sl.cw_block ?_
                refine Go.Sl.cw_seq ?_
                refine Go.Sl.cw_region ?_
                refine Go.Sl.ow_val rfl rfl (Go.Sl.v_move rfl) ?_
                rotate_left
                refine Go.Sl.cw_exit ?_
                refine Go.Sl.xw_then_exit ?_
                refine Go.Sl.xw_round_exit ?_
                refine Go.Sl.xw_block_exit ?_
                rotate_left
                · have hj2 : j < o.l.length := by omega
                  have hokj := hL.ok _ (List.getElem_mem hj2)
                  have hidx := idx_succ (p := fun e : Entry => decide (e.seq = seq)) hj2 (fun hp k hk hkj => by
                    have hne : ¬ o.l[k].seq = seq := fun he => by
                      have := hr.uniq hk hj2 (by rw [he]; exact (of_decide_eq_true hp).symm)
                      omega
                    simpa using hne)
                  refine Go.Sl.ow_val rfl rfl (Go.Sl.v_indexAddr_ls Try.underlying31 (eTy) rfl rfl (by assumption) rfl (by omega)) ?_
                  refine Go.Sl.ow_val rfl rfl (Go.Sl.v_load rfl (Go.Sl.Vw.var (eTy) (Go.Sl.Ls.vw (by assumption) (by repeat (first | exact Go.Sl.Sub.here | assumption | refine Go.Sl.Sub.there ?_))) (by omega))) ?_
                  (refine Go.Sl.ow_alloc rfl rfl Ty.ze30 ?_; intro b25)
                  refine Go.Sl.ow_val rfl rfl (Go.Sl.v_assign rfl) ?_
                  refine Go.Sl.ow_storeE rfl (eTy) rfl rfl .here (by first | rfl | assumption) (by assumption) ?_
                  refine Go.Sl.ow_nil ?_
                  refine Go.Sl.xw_then ?_
                  refine Go.Sl.cw_seq ?_
                  refine Go.Sl.cw_region ?_
                  refine Go.Sl.ow_val rfl rfl (Go.Sl.v_fieldAddr0 Ty.fd30_0 rfl) ?_
                  refine Go.Sl.ow_val rfl rfl (Go.Sl.v_load rfl (Go.Sl.Var.at1 Ty.sc27 .here (Go.Sl.GetN.lit rfl))) ?_
                  refine Go.Sl.ow_val rfl rfl (Go.Sl.v_move rfl) ?_
                  refine Go.Sl.ow_val rfl rfl (Go.Sl.v_eql rfl rfl) ?_
                  refine Go.Sl.ow_nil ?_
                  refine Go.Sl.xw_then ?_
                  refine Go.Sl.cw_dec rfl (fun hc161 => ?_) (fun hc161 => ?_)
                  refine Go.Sl.cw_region ?_
                  refine Go.Sl.ow_val rfl rfl (Go.Sl.v_move rfl) ?_
                  refine Go.Sl.ow_val rfl rfl (Go.Sl.v_assign rfl) ?_
                  refine Go.Sl.ow_nil ?_
                  refine Go.Sl.xw_block ?_
                  refine Go.Sl.xw_then ?_
                  refine Go.Sl.cw_region ?_
                  refine Go.Sl.ow_val rfl rfl (Go.Sl.v_add rfl rfl (Go.Sl.nw_i64 (by omega) (by omega))) ?_
                  refine Go.Sl.ow_val rfl rfl (Go.Sl.v_move rfl) ?_
                  refine Go.Sl.ow_nil ?_
                  rotate_left
                  refine Go.Sl.cw_skip ?_
                  refine Go.Sl.xw_block ?_
                  refine Go.Sl.xw_then ?_
                  refine Go.Sl.cw_region ?_
                  refine Go.Sl.ow_val rfl rfl (Go.Sl.v_add rfl rfl (Go.Sl.nw_i64 (by omega) (by omega))) ?_
                  refine Go.Sl.ow_val rfl rfl (Go.Sl.v_move rfl) ?_
                  refine Go.Sl.ow_nil ?_
                  rotate_left
                  · have hx : idxF (fun e : Entry => decide (e.seq = seq)) (o.l.take (j + 1)) = j := by rw [hidx, if_pos (decide_eq_true hc161)]
                    exact xw_round (j + 1) (by omega) (by omega) (by first | exact Go.Sl.Cov.refl _ | (intro p; simp only [List.flatten_cons, List.flatten_nil, List.flatten_append, List.append_nil, List.nil_append, Go.Sl.cnt_append, Go.Sl.cnt_cons, Go.Sl.cnt_nil, List.set_cons_zero, List.set_cons_succ, List.length_nil, List.length_cons, Nat.zero_add, List.append]; omega)) ⟨by rw [hx]; rfl, (by repeat (first | exact True.intro | refine And.intro rfl ?_))⟩
                  · have hx : idxF (fun e : Entry => decide (e.seq = seq)) (o.l.take (j + 1)) = idxF (fun e : Entry => decide (e.seq = seq)) (o.l.take j) := by rw [hidx, if_neg (by simpa using hc161)]
                    exact xw_round (j + 1) (by omega) (by omega) (by first | exact Go.Sl.Cov.refl _ | (intro p; simp only [List.flatten_cons, List.flatten_nil, List.flatten_append, List.append_nil, List.nil_append, Go.Sl.cnt_append, Go.Sl.cnt_cons, Go.Sl.cnt_nil, List.set_cons_zero, List.set_cons_succ, List.length_nil, List.length_cons, Nat.zero_add, List.append]; omega)) ⟨by rw [hx]; rfl, (by repeat (first | exact True.intro | refine And.intro rfl ?_))⟩
                · have hx : o.l.take j = o.l := List.take_of_length_le (by omega)
                  exact xw_joint () trivial (by first | exact Go.Sl.Cov.refl _ | (intro p; simp only [List.flatten_cons, List.flatten_nil, List.flatten_append, List.append_nil, List.nil_append, Go.Sl.cnt_append, Go.Sl.cnt_cons, Go.Sl.cnt_nil, List.set_cons_zero, List.set_cons_succ, List.length_nil, List.length_cons, Nat.zero_add, List.append]; omega)) ⟨by rw [hx]; rfl, (by repeat (first | exact True.intro | refine And.intro rfl ?_))⟩
              · rintro _ _
                have hbd := idxF_bd (p := fun e : Entry => decide (e.seq = seq)) (l := o.l)
                rcases retireCases o seq by_ with ⟨hg, hg1⟩ | ⟨hg, hg1, hg2⟩ | ⟨hg, hg1, hg2, hg3⟩ | ⟨hg, hg1, hg2, hg3⟩
                · have hret : ∀ {G : List Hp} {R : Hp → List Hp} {v : Value}, Sel G c R → Vw enB (St B w0 G) v by_.data.toList → Go.Sl.Fn Try.prog 22 #[.pointer (some ⟨x40.1, 0, none⟩), .int .u64 seq, v] B w0 G fun u G' => ∃ c' : Hp, u = .int .i64 10 ∧ OwnAt o x40.1 c' ∧ G' = R c' := (fun hsel hV => by have h := retire_c (B := B) (w0 := w0) (seq := seq) hsel hO hw hV; rw [hg] at h; exact h)
                  refine Go.Sl.cw_seq ?_
                  refine Go.Sl.cw_block ?_
                  refine Go.Sl.cw_seq ?_
                  refine Go.Sl.cw_region ?_
                  refine Go.Sl.ow_val rfl rfl (Go.Sl.v_move rfl) ?_
                  refine Go.Sl.ow_val rfl rfl (Go.Sl.v_move rfl) ?_
                  refine Go.Sl.ow_val rfl rfl (Go.Sl.v_geq rfl rfl) ?_
                  refine Go.Sl.ow_val rfl rfl (Go.Sl.v_assign rfl) ?_
                  refine Go.Sl.ow_nil ?_
                  refine Go.Sl.xw_then ?_
                  refine Go.Sl.cw_dec rfl (fun hc164 => ?_) (fun hc164 => ?_)
                  rotate_left; (exfalso; omega); rotate_right
                  refine Go.Sl.cw_region ?_
                  refine Go.Sl.ow_val rfl rfl (Go.Sl.v_assign rfl) ?_
                  refine Go.Sl.ow_nil ?_
                  refine Go.Sl.xw_block ?_
                  refine Go.Sl.xw_then ?_
                  refine Go.Sl.cw_seq ?_
                  refine Go.Sl.cw_seq ?_
                  refine Go.Sl.cw_region ?_
                  refine Go.Sl.ow_val rfl rfl (Go.Sl.v_move rfl) ?_
                  refine Go.Sl.ow_val rfl rfl (Go.Sl.v_move rfl) ?_
                  refine Go.Sl.ow_val rfl rfl (Go.Sl.v_move rfl) ?_
                  (refine Go.Sl.ow_bytes rfl rfl Try.underlying26 Try.underlying9 Try.underlying5 rfl ?_; intro ao183 cap183 c183 hb183)
                  (refine Go.Sl.ow_call rfl rfl rfl rfl (hret (by repeat (first | exact Go.Sl.Sel.here | apply Go.Sl.Sel.there)) (Rd.vw (by assumption) (by repeat (first | exact Go.Sl.Sub.here | assumption | refine Go.Sl.Sub.there ?_)))) ?_; rintro _ _ ⟨x184, rfl, hq184, rfl⟩)
                  refine Go.Sl.ow_val rfl rfl (Go.Sl.v_move rfl) ?_
                  refine Go.Sl.ow_val rfl rfl (Go.Sl.v_neq rfl rfl) ?_
                  refine Go.Sl.ow_nil ?_
                  refine Go.Sl.xw_then ?_
                  refine Go.Sl.cw_false rfl ?_
                  refine Go.Sl.cw_skip ?_
                  refine Go.Sl.xw_then ?_
                  refine Go.Sl.cw_seq ?_
                  refine Go.Sl.cw_region ?_
                  refine Go.Sl.ow_val rfl rfl (Go.Sl.v_move rfl) ?_
                  refine Go.Sl.ow_val rfl rfl (Go.Sl.v_eql rfl rfl) ?_
                  refine Go.Sl.ow_val rfl rfl (Go.Sl.v_move rfl) ?_
                  refine Go.Sl.ow_skip rfl rfl ?_
                  refine Go.Sl.ow_skip rfl rfl ?_
                  refine Go.Sl.ow_val rfl rfl (Go.Sl.v_pick_false rfl rfl) ?_
                  refine Go.Sl.ow_nil ?_
                  refine Go.Sl.xw_then ?_
                  refine Go.Sl.cw_false rfl ?_
                  refine Go.Sl.cw_skip ?_
                  all_goals first
                    | exact absurd rfl hc186
                    | exact absurd hg3 hc168
                    | exact xw_joint (⟨i + 1, o, x184, ao, cap, cl⟩ : Ix) ⟨rfl, hq184, hw, hmo, by dsimp only; omega, hr, hL⟩ (by first | exact Go.Sl.Cov.refl _ | (intro p; simp only [List.flatten_cons, List.flatten_nil, List.flatten_append, List.append_nil, List.nil_append, Go.Sl.cnt_append, Go.Sl.cnt_cons, Go.Sl.cnt_nil, List.set_cons_zero, List.set_cons_succ, List.length_nil, List.length_cons, Nat.zero_add, List.append]; omega)) (by repeat (first | exact True.intro | refine And.intro rfl ?_))
                · have hret : ∀ {G : List Hp} {R : Hp → List Hp} {v : Value}, Sel G c R → Vw enB (St B w0 G) v by_.data.toList → Go.Sl.Fn Try.prog 22 #[.pointer (some ⟨x40.1, 0, none⟩), .int .u64 seq, v] B w0 G fun u G' => ∃ c' : Hp, u = .int .i64 0 ∧ OwnAt o x40.1 c' ∧ G' = R c' := (fun hsel hV => by have h := retire_c (B := B) (w0 := w0) (seq := seq) hsel hO hw hV; rw [hg] at h; exact h)
                  refine Go.Sl.cw_seq ?_
                  refine Go.Sl.cw_block ?_
                  refine Go.Sl.cw_seq ?_
                  refine Go.Sl.cw_region ?_
                  refine Go.Sl.ow_val rfl rfl (Go.Sl.v_move rfl) ?_
                  refine Go.Sl.ow_val rfl rfl (Go.Sl.v_move rfl) ?_
                  refine Go.Sl.ow_val rfl rfl (Go.Sl.v_geq rfl rfl) ?_
                  refine Go.Sl.ow_val rfl rfl (Go.Sl.v_assign rfl) ?_
                  refine Go.Sl.ow_nil ?_
                  refine Go.Sl.xw_then ?_
                  refine Go.Sl.cw_dec rfl (fun hc164 => ?_) (fun hc164 => ?_)
                  (exfalso; omega)
                  refine Go.Sl.cw_seq ?_
                  refine Go.Sl.cw_region ?_
                  refine Go.Sl.ow_val rfl rfl (Go.Sl.v_move rfl) ?_
                  refine Go.Sl.ow_val rfl rfl (Go.Sl.v_geq rfl rfl) ?_
                  refine Go.Sl.ow_val rfl rfl (Go.Sl.v_move rfl) ?_
                  refine Go.Sl.ow_dec 171 rfl (fun hc171 => ?_) (fun hc171 => ?_)
                  (exfalso; omega)
                  refine Go.Sl.ow_skip rfl rfl ?_
                  refine Go.Sl.ow_skip rfl rfl ?_
                  refine Go.Sl.ow_skip rfl rfl ?_
                  refine Go.Sl.ow_skip rfl rfl ?_
                  refine Go.Sl.ow_skip rfl rfl ?_
                  refine Go.Sl.ow_skip rfl rfl ?_
                  refine Go.Sl.ow_skip rfl rfl ?_
                  refine Go.Sl.ow_val rfl rfl (Go.Sl.v_pick_false rfl rfl) ?_
                  refine Go.Sl.ow_val rfl rfl (Go.Sl.v_assign rfl) ?_
                  refine Go.Sl.ow_nil ?_
                  refine Go.Sl.xw_then ?_
                  refine Go.Sl.cw_false rfl ?_
                  refine Go.Sl.cw_skip ?_
                  refine Go.Sl.xw_block ?_
                  refine Go.Sl.xw_then ?_
                  refine Go.Sl.cw_seq ?_
                  refine Go.Sl.cw_seq ?_
                  refine Go.Sl.cw_region ?_
                  refine Go.Sl.ow_val rfl rfl (Go.Sl.v_move rfl) ?_
                  refine Go.Sl.ow_val rfl rfl (Go.Sl.v_move rfl) ?_
                  refine Go.Sl.ow_val rfl rfl (Go.Sl.v_move rfl) ?_
                  (refine Go.Sl.ow_bytes rfl rfl Try.underlying26 Try.underlying9 Try.underlying5 rfl ?_; intro ao183 cap183 c183 hb183)
                  (refine Go.Sl.ow_call rfl rfl rfl rfl (hret (by repeat (first | exact Go.Sl.Sel.here | apply Go.Sl.Sel.there)) (Rd.vw (by assumption) (by repeat (first | exact Go.Sl.Sub.here | assumption | refine Go.Sl.Sub.there ?_)))) ?_; rintro _ _ ⟨x184, rfl, hq184, rfl⟩)
                  refine Go.Sl.ow_val rfl rfl (Go.Sl.v_move rfl) ?_
                  refine Go.Sl.ow_val rfl rfl (Go.Sl.v_neq rfl rfl) ?_
                  refine Go.Sl.ow_nil ?_
                  refine Go.Sl.xw_then ?_
                  refine Go.Sl.cw_false rfl ?_
                  refine Go.Sl.cw_skip ?_
                  refine Go.Sl.xw_then ?_
                  refine Go.Sl.cw_seq ?_
                  refine Go.Sl.cw_region ?_
                  refine Go.Sl.ow_val rfl rfl (Go.Sl.v_move rfl) ?_
                  refine Go.Sl.ow_val rfl rfl (Go.Sl.v_eql rfl rfl) ?_
                  refine Go.Sl.ow_val rfl rfl (Go.Sl.v_move rfl) ?_
                  refine Go.Sl.ow_dec 189 rfl (fun hc189 => ?_) (fun hc189 => ?_)
                  rotate_left; (exfalso; omega); rotate_right
                  refine Go.Sl.ow_val rfl rfl (Go.Sl.v_move rfl) ?_
                  refine Go.Sl.ow_val rfl rfl (Go.Sl.v_geq rfl rfl) ?_
                  refine Go.Sl.ow_val rfl rfl (Go.Sl.v_pick_true rfl rfl) ?_
                  refine Go.Sl.ow_nil ?_
                  refine Go.Sl.xw_then ?_
                  refine Go.Sl.cw_dec rfl (fun hc192 => ?_) (fun hc192 => ?_)
                  (exfalso; omega)
                  refine Go.Sl.cw_skip ?_
                  all_goals first
                    | exact absurd rfl hc186
                    | exact absurd hg3 hc168
                    | exact xw_joint (⟨i + 1, o, x184, ao, cap, cl⟩ : Ix) ⟨rfl, hq184, hw, hmo, by dsimp only; omega, hr, hL⟩ (by first | exact Go.Sl.Cov.refl _ | (intro p; simp only [List.flatten_cons, List.flatten_nil, List.flatten_append, List.append_nil, List.nil_append, Go.Sl.cnt_append, Go.Sl.cnt_cons, Go.Sl.cnt_nil, List.set_cons_zero, List.set_cons_succ, List.length_nil, List.length_cons, Nat.zero_add, List.append]; omega)) (by repeat (first | exact True.intro | refine And.intro rfl ?_))
                · have hret : ∀ {G : List Hp} {R : Hp → List Hp} {v : Value}, Sel G c R → Vw enB (St B w0 G) v by_.data.toList → Go.Sl.Fn Try.prog 22 #[.pointer (some ⟨x40.1, 0, none⟩), .int .u64 seq, v] B w0 G fun u G' => ∃ c' : Hp, u = .int .i64 25 ∧ OwnAt o x40.1 c' ∧ G' = R c' := (fun hsel hV => by have h := retire_c (B := B) (w0 := w0) (seq := seq) hsel hO hw hV; rw [hg] at h; exact h)
                  have hlt : (idxF (fun e : Entry => decide (e.seq = seq)) o.l).toNat < o.l.length := by omega
                  rw [getElem!_pos o.l _ hlt] at hg3
                  refine Go.Sl.cw_seq ?_
                  refine Go.Sl.cw_block ?_
                  refine Go.Sl.cw_seq ?_
                  refine Go.Sl.cw_region ?_
                  refine Go.Sl.ow_val rfl rfl (Go.Sl.v_move rfl) ?_
                  refine Go.Sl.ow_val rfl rfl (Go.Sl.v_move rfl) ?_
                  refine Go.Sl.ow_val rfl rfl (Go.Sl.v_geq rfl rfl) ?_
                  refine Go.Sl.ow_val rfl rfl (Go.Sl.v_assign rfl) ?_
                  refine Go.Sl.ow_nil ?_
                  refine Go.Sl.xw_then ?_
                  refine Go.Sl.cw_dec rfl (fun hc164 => ?_) (fun hc164 => ?_)
                  (exfalso; omega)
                  refine Go.Sl.cw_seq ?_
                  refine Go.Sl.cw_region ?_
                  refine Go.Sl.ow_val rfl rfl (Go.Sl.v_move rfl) ?_
                  refine Go.Sl.ow_val rfl rfl (Go.Sl.v_geq rfl rfl) ?_
                  refine Go.Sl.ow_val rfl rfl (Go.Sl.v_move rfl) ?_
                  refine Go.Sl.ow_dec 171 rfl (fun hc171 => ?_) (fun hc171 => ?_)
                  rotate_left; (exfalso; omega); rotate_right
                  refine Go.Sl.ow_val rfl rfl (Go.Sl.v_move rfl) ?_
                  refine Go.Sl.ow_val rfl rfl (Go.Sl.v_move rfl) ?_
                  refine Go.Sl.ow_val rfl rfl (Go.Sl.v_indexAddr_ls Try.underlying31 (eTy) rfl rfl (by assumption) (Int.toNat_of_nonneg (by omega)).symm (by omega)) ?_
                  refine Go.Sl.ow_val rfl rfl (Go.Sl.v_fieldAddr Ty.fd30_1 rfl) ?_
                  refine Go.Sl.ow_val rfl rfl (Go.Sl.v_load rfl (Go.Sl.Vw.fld1 (eTy) Ty.sc9 (Go.Sl.Ls.vw (by assumption) (by repeat (first | exact Go.Sl.Sub.here | assumption | refine Go.Sl.Sub.there ?_))) (by omega) rfl)) ?_
                  refine Go.Sl.ow_val rfl rfl (Go.Sl.v_move rfl) ?_
                  refine Go.Sl.ow_val rfl rfl (Go.Sl.v_eqlS rfl rfl) ?_
                  refine Go.Sl.ow_val rfl rfl (Go.Sl.v_pick_true rfl rfl) ?_
                  refine Go.Sl.ow_val rfl rfl (Go.Sl.v_assign rfl) ?_
                  refine Go.Sl.ow_nil ?_
                  refine Go.Sl.xw_then ?_
                  refine Go.Sl.cw_dec rfl (fun hc168 => ?_) (fun hc168 => ?_)
                  refine Go.Sl.cw_region ?_
                  refine Go.Sl.ow_val rfl rfl (Go.Sl.v_assign rfl) ?_
                  refine Go.Sl.ow_nil ?_
                  refine Go.Sl.xw_block ?_
                  refine Go.Sl.xw_then ?_
                  refine Go.Sl.cw_seq ?_
                  refine Go.Sl.cw_seq ?_
                  refine Go.Sl.cw_region ?_
                  refine Go.Sl.ow_val rfl rfl (Go.Sl.v_move rfl) ?_
                  refine Go.Sl.ow_val rfl rfl (Go.Sl.v_move rfl) ?_
                  refine Go.Sl.ow_val rfl rfl (Go.Sl.v_move rfl) ?_
                  (refine Go.Sl.ow_bytes rfl rfl Try.underlying26 Try.underlying9 Try.underlying5 rfl ?_; intro ao183 cap183 c183 hb183)
                  (refine Go.Sl.ow_call rfl rfl rfl rfl (hret (by repeat (first | exact Go.Sl.Sel.here | apply Go.Sl.Sel.there)) (Rd.vw (by assumption) (by repeat (first | exact Go.Sl.Sub.here | assumption | refine Go.Sl.Sub.there ?_)))) ?_; rintro _ _ ⟨x184, rfl, hq184, rfl⟩)
                  refine Go.Sl.ow_val rfl rfl (Go.Sl.v_move rfl) ?_
                  refine Go.Sl.ow_val rfl rfl (Go.Sl.v_neq rfl rfl) ?_
                  refine Go.Sl.ow_nil ?_
                  refine Go.Sl.xw_then ?_
                  refine Go.Sl.cw_false rfl ?_
                  refine Go.Sl.cw_skip ?_
                  refine Go.Sl.xw_then ?_
                  refine Go.Sl.cw_seq ?_
                  refine Go.Sl.cw_region ?_
                  refine Go.Sl.ow_val rfl rfl (Go.Sl.v_move rfl) ?_
                  refine Go.Sl.ow_val rfl rfl (Go.Sl.v_eql rfl rfl) ?_
                  refine Go.Sl.ow_val rfl rfl (Go.Sl.v_move rfl) ?_
                  refine Go.Sl.ow_skip rfl rfl ?_
                  refine Go.Sl.ow_skip rfl rfl ?_
                  refine Go.Sl.ow_val rfl rfl (Go.Sl.v_pick_false rfl rfl) ?_
                  refine Go.Sl.ow_nil ?_
                  refine Go.Sl.xw_then ?_
                  refine Go.Sl.cw_false rfl ?_
                  refine Go.Sl.cw_skip ?_
                  rotate_left
                  refine Go.Sl.cw_skip ?_
                  refine Go.Sl.xw_block ?_
                  refine Go.Sl.xw_then ?_
                  refine Go.Sl.cw_seq ?_
                  refine Go.Sl.cw_seq ?_
                  refine Go.Sl.cw_region ?_
                  refine Go.Sl.ow_val rfl rfl (Go.Sl.v_move rfl) ?_
                  refine Go.Sl.ow_val rfl rfl (Go.Sl.v_move rfl) ?_
                  refine Go.Sl.ow_val rfl rfl (Go.Sl.v_move rfl) ?_
                  (refine Go.Sl.ow_bytes rfl rfl Try.underlying26 Try.underlying9 Try.underlying5 rfl ?_; intro ao183 cap183 c183 hb183)
                  (refine Go.Sl.ow_call rfl rfl rfl rfl (hret (by repeat (first | exact Go.Sl.Sel.here | apply Go.Sl.Sel.there)) (Rd.vw (by assumption) (by repeat (first | exact Go.Sl.Sub.here | assumption | refine Go.Sl.Sub.there ?_)))) ?_; rintro _ _ ⟨x184, rfl, hq184, rfl⟩)
                  refine Go.Sl.ow_val rfl rfl (Go.Sl.v_move rfl) ?_
                  refine Go.Sl.ow_val rfl rfl (Go.Sl.v_neq rfl rfl) ?_
                  refine Go.Sl.ow_nil ?_
                  refine Go.Sl.xw_then ?_
                  refine Go.Sl.cw_true rfl ?_
                  refine Go.Sl.cw_seq ?_
                  refine Go.Sl.cw_region ?_
                  refine Go.Sl.ow_val rfl rfl (Go.Sl.v_assign rfl) ?_
                  refine Go.Sl.ow_nil ?_
                  refine Go.Sl.xw_then ?_
                  refine Go.Sl.cw_ret ?_
                  refine Go.Sl.xw_then_ret ?_
                  refine Go.Sl.xw_joint_ret ?_
                  refine Go.Sl.xw_block_ret ?_
                  refine Go.Sl.xw_then_ret ?_
                  refine Go.Sl.xw_round_ret ?_
                  refine Go.Sl.xw_block_ret ?_
                  refine Go.Sl.xw_then_ret ?_
                  refine Go.Sl.ret1 rfl (Go.Sl.res_tmp rfl) ?_
                  rotate_left
                  all_goals first
                    | exact absurd rfl hc186
                    | exact absurd hg3 hc168
                    | exact xw_joint (⟨i + 1, o, x184, ao, cap, cl⟩ : Ix) ⟨rfl, hq184, hw, hmo, by dsimp only; omega, hr, hL⟩ (by first | exact Go.Sl.Cov.refl _ | (intro p; simp only [List.flatten_cons, List.flatten_nil, List.flatten_append, List.append_nil, List.nil_append, Go.Sl.cnt_append, Go.Sl.cnt_cons, Go.Sl.cnt_nil, List.set_cons_zero, List.set_cons_succ, List.length_nil, List.length_cons, Nat.zero_add, List.append]; omega)) (by repeat (first | exact True.intro | refine And.intro rfl ?_))
                · have hret : ∀ {G : List Hp} {R : Hp → List Hp} {v : Value}, Sel G c R → Vw enB (St B w0 G) v by_.data.toList → Go.Sl.Fn Try.prog 22 #[.pointer (some ⟨x40.1, 0, none⟩), .int .u64 seq, v] B w0 G fun u G' => ∃ c' : Hp, u = .int .i64 0 ∧ OwnAt { o with l := o.l.take (idxF (fun e : Entry => decide (e.seq = seq)) o.l).toNat ++ o.l.drop ((idxF (fun e : Entry => decide (e.seq = seq)) o.l).toNat + 1) } x40.1 c' ∧ G' = R c' := (fun hsel hV => by have h := retire_c (B := B) (w0 := w0) (seq := seq) hsel hO hw hV; rw [hg] at h; exact h)
                  have hlt : (idxF (fun e : Entry => decide (e.seq = seq)) o.l).toNat < o.l.length := by omega
                  rw [getElem!_pos o.l _ hlt] at hg3
                  have hwf' : ({ o with l := o.l.take (idxF (fun e : Entry => decide (e.seq = seq)) o.l).toNat ++ o.l.drop ((idxF (fun e : Entry => decide (e.seq = seq)) o.l).toNat + 1) } : OwnM).WF := ⟨hw.most, hw.next, by simp only [List.length_append, List.length_take, List.length_drop]; omega⟩
                  refine Go.Sl.cw_seq ?_
                  refine Go.Sl.cw_block ?_
                  refine Go.Sl.cw_seq ?_
                  refine Go.Sl.cw_region ?_
                  refine Go.Sl.ow_val rfl rfl (Go.Sl.v_move rfl) ?_
                  refine Go.Sl.ow_val rfl rfl (Go.Sl.v_move rfl) ?_
                  refine Go.Sl.ow_val rfl rfl (Go.Sl.v_geq rfl rfl) ?_
                  refine Go.Sl.ow_val rfl rfl (Go.Sl.v_assign rfl) ?_
                  refine Go.Sl.ow_nil ?_
                  refine Go.Sl.xw_then ?_
                  refine Go.Sl.cw_dec rfl (fun hc164 => ?_) (fun hc164 => ?_)
                  (exfalso; omega)
                  refine Go.Sl.cw_seq ?_
                  refine Go.Sl.cw_region ?_
                  refine Go.Sl.ow_val rfl rfl (Go.Sl.v_move rfl) ?_
                  refine Go.Sl.ow_val rfl rfl (Go.Sl.v_geq rfl rfl) ?_
                  refine Go.Sl.ow_val rfl rfl (Go.Sl.v_move rfl) ?_
                  refine Go.Sl.ow_dec 171 rfl (fun hc171 => ?_) (fun hc171 => ?_)
                  rotate_left; (exfalso; omega); rotate_right
                  refine Go.Sl.ow_val rfl rfl (Go.Sl.v_move rfl) ?_
                  refine Go.Sl.ow_val rfl rfl (Go.Sl.v_move rfl) ?_
                  refine Go.Sl.ow_val rfl rfl (Go.Sl.v_indexAddr_ls Try.underlying31 (eTy) rfl rfl (by assumption) (Int.toNat_of_nonneg (by omega)).symm (by omega)) ?_
                  refine Go.Sl.ow_val rfl rfl (Go.Sl.v_fieldAddr Ty.fd30_1 rfl) ?_
                  refine Go.Sl.ow_val rfl rfl (Go.Sl.v_load rfl (Go.Sl.Vw.fld1 (eTy) Ty.sc9 (Go.Sl.Ls.vw (by assumption) (by repeat (first | exact Go.Sl.Sub.here | assumption | refine Go.Sl.Sub.there ?_))) (by omega) rfl)) ?_
                  refine Go.Sl.ow_val rfl rfl (Go.Sl.v_move rfl) ?_
                  refine Go.Sl.ow_val rfl rfl (Go.Sl.v_eqlS rfl rfl) ?_
                  refine Go.Sl.ow_val rfl rfl (Go.Sl.v_pick_true rfl rfl) ?_
                  refine Go.Sl.ow_val rfl rfl (Go.Sl.v_assign rfl) ?_
                  refine Go.Sl.ow_nil ?_
                  refine Go.Sl.xw_then ?_
                  refine Go.Sl.cw_dec rfl (fun hc168 => ?_) (fun hc168 => ?_)
                  refine Go.Sl.cw_region ?_
                  refine Go.Sl.ow_val rfl rfl (Go.Sl.v_assign rfl) ?_
                  refine Go.Sl.ow_nil ?_
                  refine Go.Sl.xw_block ?_
                  refine Go.Sl.xw_then ?_
                  refine Go.Sl.cw_seq ?_
                  refine Go.Sl.cw_seq ?_
                  refine Go.Sl.cw_region ?_
                  refine Go.Sl.ow_val rfl rfl (Go.Sl.v_move rfl) ?_
                  refine Go.Sl.ow_val rfl rfl (Go.Sl.v_move rfl) ?_
                  refine Go.Sl.ow_val rfl rfl (Go.Sl.v_move rfl) ?_
                  (refine Go.Sl.ow_bytes rfl rfl Try.underlying26 Try.underlying9 Try.underlying5 rfl ?_; intro ao183 cap183 c183 hb183)
                  (refine Go.Sl.ow_call rfl rfl rfl rfl (hret (by repeat (first | exact Go.Sl.Sel.here | apply Go.Sl.Sel.there)) (Rd.vw (by assumption) (by repeat (first | exact Go.Sl.Sub.here | assumption | refine Go.Sl.Sub.there ?_)))) ?_; rintro _ _ ⟨x184, rfl, hq184, rfl⟩)
                  refine Go.Sl.ow_val rfl rfl (Go.Sl.v_move rfl) ?_
                  refine Go.Sl.ow_val rfl rfl (Go.Sl.v_neq rfl rfl) ?_
                  refine Go.Sl.ow_nil ?_
                  refine Go.Sl.xw_then ?_
                  refine Go.Sl.cw_true rfl ?_
                  refine Go.Sl.cw_seq ?_
                  refine Go.Sl.cw_region ?_
                  refine Go.Sl.ow_val rfl rfl (Go.Sl.v_assign rfl) ?_
                  refine Go.Sl.ow_nil ?_
                  refine Go.Sl.xw_then ?_
                  refine Go.Sl.cw_ret ?_
                  refine Go.Sl.xw_then_ret ?_
                  refine Go.Sl.xw_joint_ret ?_
                  refine Go.Sl.xw_block_ret ?_
                  refine Go.Sl.xw_then_ret ?_
                  refine Go.Sl.xw_round_ret ?_
                  refine Go.Sl.xw_block_ret ?_
                  refine Go.Sl.xw_then_ret ?_
                  refine Go.Sl.ret1 rfl (Go.Sl.res_tmp rfl) ?_
                  rotate_left
                  refine Go.Sl.cw_skip ?_
                  refine Go.Sl.xw_block ?_
                  refine Go.Sl.xw_then ?_
                  refine Go.Sl.cw_seq ?_
                  refine Go.Sl.cw_seq ?_
                  refine Go.Sl.cw_region ?_
                  refine Go.Sl.ow_val rfl rfl (Go.Sl.v_move rfl) ?_
                  refine Go.Sl.ow_val rfl rfl (Go.Sl.v_move rfl) ?_
                  refine Go.Sl.ow_val rfl rfl (Go.Sl.v_move rfl) ?_
                  (refine Go.Sl.ow_bytes rfl rfl Try.underlying26 Try.underlying9 Try.underlying5 rfl ?_; intro ao183 cap183 c183 hb183)
                  (refine Go.Sl.ow_call rfl rfl rfl rfl (hret (by repeat (first | exact Go.Sl.Sel.here | apply Go.Sl.Sel.there)) (Rd.vw (by assumption) (by repeat (first | exact Go.Sl.Sub.here | assumption | refine Go.Sl.Sub.there ?_)))) ?_; rintro _ _ ⟨x184, rfl, hq184, rfl⟩)
                  refine Go.Sl.ow_val rfl rfl (Go.Sl.v_move rfl) ?_
                  refine Go.Sl.ow_val rfl rfl (Go.Sl.v_neq rfl rfl) ?_
                  refine Go.Sl.ow_nil ?_
                  refine Go.Sl.xw_then ?_
                  refine Go.Sl.cw_false rfl ?_
                  refine Go.Sl.cw_skip ?_
                  refine Go.Sl.xw_then ?_
                  refine Go.Sl.cw_seq ?_
                  refine Go.Sl.cw_region ?_
                  refine Go.Sl.ow_val rfl rfl (Go.Sl.v_move rfl) ?_
                  refine Go.Sl.ow_val rfl rfl (Go.Sl.v_eql rfl rfl) ?_
                  refine Go.Sl.ow_val rfl rfl (Go.Sl.v_move rfl) ?_
                  refine Go.Sl.ow_dec 189 rfl (fun hc189 => ?_) (fun hc189 => ?_)
                  rotate_left; (exfalso; omega); rotate_right
                  refine Go.Sl.ow_val rfl rfl (Go.Sl.v_move rfl) ?_
                  refine Go.Sl.ow_val rfl rfl (Go.Sl.v_geq rfl rfl) ?_
                  refine Go.Sl.ow_val rfl rfl (Go.Sl.v_pick_true rfl rfl) ?_
                  refine Go.Sl.ow_nil ?_
                  refine Go.Sl.xw_then ?_
                  refine Go.Sl.cw_dec rfl (fun hc192 => ?_) (fun hc192 => ?_)
                  rotate_left; (exfalso; omega); rotate_right
                  refine Go.Sl.cw_mix [0] [4, 9, 10] [1, 2, 3, 5, 6, 7, 8] Ty.mixed rfl rfl rfl rfl (by decide +kernel) ?_
                  refine Go.Sl.hw_pure rfl rfl (Go.Sl.v_move rfl) rfl ?_
                  refine Go.Sl.hw_pure rfl rfl (Go.Sl.v_move rfl) rfl ?_
                  refine Go.Sl.hw_pure rfl rfl (Go.Sl.v_slice_nh Try.underlying31 Ty.el31 rfl rfl (Int.toNat_of_nonneg (by omega)).symm (by omega)) rfl ?_
                  refine Go.Sl.hw_pure rfl rfl (Go.Sl.v_move rfl) rfl ?_
                  refine Go.Sl.hw_pure rfl rfl (Go.Sl.v_move rfl) rfl ?_
                  refine Go.Sl.hw_pure rfl rfl (Go.Sl.v_add rfl rfl (Go.Sl.nw_i64 (by omega) (by omega))) rfl ?_
                  refine Go.Sl.hw_pure rfl rfl (Go.Sl.v_slice_ln Try.underlying31 Ty.el31 rfl rfl (Int.toNat_of_nonneg (by omega)).symm (by omega)) rfl ?_
                  refine Go.Sl.hw_nil ?_
                  (refine Go.Sl.sw_buildL (es := []) rfl rfl Try.underlying31 Ty.em31 (eTy) rfl rfl (by simp [*]) (by simp only [List.length_cons, List.length_nil]; decide) ?_; intro ao193 c193 hL193)
                  refine Go.Sl.sw_nil ?_
                  (refine Go.Sl.ow_appendL rfl rfl Try.underlying31 Try.underlying31 Ty.em31 (eTy) rfl rfl (by assumption) (by repeat (first | exact Go.Sl.Sel.here | apply Go.Sl.Sel.there)) ((hL.vw (by repeat (first | exact Go.Sl.Sub.here | assumption | refine Go.Sl.Sub.there ?_))).sub1 (m := (idxF (fun e : Entry => decide (e.seq = seq)) o.l).toNat) eTy (by omega)) (by first | omega | (simp only [List.length_append, List.length_take, List.length_drop, List.length_nil, List.length_cons]; omega)) (by first | omega | (simp only [List.length_append, List.length_take, List.length_drop, List.length_nil, List.length_cons]; omega)) ?_; intro ao197 cap197 c197 hL197)
                  (refine Go.Sl.ow_appendL rfl rfl Try.underlying31 Try.underlying31 Ty.em31 (eTy) rfl rfl (by assumption) (by repeat (first | exact Go.Sl.Sel.here | apply Go.Sl.Sel.there)) ((hL.vw (by repeat (first | exact Go.Sl.Sub.here | assumption | refine Go.Sl.Sub.there ?_))).sub2 (m := (idxF (fun e : Entry => decide (e.seq = seq)) o.l + 1).toNat) eTy (by omega)) (by first | omega | (simp only [List.length_append, List.length_take, List.length_drop, List.length_nil, List.length_cons]; omega)) (by first | omega | (simp only [List.length_append, List.length_take, List.length_drop, List.length_nil, List.length_cons]; omega)) ?_; intro ao202 cap202 c202 hL202)
                  refine Go.Sl.ow_val rfl rfl (Go.Sl.v_assign rfl) ?_
                  refine Go.Sl.ow_nil ?_
                  refine Go.Sl.xw_np ?_
                  rotate_left
                  all_goals first
                    | exact absurd rfl hc186
                    | exact absurd hc168 hg3
                    | rw [show (idxF (fun e : Entry => decide (e.seq = seq)) o.l + 1).toNat = (idxF (fun e : Entry => decide (e.seq = seq)) o.l).toNat + 1 by omega] at hL202 ⊢
                      exact xw_joint (⟨i + 1, _, x184, ao202, cap202, c202⟩ : Ix) ⟨rfl, hq184, hwf', hmo, by dsimp only; omega, hr.cut _, hL202⟩ (by first | exact Go.Sl.Cov.refl _ | (intro p; simp only [List.flatten_cons, List.flatten_nil, List.flatten_append, List.append_nil, List.nil_append, Go.Sl.cnt_append, Go.Sl.cnt_cons, Go.Sl.cnt_nil, List.set_cons_zero, List.set_cons_succ, List.length_nil, List.length_cons, Nat.zero_add, List.append]; omega)) (by repeat (first | exact True.intro | refine And.intro rfl ?_))
          · rintro ⟨i', o', c', ao', cap', cl'⟩ ⟨hi', hI'⟩
            dsimp only at hi' hI' ⊢
            subst hi'
            have hO' := hI'.at_
            have hw' := hI'.wf
            have hmo' := hI'.most
            have hL' := hI'.l
            have hr' := hI'.rise
            dsimp only at hO' hw' hmo' hL' hr'
            have hwm' := hw'.most
            have hwl' := hw'.len
            refine Go.Sl.cw_seq ?_
            refine Go.Sl.cw_seq ?_
            refine Go.Sl.cw_region ?_
            refine Go.Sl.ow_val rfl rfl (Go.Sl.v_move rfl) ?_
            (refine Go.Sl.ow_call rfl rfl rfl rfl (ownList_c hO' (by repeat (first | exact Go.Sl.Sub.here | assumption | refine Go.Sl.Sub.there ?_)) hw') ?_; rintro _ _ ⟨x204, rfl, hq204, rfl⟩)
            refine Go.Sl.ow_val rfl rfl (Go.Sl.v_move rfl) ?_
            refine Go.Sl.ow_val rfl rfl (Go.Sl.v_call rfl rfl (same_c (hq204.vw (by repeat (first | exact Go.Sl.Sub.here | assumption | refine Go.Sl.Sub.there ?_))) (hL'.vw (by repeat (first | exact Go.Sl.Sub.here | assumption | refine Go.Sl.Sub.there ?_))) (by omega))) ?_
            refine Go.Sl.ow_val rfl rfl (Go.Sl.v_not rfl) ?_
            refine Go.Sl.ow_val rfl rfl (Go.Sl.v_move rfl) ?_
            refine Go.Sl.ow_dec 208 rfl (fun hc208 => ?_) (fun hc208 => ?_)
            refine Go.Sl.ow_skip rfl rfl ?_
            refine Go.Sl.ow_skip rfl rfl ?_
            refine Go.Sl.ow_skip rfl rfl ?_
            refine Go.Sl.ow_skip rfl rfl ?_
            refine Go.Sl.ow_skip rfl rfl ?_
            refine Go.Sl.ow_skip rfl rfl ?_
            refine Go.Sl.ow_skip rfl rfl ?_
            refine Go.Sl.ow_skip rfl rfl ?_
            refine Go.Sl.ow_skip rfl rfl ?_
            refine Go.Sl.ow_val rfl rfl (Go.Sl.v_pick_true rfl rfl) ?_
            refine Go.Sl.ow_nil ?_
            refine Go.Sl.xw_then ?_
            refine Go.Sl.cw_true rfl ?_
            refine Go.Sl.cw_seq ?_
            refine Go.Sl.cw_region ?_
            refine Go.Sl.ow_val rfl rfl (Go.Sl.v_assign rfl) ?_
            refine Go.Sl.ow_nil ?_
            refine Go.Sl.xw_then ?_
            refine Go.Sl.cw_ret ?_
            refine Go.Sl.xw_then_ret ?_
            refine Go.Sl.xw_block_ret ?_
            refine Go.Sl.xw_then_ret ?_
            refine Go.Sl.xw_round_ret ?_
            refine Go.Sl.xw_block_ret ?_
            refine Go.Sl.xw_then_ret ?_
            refine Go.Sl.ret1 rfl (Go.Sl.res_tmp rfl) ?_
            rotate_left
            refine Go.Sl.ow_val rfl rfl (Go.Sl.v_move rfl) ?_
            refine Go.Sl.ow_val rfl rfl (Go.Sl.v_call rfl rfl (wants_c hO' (by repeat (first | exact Go.Sl.Sub.here | assumption | refine Go.Sl.Sub.there ?_)) hw')) ?_
            refine Go.Sl.ow_val rfl rfl (Go.Sl.v_move rfl) ?_
            refine Go.Sl.ow_val rfl rfl (Go.Sl.v_len rfl Try.underlying31 rfl) ?_
            refine Go.Sl.ow_val rfl rfl (Go.Sl.v_move rfl) ?_
            refine Go.Sl.ow_val rfl rfl (Go.Sl.v_max rfl rfl) ?_
            refine Go.Sl.ow_val rfl rfl (Go.Sl.v_min rfl rfl) ?_
            refine Go.Sl.ow_val rfl rfl (Go.Sl.v_lss rfl rfl) ?_
            refine Go.Sl.ow_val rfl rfl (Go.Sl.v_neqB Try.underlying4 rfl rfl) ?_
            refine Go.Sl.ow_val rfl rfl (Go.Sl.v_pick_false rfl rfl) ?_
            refine Go.Sl.ow_nil ?_
            refine Go.Sl.xw_then ?_
            refine Go.Sl.cw_dec rfl (fun hc218 => ?_) (fun hc218 => ?_)
            refine Go.Sl.cw_seq ?_
            refine Go.Sl.cw_region ?_
            refine Go.Sl.ow_val rfl rfl (Go.Sl.v_assign rfl) ?_
            refine Go.Sl.ow_nil ?_
            refine Go.Sl.xw_then ?_
            refine Go.Sl.cw_ret ?_
            refine Go.Sl.xw_then_ret ?_
            refine Go.Sl.xw_block_ret ?_
            refine Go.Sl.xw_then_ret ?_
            refine Go.Sl.xw_round_ret ?_
            refine Go.Sl.xw_block_ret ?_
            refine Go.Sl.xw_then_ret ?_
            refine Go.Sl.ret1 rfl (Go.Sl.res_tmp rfl) ?_
            rotate_left
            refine Go.Sl.cw_skip ?_
            refine Go.Sl.xw_then ?_
            refine Go.Sl.cw_seq ?_
            refine Go.Sl.cw_region ?_
            refine Go.Sl.ow_val rfl rfl (Go.Sl.v_move rfl) ?_
            refine Go.Sl.ow_val rfl rfl (Go.Sl.v_len rfl Try.underlying31 rfl) ?_
            refine Go.Sl.ow_val rfl rfl (Go.Sl.v_move rfl) ?_
            refine Go.Sl.ow_nil ?_
            refine Go.Sl.xw_then ?_
            refine Go.Sl.cw_block ?_
            rotate_left
            · exact absurd rfl hc208
            · exact absurd (by rw [hmo']) hc218
            · refine Go.Sl.cw_loop2 (ι := (Nat)) [(0, _), (1, _), (2, _), (7, _), (8, _), (9, _), (44, _), (45, _), (46, _), (219, _), (220, _)] ⟨rfl, rfl, rfl, rfl, rfl, rfl, rfl, rfl, rfl, rfl, rfl, trivial⟩ ((fun j => [(221, .int .i64 j)])) ((fun j => j ≤ o'.l.length)) ((fun j => o'.l.length - j)) ((fun _ => [(b11, .cells (enA.f acts[i]).toArray 49 (0, 0))] :: c' :: cl' :: F)) (0) (by repeat (first | exact True.intro | refine And.intro rfl ?_)) (by first | exact Go.Sl.Cov.refl _ | (intro p; simp only [List.flatten_cons, List.flatten_nil, List.flatten_append, List.append_nil, List.nil_append, Go.Sl.cnt_append, Go.Sl.cnt_cons, Go.Sl.cnt_nil, List.set_cons_zero, List.set_cons_succ, List.length_nil, List.length_cons, Nat.zero_add, List.append]; omega)) ?_ ?_
              · exact Nat.zero_le _
              rintro j hj
              refine Go.Sl.cw_seq ?_
              refine Go.Sl.cw_region ?_
              refine Go.Sl.ow_val rfl rfl (Go.Sl.v_lss rfl rfl) ?_
              refine Go.Sl.ow_nil ?_
              refine Go.Sl.xw_then ?_
              refine Go.Sl.cw_seq ?_
              refine Go.Sl.cw_dec rfl (fun hc222 => ?_) (fun hc222 => ?_)
              refine Go.Sl.cw_skip ?_
              refine Go.Sl.xw_then ?_
              refine Go.Sl.cw_seq ?_
              refine Go.Sl.cw_block ?_
              refine Go.Sl.cw_seq ?_
              refine Go.Sl.cw_region ?_
              rotate_left
              refine Go.Sl.cw_exit ?_
              refine Go.Sl.xw_then_exit ?_
              refine Go.Sl.xw_round_exit ?_
              refine Go.Sl.xw_block_exit ?_
              refine Go.Sl.xw_block ?_
              refine Go.Sl.xw_then ?_
              refine Go.Sl.cw_region ?_
              refine Go.Sl.ow_val rfl rfl (Go.Sl.v_add rfl rfl (Go.Sl.nw_i64 (by omega) (by omega))) ?_
              refine Go.Sl.ow_val rfl rfl (Go.Sl.v_move rfl) ?_
              refine Go.Sl.ow_nil ?_
              rotate_left
              · have hj2 : j < o'.l.length := by omega
                have hokj := hL'.ok _ (List.getElem_mem hj2)
                have hfd := hr'.find hj2
                have hfind : ∀ {G : List Hp}, Go.Sl.Sub c' G → Go.Sl.Fn Try.prog 25 #[.pointer (some ⟨x40.1, 0, none⟩), .int .u64 (o'.l[j]).seq] B w0 G fun u G' => u = .tuple #[enE.val o'.l[j], .bool true] ∧ G' = G := fun hs => by
                  have h := find_c (B := B) (w0 := w0) (seq := (o'.l[j]).seq) hO' hs hw'
                  rw [hfd.1, hfd.2] at h
                  exact h
                have hany : (o'.l.any fun e => decide (e.id = str (o'.l[j]).id.data.toList)) = true := List.any_eq_true.2 ⟨o'.l[j], List.getElem_mem hj2, decide_eq_true rfl⟩
                have hhas : ∀ {G : List Hp} {v : Value}, Go.Sl.Sub c' G → Vw enB (St B w0 G) v (o'.l[j]).id.data.toList → Go.Sl.Fn Try.prog 26 #[.pointer (some ⟨x40.1, 0, none⟩), v] B w0 G fun u G' => u = .bool true ∧ G' = G := fun hs hV => by
                  have h := has_c (B := B) (w0 := w0) hO' hs hw' hV
                  rw [hany] at h
                  exact h
                refine Go.Sl.ow_val rfl rfl (Go.Sl.v_indexAddr_ls Try.underlying31 (eTy) rfl rfl (by assumption) rfl (by omega)) ?_
                refine Go.Sl.ow_val rfl rfl (Go.Sl.v_load rfl (Go.Sl.Vw.var (eTy) (Go.Sl.Ls.vw (by assumption) (by repeat (first | exact Go.Sl.Sub.here | assumption | refine Go.Sl.Sub.there ?_))) (by omega))) ?_
                (refine Go.Sl.ow_alloc rfl rfl Ty.ze30 ?_; intro b27)
                refine Go.Sl.ow_storeE rfl (eTy) rfl rfl .here (by first | rfl | assumption) (by assumption) ?_
                refine Go.Sl.ow_nil ?_
                refine Go.Sl.xw_then ?_
                refine Go.Sl.cw_seq ?_
                refine Go.Sl.cw_region ?_
                refine Go.Sl.ow_val rfl rfl (Go.Sl.v_move rfl) ?_
                refine Go.Sl.ow_val rfl rfl (Go.Sl.v_fieldAddr0 Ty.fd30_0 rfl) ?_
                refine Go.Sl.ow_val rfl rfl (Go.Sl.v_load rfl (Go.Sl.Var.at1 Ty.sc27 .here (Go.Sl.GetN.lit rfl))) ?_
                refine Go.Sl.ow_val rfl rfl (Go.Sl.v_call rfl rfl (hfind (by repeat (first | exact Go.Sl.Sub.here | assumption | refine Go.Sl.Sub.there ?_)))) ?_
                refine Go.Sl.ow_val rfl rfl (Go.Sl.v_move rfl) ?_
                refine Go.Sl.ow_val rfl rfl (v_extractL rfl rfl) ?_
                refine Go.Sl.ow_val rfl rfl (v_extractL rfl rfl) ?_
                (refine Go.Sl.ow_alloc rfl rfl Ty.ze30 ?_; intro b28)
                refine Go.Sl.ow_storeE rfl (eTy) rfl rfl .here (by first | rfl | assumption) (by assumption) ?_
                refine Go.Sl.ow_val rfl rfl (Go.Sl.v_assign rfl) ?_
                refine Go.Sl.ow_nil ?_
                refine Go.Sl.xw_then ?_
                refine Go.Sl.cw_seq ?_
                refine Go.Sl.cw_region ?_
                refine Go.Sl.ow_val rfl rfl (Go.Sl.v_move rfl) ?_
                refine Go.Sl.ow_val rfl rfl (Go.Sl.v_not_true rfl) ?_
                refine Go.Sl.ow_val rfl rfl (Go.Sl.v_move rfl) ?_
                refine Go.Sl.ow_val rfl rfl (Go.Sl.v_load rfl (Go.Sl.Var.atE (eTy) .here (by assumption))) ?_
                refine Go.Sl.ow_val rfl rfl (Go.Sl.v_load rfl (Go.Sl.Var.atE (eTy) (.there .here) (by assumption))) ?_
                refine Go.Sl.ow_val rfl rfl (Go.Sl.v_neqA rfl rfl Ty.gt30 (eqE hokj hokj)) ?_
                refine Go.Sl.ow_val rfl rfl (Go.Sl.v_pick_false rfl rfl) ?_
                refine Go.Sl.ow_val rfl rfl (Go.Sl.v_move rfl) ?_
                refine Go.Sl.ow_dec 239 rfl (fun hc239 => ?_) (fun hc239 => ?_)
                refine Go.Sl.ow_skip rfl rfl ?_
                refine Go.Sl.ow_skip rfl rfl ?_
                refine Go.Sl.ow_skip rfl rfl ?_
                refine Go.Sl.ow_skip rfl rfl ?_
                refine Go.Sl.ow_skip rfl rfl ?_
                refine Go.Sl.ow_skip rfl rfl ?_
                refine Go.Sl.ow_val rfl rfl (Go.Sl.v_pick_true rfl rfl) ?_
                refine Go.Sl.ow_nil ?_
                refine Go.Sl.xw_then ?_
                refine Go.Sl.cw_true rfl ?_
                refine Go.Sl.cw_seq ?_
                refine Go.Sl.cw_region ?_
                refine Go.Sl.ow_val rfl rfl (Go.Sl.v_assign rfl) ?_
                refine Go.Sl.ow_nil ?_
                refine Go.Sl.xw_then ?_
                refine Go.Sl.cw_ret ?_
                refine Go.Sl.xw_block_ret ?_
                refine Go.Sl.xw_then_ret ?_
                refine Go.Sl.xw_round_ret ?_
                refine Go.Sl.xw_block_ret ?_
                refine Go.Sl.xw_block_ret ?_
                refine Go.Sl.xw_then_ret ?_
                refine Go.Sl.xw_round_ret ?_
                refine Go.Sl.xw_block_ret ?_
                refine Go.Sl.xw_then_ret ?_
                refine Go.Sl.ret1 rfl (Go.Sl.res_tmp rfl) ?_
                rotate_left
                refine Go.Sl.ow_val rfl rfl (Go.Sl.v_move rfl) ?_
                refine Go.Sl.ow_val rfl rfl (Go.Sl.v_fieldAddr0 Ty.fd30_1 rfl) ?_
                refine Go.Sl.ow_val rfl rfl (Go.Sl.v_load rfl (Go.Sl.Var.at1 Ty.sc9 (.there .here) (Go.Sl.GetN.lit rfl))) ?_
                (refine Go.Sl.ow_bytes rfl rfl Try.underlying26 Try.underlying9 Try.underlying5 rfl ?_; intro ao243 cap243 c243 hb243)
                refine Go.Sl.ow_val rfl rfl (Go.Sl.v_call rfl rfl (hhas (by repeat (first | exact Go.Sl.Sub.here | assumption | refine Go.Sl.Sub.there ?_)) (Rd.vw (by assumption) (by repeat (first | exact Go.Sl.Sub.here | assumption | refine Go.Sl.Sub.there ?_))))) ?_
                refine Go.Sl.ow_val rfl rfl (Go.Sl.v_not_true rfl) ?_
                refine Go.Sl.ow_val rfl rfl (Go.Sl.v_pick_false rfl rfl) ?_
                refine Go.Sl.ow_nil ?_
                refine Go.Sl.xw_then ?_
                refine Go.Sl.cw_false rfl ?_
                refine Go.Sl.cw_skip ?_
                refine Go.Sl.xw_block ?_
                refine Go.Sl.xw_then ?_
                refine Go.Sl.cw_region ?_
                refine Go.Sl.ow_val rfl rfl (Go.Sl.v_add rfl rfl (Go.Sl.nw_i64 (by omega) (by omega))) ?_
                refine Go.Sl.ow_val rfl rfl (Go.Sl.v_move rfl) ?_
                refine Go.Sl.ow_nil ?_
                rotate_left
                · exact absurd rfl hc239
                · exact xw_round (j + 1) (by omega) (by omega) (by first | exact Go.Sl.Cov.refl _ | (intro p; simp only [List.flatten_cons, List.flatten_nil, List.flatten_append, List.append_nil, List.nil_append, Go.Sl.cnt_append, Go.Sl.cnt_cons, Go.Sl.cnt_nil, List.set_cons_zero, List.set_cons_succ, List.length_nil, List.length_cons, Nat.zero_add, List.append]; omega)) (by repeat (first | exact True.intro | refine And.intro rfl ?_))
              · exact xw_round (⟨i + 1, o', c', ao', cap', cl'⟩ : Ix) ⟨by dsimp only; omega, by dsimp only; omega, hI'⟩ (by dsimp only; omega) (by first | exact Go.Sl.Cov.refl _ | (intro p; simp only [List.flatten_cons, List.flatten_nil, List.flatten_append, List.append_nil, List.nil_append, Go.Sl.cnt_append, Go.Sl.cnt_cons, Go.Sl.cnt_nil, List.set_cons_zero, List.set_cons_succ, List.length_nil, List.length_cons, Nat.zero_add, List.append]; omega)) (by repeat (first | exact True.intro | refine And.intro rfl ?_))
  · have hon : hasE o.next o.l = false := List.any_eq_false.2 fun e he => by have := (hr.low e he).2; simp; omega
    have hfok := findE_ok hL.ok o.next
    refine Go.Sl.ow_val rfl rfl (Go.Sl.v_call rfl rfl (find_c hO (by repeat (first | exact Go.Sl.Sub.here | assumption | refine Go.Sl.Sub.there ?_)) hw)) ?_
    refine Go.Sl.ow_val rfl rfl (Go.Sl.v_move rfl) ?_
    refine Go.Sl.ow_val rfl rfl (v_extractL rfl rfl) ?_
    refine Go.Sl.ow_val rfl rfl (v_extractL rfl rfl) ?_
    (refine Go.Sl.ow_alloc rfl rfl Ty.ze30 ?_; intro b30)
    refine Go.Sl.ow_storeE rfl (eTy) rfl rfl .here (by first | rfl | assumption) (by assumption) ?_
    refine Go.Sl.ow_val rfl rfl (Go.Sl.v_assign rfl) ?_
    refine Go.Sl.ow_nil ?_
    refine Go.Sl.xw_then ?_
    refine Go.Sl.cw_seq ?_
    refine Go.Sl.cw_region ?_
    refine Go.Sl.ow_val rfl rfl (Go.Sl.v_move rfl) ?_
    refine Go.Sl.ow_val rfl rfl (Go.Sl.v_not_bool rfl) ?_
    refine Go.Sl.ow_val rfl rfl (Go.Sl.v_assign rfl) ?_
    refine Go.Sl.ow_nil ?_
    refine Go.Sl.xw_then ?_
    refine Go.Sl.cw_ret ?_
    refine Go.Sl.ret1 rfl (Go.Sl.res_tmp rfl) ?_
    exact done0 (by rw [hon]; rfl) (by first | exact Go.Sl.Cov.refl _ | (intro p; simp only [List.flatten_cons, List.flatten_nil, List.flatten_append, List.append_nil, List.nil_append, Go.Sl.cnt_append, Go.Sl.cnt_cons, Go.Sl.cnt_nil, List.set_cons_zero, List.set_cons_succ, List.length_nil, List.length_cons, Nat.zero_add, List.append]; omega))

/-- an act as it lies in memory -/
theorem form_act {H : Type} {enc : TypeId × Value → H} {w : World} {fuel : Nat} {cs : List Value} {y : DataW H × List MemPlace} (h : DataW.trod enc Try.prog w 0 (fun _ => true) true fuel 49 cs = some y) : ∃ a : ActM, cs = enA.f a ∧ enA.ok a := by
  obtain ⟨hl, fuel', hf⟩ := form_struct Try.underlying49 h
  have hc : Try.prog.cellsOf 49 = 22 := by kernel_rfl
  rw [hc] at hl
  have c1 : Try.prog.cellsOf 5 = 1 := by kernel_rfl
  have c2 : Try.prog.cellsOf 28 = 16 := by kernel_rfl
  have c3 : Try.prog.cellsOf 9 = 1 := by kernel_rfl
  have c4 : Try.prog.cellsOf 27 = 1 := by kernel_rfl
  have c5 : Try.prog.cellsOf 4 = 1 := by kernel_rfl
  have g0 : ∃ z, DataW.trod enc Try.prog w 0 (fun _ => true) true fuel' 5 ((cs.drop 0).take (Try.prog.cellsOf 5)) = some z := hf 0 _ rfl
  have g1 : ∃ z, DataW.trod enc Try.prog w 0 (fun _ => true) true fuel' 5 ((cs.drop 1).take (Try.prog.cellsOf 5)) = some z := hf 1 _ rfl
  have g2 : ∃ z, DataW.trod enc Try.prog w 0 (fun _ => true) true fuel' 5 ((cs.drop 2).take (Try.prog.cellsOf 5)) = some z := hf 2 _ rfl
  have g3 : ∃ z, DataW.trod enc Try.prog w 0 (fun _ => true) true fuel' 28 ((cs.drop 3).take (Try.prog.cellsOf 28)) = some z := hf 3 _ rfl
  have g4 : ∃ z, DataW.trod enc Try.prog w 0 (fun _ => true) true fuel' 9 ((cs.drop 19).take (Try.prog.cellsOf 9)) = some z := hf 4 _ rfl
  have g5 : ∃ z, DataW.trod enc Try.prog w 0 (fun _ => true) true fuel' 27 ((cs.drop 20).take (Try.prog.cellsOf 27)) = some z := hf 5 _ rfl
  have g6 : ∃ z, DataW.trod enc Try.prog w 0 (fun _ => true) true fuel' 4 ((cs.drop 21).take (Try.prog.cellsOf 4)) = some z := hf 6 _ rfl
  obtain ⟨_, h0⟩ := g0
  obtain ⟨_, h1⟩ := g1
  obtain ⟨_, h2⟩ := g2
  obtain ⟨_, h3⟩ := g3
  obtain ⟨_, h4⟩ := g4
  obtain ⟨_, h5⟩ := g5
  obtain ⟨_, h6⟩ := g6
  rw [c1] at h0 h1 h2
  rw [c2] at h3
  rw [c3] at h4
  rw [c4] at h5
  rw [c5] at h6
  obtain ⟨n0, e0, w0⟩ := form_int Try.underlying5 h0
  obtain ⟨n1, e1, w1⟩ := form_int Try.underlying5 h1
  obtain ⟨n2, e2, w2⟩ := form_int Try.underlying5 h2
  obtain ⟨l, e3, l3, _⟩ := form_ints Try.underlying28 Try.underlying5 (by kernel_rfl) (by kernel_rfl) h3
  obtain ⟨s, e4⟩ := form_str h4
  obtain ⟨n5, e5, w5⟩ := form_int Try.underlying27 h5
  obtain ⟨b, e6⟩ := form_bool Try.underlying4 h6
  refine ⟨⟨n0, n1, n2, l, s, n5, b⟩, ?_, bounds_u8 w0, bounds_u8 w1, bounds_u8 w2, l3, bounds_u64 w5⟩
  have p : cs = (cs.drop 0).take 1 ++ ((cs.drop 1).take 1 ++ ((cs.drop 2).take 1 ++ ((cs.drop 3).take 16 ++ ((cs.drop 19).take 1 ++ ((cs.drop 20).take 1 ++ ((cs.drop 21).take 1 ++ cs.drop 22)))))) := by
    conv => lhs; rw [show cs = cs.drop 0 from rfl]
    rw [← drop_take_drop cs 21 1, ← drop_take_drop cs 20 1, ← drop_take_drop cs 19 1, ← drop_take_drop cs 3 16, ← drop_take_drop cs 2 1, ← drop_take_drop cs 1 1, ← drop_take_drop cs 0 1]
  rw [p, e0, e1, e2, e3, e4, e5, e6, List.drop_eq_nil_of_le (by omega)]
  simp [enA, ActM.cells]

theorem oldVw {α : Type} [Inhabited α] {En : Enc α} {B : Nat} {w0 : World} {ao : Option Addr} {len cap : Nat} {F : Nat → α} {P : Program} {e : TypeId} (he : EncTy P e En) (h : OldSl B w0 En.size ao len (fun i => En.f (F i))) (hok : ∀ i, i < len → En.ok (F i)) (hc : len ≤ cap) (G : List Hp) :
    Vw En (St B w0 G) (.slice ao ((List.range len).map F).length cap) ((List.range len).map F) := by
  have hoks : ∀ a ∈ (List.range len).map F, En.ok a := fun a ha => by
    obtain ⟨i, hi, rfl⟩ := List.mem_map.1 ha
    exact hok i (List.mem_range.1 hi)
  refine ⟨⟨ao, cap, rfl, by simpa using hc⟩, hoks, fun ao' n' cap' hv hl => ?_⟩
  injection hv with e1 e2 e3
  subst e1
  obtain ⟨b, o, h1, h2, h3⟩ := h.get 0 (by simpa using hl)
  subst h1
  refine ⟨rfl, fun i u hu => ?_⟩
  simp only [bOf_some, oOf_some]
  have hp := he.pos
  have hlen : (((List.range len).map F).flatMap En.f).length = len * En.size := by
    rw [fm_len (k := En.size) fun a ha => he.len a (hoks a ha)]
    simp
  have hi : i < len * En.size := by rw [← hlen]; exact (List.getElem?_eq_some_iff.1 hu).1
  have hq : i / En.size < len := Nat.div_lt_of_lt_mul (by rw [Nat.mul_comm]; exact hi)
  have hm := Nat.mod_lt i hp
  have hdm : i = i / En.size * En.size + i % En.size := by rw [Nat.mul_comm]; exact (Nat.div_add_mod i En.size).symm
  obtain ⟨b', o', g1, g2, g3⟩ := h.get (i / En.size) hq
  injection g1 with g1
  injection g1 with g4 g5
  subst g4
  subst g5
  have hfl := he.len _ (hok _ hq)
  have hu2 : (En.f (F (i / En.size)))[i % En.size]? = some u := by
    have hx : i % En.size < (En.f (F (i / En.size))).length := by rw [hfl]; exact hm
    have := fm_get (f := En.f) (k := En.size) (l := (List.range len).map F) (i := i / En.size) (j := i % En.size) (fun a ha => he.len a (hoks a ha)) (by simp [hq]) (List.getElem?_eq_getElem hx)
    rw [← hdm, hu] at this
    rw [List.getElem?_eq_getElem hx]
    exact this.symm
  have := g3 _ _ hu2
  rw [Nat.add_assoc, ← hdm] at this
  exact Cell.old g2 this

theorem walk {H : Type} {enc : TypeId × Value → H} (W : World) (base : Nat) (args : Array Value) (ds : List (DataW H)) (p : List MemPlace)
    (hval : ∀ (j : Nat) t v, Try.f4.params[j]? = some t → args[j]? = some v → Value.okWide Try.prog W .any base t v)
    (hA : DataW.TrodAll enc Try.prog W 0 (fun _ => true) true Try.f4.params.toList args.toList ds p) :
    Calls Try.prog 4 args W fun e w' => e = .returned (.bool true) ∧ Below W.heap.size W w' := by
  rw [Try.params4] at hA hval
  obtain ⟨v0, vs0, d0, ds0, p0, q0, hargs, rfl, rfl, h0, r0⟩ := trodAll_cons hA
  obtain ⟨v1, vs1, d1, ds1, p1, q1, rfl, rfl, rfl, h1, r1⟩ := trodAll_cons r0
  obtain ⟨v2, vs2, d2, ds2, p2, q2, rfl, rfl, rfl, h2, r2⟩ := trodAll_cons r1
  obtain ⟨rfl, rfl, rfl⟩ := trodAll_nil r2
  obtain rfl : args = #[v0, v1, v2] := by cases args; simp_all
  obtain ⟨first, rfl⟩ := okWide_string Try.underlying9 (hval 0 9 v0 rfl rfl)
  obtain ⟨n, rfl, rfl, rfl, hn⟩ := open_int Try.underlying3 (hval 1 3 v1 rfl rfl) h1
  obtain ⟨ao, len, cap, rfl⟩ := okWide_slice Try.underlying45 (hval 2 45 v2 rfl rfl)
  obtain ⟨fu, h2⟩ := h2
  obtain ⟨hlc, hm, f, hf, o⟩ := oldSl (size := 22) Try.underlying45 (by kernel_rfl) (by decide) h2 enA.f enA.ok (fun fuel cs y h => form_act h)
  unfold maxLen at hm
  have hv := oldVw aTy o hf hlc
  have hb : -9223372036854775808 ≤ n ∧ n ≤ 9223372036854775807 := by
    simp [Lit.wf, IntKind.min, IntKind.max, IntKind.signed, IntKind.bits] at hn
    omega
  have hlen : ((List.range len).map f).length = len := by simp
  have key := (law (first := first) (most := n) hb (by rw [hlen]; omega) hv []).call
  rw [hlen] at key
  exact key

theorem own : ownKnob Try.prog.godebug = none := by kernel_rfl
theorem laidOut : laidOutB Try.prog = true := by kernel_rfl
theorem reads : ∀ t ∈ Try.f4.params.toList, Try.prog.readableRec t = true ∧ t < Try.prog.types.size := by
  rw [Try.params4]
  intro t ht
  simp only [List.mem_cons, List.not_mem_nil, or_false] at ht
  rcases ht with rfl | rfl | rfl
  · exact ⟨by kernel_rfl, of_decide_eq_true (by kernel_rfl)⟩
  · exact ⟨by kernel_rfl, of_decide_eq_true (by kernel_rfl)⟩
  · exact ⟨by kernel_rfl, of_decide_eq_true (by kernel_rfl)⟩

set_option maxRecDepth 100000 in
theorem lifted (os : Os) (started : os.Started) (H : Type) (enc : TypeId × Value → H) :
    ReturnsInHanded {} Try.checked os 4 .any (Rows.idsOwnSpec.pre6 enc Try.prog Try.f4 Rows.idsOwnRow.domain false) (Rows.idsOwnSpec.post enc Try.prog Try.f4 false true false false) := by
  refine returnsInHanded_of_change (C := Try.checked) own started (by kernel_rfl) Try.func4
    (ChangeSpec.witness6 (enc := enc) (C := Try.checked) false ⟨#[], #[.string ⟨#[]⟩, .int .i64 0, .slice none 0 0], []⟩ 8 (by kernel_rfl) (by kernel_rfl) (by kernel_rfl) (by kernel_rfl)) ?_
  intro W base args ds gs before hval hW _ _
  have hW' := hW
  obtain ⟨p, q, hA0, hV, rfl, _, _⟩ := hW
  obtain ⟨rfl, rfl⟩ := trodVars_none hV
  have hA : DataW.TrodAll enc Try.prog W 0 (fun _ => true) true Try.f4.params.toList args.toList ds p := hA0
  have hlen := trodAll_len hA
  refine (walk W base args ds p hval hA).mono fun e W' ⟨he, bel⟩ => ?_
  subst he
  rw [Try.params4] at hlen
  match ds, hlen.2, hA, hW' with
  | [d0, d1, d2], _, hA, hW' => exact ⟨_, rfl, _, _, _, [], _, [], hW', trodAll_mk1 (shut_bool Try.underlying4 _), trodAll_stays laidOut bel reads hA, rfl, bel.frame _, fun h => by cases h⟩

theorem over : Rows.idsOwnRow.holds Try.pinned (OpenSpec.ofChange Rows.idsOwnSpec) :=
  OpenClaim.holds_of_wide 4 Try.f4 rfl rfl rfl rfl rfl rfl rfl ⟨rfl, rfl, rfl, rfl, rfl⟩ rfl rfl rfl rfl rfl (by kernel_rfl) Try.func4 (by kernel_rfl)
    (of_decide_eq_true (by kernel_rfl)) (by unfold Func.isWrapper; first | (rw [if_pos (by decide +kernel)]; kernel_rfl) | (rw [if_neg (by decide +kernel)]; exact ⟨rfl, rfl⟩))
    (fun os started H enc _ => lifted os started H enc)

theorem proved : Rows.IdsOwnSaid := over

end Go.Proofs.Ytfilpenkihdjiaa.lawIdsOwn
