/- What the laws of package span call: their fixed fact, an act's range; what is added or cut where there is room. Conditions: numbers fit their types, lists are short. -/
import Derived.Test.YtbpnnkkbaakdjaaSpanAdd
namespace Go.Proofs.Ytbpnnkkbaakdjaa
open Go Go.Sl Go.Proofs Go.RowKit Go.ChangeShapes Go.WideShapes Go.ChangeAt
set_option maxRecDepth 20000
set_option linter.unusedVariables false
set_option linter.unusedSimpArgs false

theorem setAddOk_c {B : Nat} {w0 : World} {G : List Hp} {R : Hp → List Hp} {m : SetM} {b : Nat} {c : Hp} {r : Rg} (hsel : Sel G c R) (hO : SetAt m b c) (hw : m.WF) (hr : RgIn r) (h : ((addE m.l r).length : Int) ≤ max m.limit 1) :
    Go.Sl.Fn Try.prog 17 #[.pointer (some ⟨b, 0, none⟩), enR.val r] B w0 G fun u G' => ∃ c' : Hp, u = .int .i64 0 ∧ SetAt ⟨m.limit, addE m.l r⟩ b c' ∧ G' = R c' := by
  have h1 := setAdd_c (B := B) (w0 := w0) hsel hO hw hr
  rw [SetM.addOk h] at h1
  exact h1
theorem setCutOk_c {B : Nat} {w0 : World} {G : List Hp} {R : Hp → List Hp} {m : SetM} {b : Nat} {c : Hp} {r : Rg} (hsel : Sel G c R) (hO : SetAt m b c) (hw : m.WF) (hr : RgIn r) (h : ((cutE m.l r).length : Int) ≤ max m.limit 1) :
    Go.Sl.Fn Try.prog 21 #[.pointer (some ⟨b, 0, none⟩), enR.val r] B w0 G fun u G' => ∃ c' : Hp, u = .int .i64 0 ∧ SetAt ⟨m.limit, cutE m.l r⟩ b c' ∧ G' = R c' := by
  have h1 := setCut_c (B := B) (w0 := w0) hsel hO hw hr
  rw [SetM.cutOk h] at h1
  exact h1

theorem awk1 : addE [] ⟨1, 3⟩ = [⟨1, 3⟩] := by rfl
theorem awk2 : addE [⟨1, 3⟩] ⟨5, 7⟩ = [⟨1, 3⟩, ⟨5, 7⟩] := by rfl
theorem awk3 : addE [⟨1, 3⟩, ⟨5, 7⟩] ⟨3, 5⟩ = [⟨1, 7⟩] := by rfl
theorem good1 : Good [⟨1, 3⟩] := ⟨by simp [RgOk], by simp⟩
theorem good2 : Good [⟨1, 3⟩, ⟨5, 7⟩] := ⟨by simp [RgOk], by simp⟩
theorem good3 : Good [⟨1, 7⟩] := ⟨by simp [RgOk], by simp⟩
theorem rin {a b : Int} (ha : 0 ≤ a ∧ a ≤ 18446744073709551615) (hb : 0 ≤ b ∧ b ≤ 18446744073709551615) : RgIn ⟨a, b⟩ := ⟨ha, hb⟩

theorem spanAwake_c {B : Nat} {w0 : World} {G : List Hp} :
    Go.Sl.Fn Try.prog 15 #[] B w0 G fun u G' => u = .bool true ∧ G' = G := by
  refine Fn.pure ?_
  have w1 : (⟨5, []⟩ : SetM).WF := ⟨Good.nil, by simp, by simp⟩
  have w2 : (⟨5, [⟨1, 3⟩]⟩ : SetM).WF := ⟨good1, by simp, by simp⟩
  have w3 : (⟨5, [⟨1, 3⟩, ⟨5, 7⟩]⟩ : SetM).WF := ⟨good2, by simp, by simp⟩
  have w4 : (⟨5, [⟨1, 7⟩]⟩ : SetM).WF := ⟨good3, by simp, by simp⟩
  have a1 : ∀ {G : List Hp} {R : Hp → List Hp} {b : Nat} {c : Hp}, SetAt ⟨5, []⟩ b c → Sel G c R → Go.Sl.Fn Try.prog 17 #[.pointer (some ⟨b, 0, none⟩), .agg (Rg.cells ⟨1, 3⟩).toArray] B w0 G fun u G' => ∃ c' : Hp, u = .int .i64 0 ∧ SetAt ⟨5, [⟨1, 3⟩]⟩ b c' ∧ G' = R c' := fun hO hs => setAddOk_c hs hO w1 (rin (by decide) (by decide)) (by rw [awk1]; decide)
  have a2 : ∀ {G : List Hp} {R : Hp → List Hp} {b : Nat} {c : Hp}, SetAt ⟨5, [⟨1, 3⟩]⟩ b c → Sel G c R → Go.Sl.Fn Try.prog 17 #[.pointer (some ⟨b, 0, none⟩), .agg (Rg.cells ⟨5, 7⟩).toArray] B w0 G fun u G' => ∃ c' : Hp, u = .int .i64 0 ∧ SetAt ⟨5, [⟨1, 3⟩, ⟨5, 7⟩]⟩ b c' ∧ G' = R c' := fun hO hs => setAddOk_c hs hO w2 (rin (by decide) (by decide)) (by rw [awk2]; decide)
  have a3 : ∀ {G : List Hp} {R : Hp → List Hp} {b : Nat} {c : Hp}, SetAt ⟨5, [⟨1, 3⟩, ⟨5, 7⟩]⟩ b c → Sel G c R → Go.Sl.Fn Try.prog 17 #[.pointer (some ⟨b, 0, none⟩), .agg (Rg.cells ⟨3, 5⟩).toArray] B w0 G fun u G' => ∃ c' : Hp, u = .int .i64 0 ∧ SetAt ⟨5, [⟨1, 7⟩]⟩ b c' ∧ G' = R c' := fun hO hs => setAddOk_c hs hO w3 (rin (by decide) (by decide)) (by rw [awk3]; decide)
  refine fn_enter Try.func15 rfl (by kernel_rfl) Try.ntmps15 (by simp) ?_
  refine Go.Sl.cw_seq ?_
  refine Go.Sl.cw_region ?_
  refine Go.Sl.ow_val rfl rfl (Go.Sl.v_assign rfl) ?_
  refine Go.Sl.ow_nil ?_
  refine Go.Sl.xw_then ?_
  refine Go.Sl.cw_seq ?_
  refine Go.Sl.cw_region ?_
  (refine Go.Sl.ow_call rfl rfl rfl rfl (newSet_c) ?_; rintro _ _ ⟨x3, rfl, hq3, rfl⟩)
  refine Go.Sl.ow_val rfl rfl (Go.Sl.v_assign rfl) ?_
  refine Go.Sl.ow_nil ?_
  refine Go.Sl.xw_then ?_
  refine Go.Sl.cw_seq ?_
  refine Go.Sl.cw_region ?_
  refine Go.Sl.ow_val rfl rfl (Go.Sl.v_move rfl) ?_
  refine Go.Sl.ow_val rfl rfl (Go.Sl.v_build rfl (b_rng)) ?_
  (refine Go.Sl.ow_call rfl rfl rfl rfl (a1 (by assumption) (by repeat (first | exact Go.Sl.Sel.here | apply Go.Sl.Sel.there))) ?_; rintro _ _ ⟨x6, rfl, hq6, rfl⟩)
  refine Go.Sl.ow_nil ?_
  refine Go.Sl.xw_then ?_
  refine Go.Sl.cw_seq ?_
  refine Go.Sl.cw_region ?_
  refine Go.Sl.ow_val rfl rfl (Go.Sl.v_move rfl) ?_
  refine Go.Sl.ow_val rfl rfl (Go.Sl.v_build rfl (b_rng)) ?_
  (refine Go.Sl.ow_call rfl rfl rfl rfl (a2 (by assumption) (by repeat (first | exact Go.Sl.Sel.here | apply Go.Sl.Sel.there))) ?_; rintro _ _ ⟨x9, rfl, hq9, rfl⟩)
  refine Go.Sl.ow_nil ?_
  refine Go.Sl.xw_then ?_
  refine Go.Sl.cw_seq ?_
  refine Go.Sl.cw_region ?_
  refine Go.Sl.ow_val rfl rfl (Go.Sl.v_move rfl) ?_
  refine Go.Sl.ow_val rfl rfl (Go.Sl.v_build rfl (b_rng)) ?_
  (refine Go.Sl.ow_call rfl rfl rfl rfl (a3 (by assumption) (by repeat (first | exact Go.Sl.Sel.here | apply Go.Sl.Sel.there))) ?_; rintro _ _ ⟨x12, rfl, hq12, rfl⟩)
  refine Go.Sl.ow_val rfl rfl (Go.Sl.v_assign rfl) ?_
  refine Go.Sl.ow_nil ?_
  refine Go.Sl.xw_then ?_
  refine Go.Sl.cw_seq ?_
  refine Go.Sl.cw_region ?_
  refine Go.Sl.ow_val rfl rfl (Go.Sl.v_move rfl) ?_
  refine Go.Sl.ow_val rfl rfl (Go.Sl.v_eql rfl rfl) ?_
  refine Go.Sl.ow_val rfl rfl (Go.Sl.v_move rfl) ?_
  refine Go.Sl.ow_dec 15 rfl (fun hc15 => ?_) (fun hc15 => ?_)
  rotate_left; (exfalso; omega); rotate_right
  refine Go.Sl.ow_val rfl rfl (Go.Sl.v_move rfl) ?_
  refine Go.Sl.ow_val rfl rfl (Go.Sl.v_call rfl rfl (setLen_c hq12 (by repeat (first | exact Go.Sl.Sub.here | assumption | refine Go.Sl.Sub.there ?_)))) ?_
  refine Go.Sl.ow_val rfl rfl (Go.Sl.v_eql rfl rfl) ?_
  refine Go.Sl.ow_val rfl rfl (Go.Sl.v_pick_true rfl rfl) ?_
  refine Go.Sl.ow_val rfl rfl (Go.Sl.v_move rfl) ?_
  refine Go.Sl.ow_dec 20 rfl (fun hc20 => ?_) (fun hc20 => ?_)
  refine Go.Sl.ow_val rfl rfl (Go.Sl.v_move rfl) ?_
  refine Go.Sl.ow_val rfl rfl (Go.Sl.v_build rfl (b_rng)) ?_
  refine Go.Sl.ow_val rfl rfl (Go.Sl.v_call rfl rfl (setCovers_c (r := ⟨1, 7⟩) hq12 (by repeat (first | exact Go.Sl.Sub.here | assumption | refine Go.Sl.Sub.there ?_)) w4)) ?_
  refine Go.Sl.ow_val rfl rfl (Go.Sl.v_pick_true rfl rfl) ?_
  refine Go.Sl.ow_val rfl rfl (Go.Sl.v_assign rfl) ?_
  refine Go.Sl.ow_nil ?_
  refine Go.Sl.xw_then ?_
  refine Go.Sl.cw_ret ?_
  refine Go.Sl.ret1 rfl (Go.Sl.res_tmp rfl) ?_
  rotate_left
  refine Go.Sl.ow_skip rfl rfl ?_
  refine Go.Sl.ow_skip rfl rfl ?_
  refine Go.Sl.ow_skip rfl rfl ?_
  refine Go.Sl.ow_val rfl rfl (Go.Sl.v_pick_false rfl rfl) ?_
  refine Go.Sl.ow_val rfl rfl (Go.Sl.v_assign rfl) ?_
  refine Go.Sl.ow_nil ?_
  refine Go.Sl.xw_then ?_
  refine Go.Sl.cw_ret ?_
  refine Go.Sl.ret1 rfl (Go.Sl.res_tmp rfl) ?_
  rotate_left
  · exact ⟨rfl, (by first | exact Go.Sl.Cov.refl _ | (intro p; simp only [List.flatten_cons, List.flatten_nil, List.flatten_append, List.append_nil, List.nil_append, Go.Sl.cnt_append, Go.Sl.cnt_cons, Go.Sl.cnt_nil, List.set_cons_zero, List.set_cons_succ, List.length_nil, List.length_cons, Nat.zero_add, List.append]; omega))⟩
  · exact absurd rfl hc20

structure ActR where
  kind : Int
  from_ : Int
  long : Int
  any : Rg
  raw : Bool
instance : Inhabited ActR := ⟨⟨0, 0, 0, ⟨0, 0⟩, false⟩⟩
def ActR.cells (a : ActR) : List Value := [.int .u8 a.kind, .int .u8 a.from_, .int .u8 a.long, .int .u64 a.any.a, .int .u64 a.any.b, .bool a.raw]
def enAc : Enc ActR := ⟨ActR.cells, 6, fun a => .agg a.cells.toArray, fun a => (0 ≤ a.kind ∧ a.kind ≤ 255) ∧ (0 ≤ a.from_ ∧ a.from_ ≤ 255) ∧ (0 ≤ a.long ∧ a.long ≤ 255) ∧ RgIn a.any⟩
theorem acTy : EncTy Try.prog 30 enAc := EncTy.agg Ty.ag30 (by decide) (fun _ => rfl) (fun _ _ => rfl) (fun a _ u hu => by
  simp only [enAc, ActR.cells, List.mem_cons, List.not_mem_nil, or_false] at hu
  rcases hu with rfl | rfl | rfl | rfl | rfl | rfl <;> rfl)
def actRg (a : ActR) : Rg := if a.raw = true then a.any else ⟨a.from_.tmod 60, a.from_.tmod 60 + a.long.tmod 9⟩
theorem tmodB {k n : Int} (h : 0 ≤ k) (hn : 0 < n) : 0 ≤ k.tmod n ∧ k.tmod n < n := by
  rw [Int.tmod_eq_emod_of_nonneg h]
  exact ⟨Int.emod_nonneg k (by omega), Int.emod_lt_of_pos k hn⟩
theorem actRg_in {a : ActR} (h : enAc.ok a) : RgIn (actRg a) := by
  unfold actRg
  split
  · exact h.2.2.2
  · have h1 := tmodB (n := 60) h.2.1.1 (by decide)
    have h2 := tmodB (n := 9) h.2.2.1.1 (by decide)
    exact ⟨by dsimp only; omega, by dsimp only; omega⟩
theorem g_anyR {a : ActR} {T : TypeId} : GetN (.cells a.cells.toArray T (0, 0)) 3 [.int .u64 a.any.a, .int .u64 a.any.b] := GetN.part (a := [.int .u8 a.kind, .int .u8 a.from_, .int .u8 a.long]) (vs := [.int .u64 a.any.a, .int .u64 a.any.b]) (c := [.bool a.raw]) rfl
theorem range_c {B : Nat} {w0 : World} {G : List Hp} {a : ActR} (h : enAc.ok a) :
    Go.Sl.Fn Try.prog 18 #[enAc.val a] B w0 G fun u G' => u = enR.val (actRg a) ∧ G' = G := by
  refine Fn.pure ?_
  have h1 := tmodB (n := 60) h.2.1.1 (by decide)
  have h2 := tmodB (n := 9) h.2.2.1.1 (by decide)
  have ha := acTy.len _ h
  have ha1 := acTy.one _ h
  have hz := len2 _ ok_z
  have hz1 := one2 _ ok_z
  refine fn_enter Try.func18 rfl (by kernel_rfl) Try.ntmps18 (by simp) ?_
  have hb : enR.ok ⟨a.from_.tmod 60, a.from_.tmod 60 + a.long.tmod 9⟩ := ⟨by dsimp only; omega, by dsimp only; omega⟩
  have hb1 := len2 _ hb
  have hb2 := one2 _ hb
  have hb3 := len2 _ h.2.2.2
  have hb4 := one2 _ h.2.2.2
  have hb5 := one_lit a.any.a a.any.b
  refine Go.Sl.cw_seq ?_
  refine Go.Sl.cw_region ?_
  (refine Go.Sl.ow_box rfl rfl rfl rfl ?_; intro b1)
  (refine Go.Sl.ow_alloc rfl rfl Ty.ze28 ?_; intro b2)
  refine Go.Sl.ow_nil ?_
  refine Go.Sl.xw_then ?_
  refine Go.Sl.cw_seq ?_
  refine Go.Sl.cw_seq ?_
  refine Go.Sl.cw_region ?_
  refine Go.Sl.ow_val rfl rfl (Go.Sl.v_fieldAddr0 Ty.fd30_4 rfl) ?_
  refine Go.Sl.ow_val rfl rfl (Go.Sl.v_load rfl (Go.Sl.Var.at1 Ty.sc4 (.there .here) (Go.Sl.GetN.lit rfl))) ?_
  refine Go.Sl.ow_nil ?_
  refine Go.Sl.xw_then ?_
  refine Go.Sl.cw_bool rfl (fun hc4 => ?_) (fun hc4 => ?_)
  refine Go.Sl.cw_seq ?_
  refine Go.Sl.cw_region ?_
  refine Go.Sl.ow_val rfl rfl (Go.Sl.v_fieldAddr0 Ty.fd30_3 rfl) ?_
  refine Go.Sl.ow_val rfl rfl (Go.Sl.v_load rfl (Go.Sl.Var.atN Ty.ag28 (.there .here) (g_anyR) (by first | rfl | assumption))) ?_
  refine Go.Sl.ow_storeN rfl rfl rfl Ty.ag28 (by first | rfl | assumption) (by first | assumption | simp) .here (Go.Sl.SetN.all (by first | rfl | assumption | simp_all)) ?_
  refine Go.Sl.ow_nil ?_
  refine Go.Sl.xw_then ?_
  refine Go.Sl.cw_ret ?_
  refine Go.Sl.xw_then_ret ?_
  refine Go.Sl.ret1 rfl (Go.Sl.res_cell rfl (Go.Sl.Var.atN Ty.ag28 .here Go.Sl.GetN.all (by first | rfl | assumption))) ?_
  rotate_left
  refine Go.Sl.cw_skip ?_
  refine Go.Sl.xw_then ?_
  refine Go.Sl.cw_seq ?_
  refine Go.Sl.cw_region ?_
  refine Go.Sl.ow_val rfl rfl (Go.Sl.v_fieldAddr0 Ty.fd30_1 rfl) ?_
  refine Go.Sl.ow_val rfl rfl (Go.Sl.v_load rfl (Go.Sl.Var.at1 Ty.sc5 (.there .here) (Go.Sl.GetN.lit rfl))) ?_
  refine Go.Sl.ow_val rfl rfl (Go.Sl.v_rem rfl rfl (by decide)) ?_
  refine Go.Sl.ow_val rfl rfl (Go.Sl.v_convert Try.underlying5 Try.underlying23 rfl (Go.Sl.nw_u64 (by omega) (by omega))) ?_
  refine Go.Sl.ow_val rfl rfl (Go.Sl.v_fieldAddr0 Ty.fd30_1 rfl) ?_
  refine Go.Sl.ow_val rfl rfl (Go.Sl.v_load rfl (Go.Sl.Var.at1 Ty.sc5 (.there .here) (Go.Sl.GetN.lit rfl))) ?_
  refine Go.Sl.ow_val rfl rfl (Go.Sl.v_rem rfl rfl (by decide)) ?_
  refine Go.Sl.ow_val rfl rfl (Go.Sl.v_convert Try.underlying5 Try.underlying23 rfl (Go.Sl.nw_u64 (by omega) (by omega))) ?_
  refine Go.Sl.ow_val rfl rfl (Go.Sl.v_fieldAddr0 Ty.fd30_2 rfl) ?_
  refine Go.Sl.ow_val rfl rfl (Go.Sl.v_load rfl (Go.Sl.Var.at1 Ty.sc5 (.there .here) (Go.Sl.GetN.lit rfl))) ?_
  refine Go.Sl.ow_val rfl rfl (Go.Sl.v_rem rfl rfl (by decide)) ?_
  refine Go.Sl.ow_val rfl rfl (Go.Sl.v_convert Try.underlying5 Try.underlying23 rfl (Go.Sl.nw_u64 (by omega) (by omega))) ?_
  refine Go.Sl.ow_val rfl rfl (Go.Sl.v_add rfl rfl (Go.Sl.nw_u64 (by omega) (by omega))) ?_
  refine Go.Sl.ow_val rfl rfl (Go.Sl.v_build rfl (b_rng)) ?_
  refine Go.Sl.ow_storeN rfl rfl rfl Ty.ag28 (by first | rfl | assumption) (by first | assumption | simp) .here (Go.Sl.SetN.all (by first | rfl | assumption | simp_all)) ?_
  refine Go.Sl.ow_nil ?_
  refine Go.Sl.xw_then ?_
  refine Go.Sl.cw_ret ?_
  refine Go.Sl.ret1 rfl (Go.Sl.res_cell rfl (Go.Sl.Var.atN Ty.ag28 .here Go.Sl.GetN.all (by first | rfl | assumption))) ?_
  rotate_left
  · exact ⟨by rw [actRg, if_pos hc4]; rfl, (by first | exact Go.Sl.Cov.refl _ | (intro p; simp only [List.flatten_cons, List.flatten_nil, List.flatten_append, List.append_nil, List.nil_append, Go.Sl.cnt_append, Go.Sl.cnt_cons, Go.Sl.cnt_nil, List.set_cons_zero, List.set_cons_succ, List.length_nil, List.length_cons, Nat.zero_add, List.append]; omega))⟩
  · exact ⟨by rw [actRg, if_neg (by rw [hc4]; decide)]; rfl, (by first | exact Go.Sl.Cov.refl _ | (intro p; simp only [List.flatten_cons, List.flatten_nil, List.flatten_append, List.append_nil, List.nil_append, Go.Sl.cnt_append, Go.Sl.cnt_cons, Go.Sl.cnt_nil, List.set_cons_zero, List.set_cons_succ, List.length_nil, List.length_cons, Nat.zero_add, List.append]; omega))⟩
theorem capLe {α : Type} {En : Enc α} {e : TypeId} {ao : Option Addr} {n cap : Nat} {c : Hp} {l : List α} (h : Ls En e (.slice ao n cap) c l) : l.length ≤ cap := by
  obtain ⟨_, _, hv, hc⟩ := h.view
  injection hv with _ _ h3
  omega
theorem oldVw {α : Type} [Inhabited α] {En : Enc α} {B : Nat} {w0 : World} {ao : Option Addr} {len cap : Nat} {F : Nat → α} {P : Program} {e : TypeId} (he : EncTy P e En) (h : OldSl B w0 En.size ao len (fun i => En.f (F i))) (hok : ∀ i, i < len → En.ok (F i)) (hc : len ≤ cap) (G : List Hp) :
    Vw En (St B w0 G) (.slice ao ((List.range len).map F).length cap) ((List.range len).map F) := by
  have hoks : ∀ a ∈ (List.range len).map F, En.ok a := fun a ha => by
    obtain ⟨i, hi, rfl⟩ := List.mem_map.1 ha
    exact hok i (List.mem_range.1 hi)
  refine ⟨⟨ao, cap, rfl, by simpa using hc⟩, hoks, fun ao' n' cap' hv hl => ?_⟩
  injection hv with e1 e2 e3
  subst e1
  obtain ⟨b, o, h1, h2, h3⟩ := h.get 0 (by simpa using hl)
  subst h1
  refine ⟨rfl, fun i u hu => ?_⟩
  simp only [bOf_some, oOf_some]
  have hp := he.pos
  have hlen : (((List.range len).map F).flatMap En.f).length = len * En.size := by
    rw [fm_len (k := En.size) fun a ha => he.len a (hoks a ha)]
    simp
  have hi : i < len * En.size := by rw [← hlen]; exact (List.getElem?_eq_some_iff.1 hu).1
  have hq : i / En.size < len := Nat.div_lt_of_lt_mul (by rw [Nat.mul_comm]; exact hi)
  have hm := Nat.mod_lt i hp
  have hdm : i = i / En.size * En.size + i % En.size := by rw [Nat.mul_comm]; exact (Nat.div_add_mod i En.size).symm
  obtain ⟨b', o', g1, g2, g3⟩ := h.get (i / En.size) hq
  injection g1 with g1
  injection g1 with g4 g5
  subst g4
  subst g5
  have hfl := he.len _ (hok _ hq)
  have hu2 : (En.f (F (i / En.size)))[i % En.size]? = some u := by
    have hx : i % En.size < (En.f (F (i / En.size))).length := by rw [hfl]; exact hm
    have := fm_get (f := En.f) (k := En.size) (l := (List.range len).map F) (i := i / En.size) (j := i % En.size) (fun a ha => he.len a (hoks a ha)) (by simp [hq]) (List.getElem?_eq_getElem hx)
    rw [← hdm, hu] at this
    rw [List.getElem?_eq_getElem hx]
    exact this.symm
  have := g3 _ _ hu2
  rw [Nat.add_assoc, ← hdm] at this
  exact Cell.old g2 this

/-- a range as it lies in memory -/
theorem form_rng {H : Type} {enc : TypeId × Value → H} {w : World} {fuel : Nat} {cs : List Value} {y : DataW H × List MemPlace} (h : DataW.trod enc Try.prog w 0 (fun _ => true) true fuel 28 cs = some y) : ∃ a : Rg, cs = enR.f a ∧ enR.ok a := by
  obtain ⟨hl, fuel', hf⟩ := form_struct Try.underlying28 h
  have hc : Try.prog.cellsOf 28 = 2 := by kernel_rfl
  rw [hc] at hl
  have g0 : ∃ z, DataW.trod enc Try.prog w 0 (fun _ => true) true fuel' 23 ((cs.drop 0).take (Try.prog.cellsOf 23)) = some z := hf 0 _ rfl
  obtain ⟨_, h0⟩ := g0
  rw [show Try.prog.cellsOf 23 = 1 by kernel_rfl] at h0
  have g1 : ∃ z, DataW.trod enc Try.prog w 0 (fun _ => true) true fuel' 23 ((cs.drop 1).take (Try.prog.cellsOf 23)) = some z := hf 1 _ rfl
  obtain ⟨_, h1⟩ := g1
  rw [show Try.prog.cellsOf 23 = 1 by kernel_rfl] at h1
  obtain ⟨n0, e0, w0⟩ := form_int Try.underlying23 h0
  obtain ⟨n1, e1, w1⟩ := form_int Try.underlying23 h1
  refine ⟨⟨n0, n1⟩, ?_, bounds_u64 w0, bounds_u64 w1⟩
  have p : cs = (cs.drop 0).take 1 ++ ((cs.drop 1).take 1 ++ (cs.drop 2)) := by
    conv => lhs; rw [show cs = cs.drop 0 from rfl]
    rw [← drop_take_drop cs 1 1, ← drop_take_drop cs 0 1]
  rw [p, e0, e1, List.drop_eq_nil_of_le (by omega)]
  rfl
/-- an act as it lies in memory -/
theorem form_actR {H : Type} {enc : TypeId × Value → H} {w : World} {fuel : Nat} {cs : List Value} {y : DataW H × List MemPlace} (h : DataW.trod enc Try.prog w 0 (fun _ => true) true fuel 30 cs = some y) : ∃ a : ActR, cs = enAc.f a ∧ enAc.ok a := by
  obtain ⟨hl, fuel', hf⟩ := form_struct Try.underlying30 h
  have hc : Try.prog.cellsOf 30 = 6 := by kernel_rfl
  rw [hc] at hl
  have g0 : ∃ z, DataW.trod enc Try.prog w 0 (fun _ => true) true fuel' 5 ((cs.drop 0).take (Try.prog.cellsOf 5)) = some z := hf 0 _ rfl
  obtain ⟨_, h0⟩ := g0
  rw [show Try.prog.cellsOf 5 = 1 by kernel_rfl] at h0
  have g1 : ∃ z, DataW.trod enc Try.prog w 0 (fun _ => true) true fuel' 5 ((cs.drop 1).take (Try.prog.cellsOf 5)) = some z := hf 1 _ rfl
  obtain ⟨_, h1⟩ := g1
  rw [show Try.prog.cellsOf 5 = 1 by kernel_rfl] at h1
  have g2 : ∃ z, DataW.trod enc Try.prog w 0 (fun _ => true) true fuel' 5 ((cs.drop 2).take (Try.prog.cellsOf 5)) = some z := hf 2 _ rfl
  obtain ⟨_, h2⟩ := g2
  rw [show Try.prog.cellsOf 5 = 1 by kernel_rfl] at h2
  have g3 : ∃ z, DataW.trod enc Try.prog w 0 (fun _ => true) true fuel' 28 ((cs.drop 3).take (Try.prog.cellsOf 28)) = some z := hf 3 _ rfl
  obtain ⟨_, h3⟩ := g3
  rw [show Try.prog.cellsOf 28 = 2 by kernel_rfl] at h3
  have g4 : ∃ z, DataW.trod enc Try.prog w 0 (fun _ => true) true fuel' 4 ((cs.drop 5).take (Try.prog.cellsOf 4)) = some z := hf 4 _ rfl
  obtain ⟨_, h4⟩ := g4
  rw [show Try.prog.cellsOf 4 = 1 by kernel_rfl] at h4
  obtain ⟨n0, e0, w0⟩ := form_int Try.underlying5 h0
  obtain ⟨n1, e1, w1⟩ := form_int Try.underlying5 h1
  obtain ⟨n2, e2, w2⟩ := form_int Try.underlying5 h2
  obtain ⟨n3, e3, w3⟩ := form_rng h3
  obtain ⟨n4, e4⟩ := form_bool Try.underlying4 h4
  refine ⟨⟨n0, n1, n2, n3, n4⟩, ?_, bounds_u8 w0, bounds_u8 w1, bounds_u8 w2, w3⟩
  have p : cs = (cs.drop 0).take 1 ++ ((cs.drop 1).take 1 ++ ((cs.drop 2).take 1 ++ ((cs.drop 3).take 2 ++ ((cs.drop 5).take 1 ++ (cs.drop 6))))) := by
    conv => lhs; rw [show cs = cs.drop 0 from rfl]
    rw [← drop_take_drop cs 5 1, ← drop_take_drop cs 3 2, ← drop_take_drop cs 2 1, ← drop_take_drop cs 1 1, ← drop_take_drop cs 0 1]
  rw [p, e0, e1, e2, e3, e4, List.drop_eq_nil_of_le (by omega)]
  rfl

theorem open_rng {H : Type} {enc : TypeId × Value → H} {W : World} {base : Nat} {v : Value} {d : DataW H} {p : List MemPlace} (hv : Value.okWide Try.prog W .any base 28 v) (h : DataW.Trod enc Try.prog W 0 (fun _ => true) true 28 v d p) :
    ∃ e : Rg, v = enR.val e ∧ enR.ok e := by
  obtain ⟨cs, rfl, _⟩ := okWide_struct Try.underlying28 hv
  obtain ⟨fuel, hf⟩ := h
  obtain ⟨e, h1, h2⟩ := form_rng hf
  refine ⟨e, ?_, h2⟩
  show Value.agg cs = .agg e.cells.toArray
  congr 1
  apply Array.ext'
  simpa [Value.cells, enR] using h1
theorem run_part_sc {e : TypeId} {xs : List Value} {i : Nat} {v : Value} (he : Scalar Try.prog e) (h : xs[i]? = some v) (w : World) : (part e xs.toArray i).run Try.prog w = .ok v w := by
  have h1 := he.agg w
  simp [part, Sem.run_bind, h1, h]
theorem eqFields_step {P : Program} {d : Nat} {xs ys : Array Value} {f : Field} {fs : List Field} {a b : Value} {r : Bool} {w : World} (hn : f.name ≠ "_") (ha : (part f.type xs f.offset).run P w = .ok a w) (hb : (part f.type ys f.offset).run P w = .ok b w) (hr : (Op.equalIn d f.type a b).run P w = .ok r w) :
    (Op.eqFields d xs ys (f :: fs)).run P w = if r = true then (Op.eqFields d xs ys fs).run P w else .ok false w := by
  rw [Op.eqFields, if_pos hn]
  rw [Sem.run_bind, ha]
  simp only [Result.andThen_ok]
  rw [Sem.run_bind, hb]
  simp only [Result.andThen_ok]
  rw [Sem.run_bind, hr]
  simp only [Result.andThen_ok]
  cases r
  · rw [if_pos (by rfl), if_neg (by decide)]; rfl
  · rw [if_neg (by decide), if_pos rfl]
theorem eqFields_nil {P : Program} {d : Nat} {xs ys : Array Value} {w : World} : (Op.eqFields d xs ys []).run P w = .ok true w := rfl


theorem eqR_d (T : TypeId) (hT : T = 28) (d : Nat) {a b a' b' : Int} (w : World) :
    (Op.equalIn (d + 3) 28 (.agg (Rg.cells ⟨a, b⟩).toArray) (.agg (Rg.cells ⟨a', b'⟩).toArray)).run Try.prog w = .ok (decide (a = a') && decide (b = b')) w := by
  have h0 := run_equalIn_struct (P := Try.prog) w (d + 2) 28 (Rg.cells ⟨a, b⟩).toArray (Rg.cells ⟨a', b'⟩).toArray (by kernel_rfl) (by kernel_rfl)
  refine h0.trans ?_
  simp only [Program.fieldsOf, Try.underlying28]
  have p1 := run_part_sc (xs := Rg.cells ⟨a, b⟩) (i := 0) (v := .int .u64 a) Ty.sc23 rfl w
  have p2 := run_part_sc (xs := Rg.cells ⟨a', b'⟩) (i := 0) (v := .int .u64 a') Ty.sc23 rfl w
  have p3 := run_part_sc (xs := Rg.cells ⟨a, b⟩) (i := 1) (v := .int .u64 b) Ty.sc23 rfl w
  have p4 := run_part_sc (xs := Rg.cells ⟨a', b'⟩) (i := 1) (v := .int .u64 b') Ty.sc23 rfl w
  have q1 : (Op.equalIn (d + 2) 23 (.int .u64 a) (.int .u64 a')).run Try.prog w = .ok (a == a') w := run_equalIn_int (P := Try.prog) w (d + 1) 23 .u64 .u64 a a' Try.underlying23
  have q2 : (Op.equalIn (d + 2) 23 (.int .u64 b) (.int .u64 b')).run Try.prog w = .ok (b == b') w := run_equalIn_int (P := Try.prog) w (d + 1) 23 .u64 .u64 b b' Try.underlying23
  generalize hx : (Rg.cells ⟨a, b⟩).toArray = xs at *
  generalize hy : (Rg.cells ⟨a', b'⟩).toArray = ys at *
  refine (eqFields_step (by decide) p1 p2 q1).trans ?_
  rw [eqFields_step (by decide) p3 p4 q2, eqFields_nil]
  by_cases h1 : a = a' <;> by_cases h2 : b = b' <;> simp [h1, h2]
theorem eqR {a b : Rg} : ∀ w : World, (Op.equal 28 (.agg a.cells.toArray) (.agg b.cells.toArray)).run Try.prog w = .ok (decide (a = b)) w := fun w => by
  obtain ⟨s, i⟩ := a
  obtain ⟨s', i'⟩ := b
  have h2 : decide ((⟨s, i⟩ : Rg) = ⟨s', i'⟩) = (decide (s = s') && decide (i = i')) := by
    by_cases c1 : s = s' <;> by_cases c2 : i = i' <;> simp [c1, c2]
  rw [h2]
  unfold Op.equal Op.maxDepth
  exact eqR_d _ rfl 9997 (a := s) (b := i) (a' := s') (b' := i') w

/-! ### With the list by itself -/
theorem setLen_l {B : Nat} {w0 : World} {G : List Hp} {k : Int} {l : List Rg} {b : Nat} {c : Hp} (hO : SetAt ⟨k, l⟩ b c) (hs : Sub c G) :
    Go.Sl.Fn Try.prog 30 #[.pointer (some ⟨b, 0, none⟩)] B w0 G fun u G' => u = .int .i64 l.length ∧ G' = G := setLen_c hO hs
theorem setList_l {B : Nat} {w0 : World} {G : List Hp} {k : Int} {l : List Rg} {b : Nat} {c : Hp} (hO : SetAt ⟨k, l⟩ b c) (hs : Sub c G) (hw : (⟨k, l⟩ : SetM).WF) :
    Go.Sl.Fn Try.prog 19 #[.pointer (some ⟨b, 0, none⟩)] B w0 G fun u G' => ∃ x : Option Addr × Nat × Hp, u = .slice x.1 l.length x.2.1 ∧ Ls enR 28 (.slice x.1 l.length x.2.1) x.2.2 l ∧ G' = [x.2.2] ++ G := setList_c hO hs hw
theorem setCopy_l {B : Nat} {w0 : World} {G : List Hp} {k : Int} {l : List Rg} {b : Nat} {c : Hp} (hO : SetAt ⟨k, l⟩ b c) (hs : Sub c G) (hw : (⟨k, l⟩ : SetM).WF) :
    Go.Sl.Fn Try.prog 20 #[.pointer (some ⟨b, 0, none⟩)] B w0 G fun u G' => ∃ x : Nat × Hp, u = .pointer (some ⟨x.1, 0, none⟩) ∧ SetAt ⟨k, l⟩ x.1 x.2 ∧ G' = [x.2] ++ G := setCopy_c hO hs hw
theorem setHas_l {B : Nat} {w0 : World} {G : List Hp} {k : Int} {l : List Rg} {b : Nat} {c : Hp} {n : Int} (hO : SetAt ⟨k, l⟩ b c) (hs : Sub c G) (hw : (⟨k, l⟩ : SetM).WF) :
    Go.Sl.Fn Try.prog 24 #[.pointer (some ⟨b, 0, none⟩), .int .u64 n] B w0 G fun u G' => u = .bool (hasR l n) ∧ G' = G := setHas_c hO hs hw
theorem setCovers_l {B : Nat} {w0 : World} {G : List Hp} {k : Int} {l : List Rg} {b : Nat} {c : Hp} {r : Rg} (hO : SetAt ⟨k, l⟩ b c) (hs : Sub c G) (hw : (⟨k, l⟩ : SetM).WF) :
    Go.Sl.Fn Try.prog 22 #[.pointer (some ⟨b, 0, none⟩), enR.val r] B w0 G fun u G' => u = .bool (coversR l r) ∧ G' = G := setCovers_c hO hs hw
theorem setFirst_l {B : Nat} {w0 : World} {G : List Hp} {k : Int} {l : List Rg} {b : Nat} {c : Hp} {n : Int} (hO : SetAt ⟨k, l⟩ b c) (hs : Sub c G) (hw : (⟨k, l⟩ : SetM).WF) :
    Go.Sl.Fn Try.prog 33 #[.pointer (some ⟨b, 0, none⟩), .int .u64 n] B w0 G fun u G' => u = .tuple #[enR.val (firstR l n).1, .bool (firstR l n).2] ∧ G' = G := setFirst_c hO hs hw
theorem setLast_l {B : Nat} {w0 : World} {G : List Hp} {k : Int} {l : List Rg} {b : Nat} {c : Hp} (hO : SetAt ⟨k, l⟩ b c) (hs : Sub c G) (hw : (⟨k, l⟩ : SetM).WF) :
    Go.Sl.Fn Try.prog 31 #[.pointer (some ⟨b, 0, none⟩)] B w0 G fun u G' => u = .tuple #[enR.val (lastR l).1, .bool (lastR l).2] ∧ G' = G := setLast_c hO hs hw
theorem setCount_l {B : Nat} {w0 : World} {G : List Hp} {k : Int} {l : List Rg} {b : Nat} {c : Hp} (hO : SetAt ⟨k, l⟩ b c) (hs : Sub c G) (hw : (⟨k, l⟩ : SetM).WF) :
    Go.Sl.Fn Try.prog 23 #[.pointer (some ⟨b, 0, none⟩)] B w0 G fun u G' => u = .int .u64 (cntR l) ∧ G' = G := setCount_c hO hs hw
theorem setAddOk_l {B : Nat} {w0 : World} {G : List Hp} {k : Int} {l : List Rg} {b : Nat} {c : Hp} {R : Hp → List Hp} {r : Rg} (hsel : Sel G c R) (hO : SetAt ⟨k, l⟩ b c) (hw : (⟨k, l⟩ : SetM).WF) (hr : RgIn r) (h : ((addE l r).length : Int) ≤ max k 1) :
    Go.Sl.Fn Try.prog 17 #[.pointer (some ⟨b, 0, none⟩), enR.val r] B w0 G fun u G' => ∃ c' : Hp, u = .int .i64 0 ∧ SetAt ⟨k, addE l r⟩ b c' ∧ G' = R c' := setAddOk_c hsel hO hw hr h
theorem setCutOk_l {B : Nat} {w0 : World} {G : List Hp} {k : Int} {l : List Rg} {b : Nat} {c : Hp} {R : Hp → List Hp} {r : Rg} (hsel : Sel G c R) (hO : SetAt ⟨k, l⟩ b c) (hw : (⟨k, l⟩ : SetM).WF) (hr : RgIn r) (h : ((cutE l r).length : Int) ≤ max k 1) :
    Go.Sl.Fn Try.prog 21 #[.pointer (some ⟨b, 0, none⟩), enR.val r] B w0 G fun u G' => ∃ c' : Hp, u = .int .i64 0 ∧ SetAt ⟨k, cutE l r⟩ b c' ∧ G' = R c' := setCutOk_c hsel hO hw hr h
end Go.Proofs.Ytbpnnkkbaakdjaa
