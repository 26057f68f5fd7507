/- Replay in memory: the table of names, how many numbers a kind has. Conditions: none. -/
import Derived.Test.YtckdhelnafjddaaRpE
namespace Go.Proofs.Ytckdhelnafjddaa
open Go Go.Sl Go.Proofs Go.RowKit Go.ChangeShapes Go.WideShapes Go.ChangeAt
set_option maxRecDepth 20000
set_option linter.unusedVariables false
set_option linter.unusedSimpArgs false

def nmT : List (List ByteArray) := [[⟨#[112, 104, 97, 115, 101]⟩, ⟨#[112, 104, 97, 115, 101]⟩],
  [⟨#[112, 97, 99, 107, 101, 116, 95, 115, 101, 110, 116]⟩, ⟨#[115, 112, 97, 99, 101]⟩, ⟨#[110, 117, 109, 98, 101, 114]⟩, ⟨#[115, 105, 122, 101]⟩, ⟨#[101, 108, 105, 99, 105, 116, 105, 110, 103]⟩, ⟨#[102, 108, 105, 103, 104, 116]⟩],
  [⟨#[112, 97, 99, 107, 101, 116, 95, 114, 101, 99, 101, 105, 118, 101, 100]⟩, ⟨#[115, 112, 97, 99, 101]⟩, ⟨#[110, 117, 109, 98, 101, 114]⟩, ⟨#[115, 105, 122, 101]⟩],
  [⟨#[112, 97, 99, 107, 101, 116, 95, 97, 99, 107, 101, 100]⟩, ⟨#[115, 112, 97, 99, 101]⟩, ⟨#[110, 117, 109, 98, 101, 114]⟩],
  [⟨#[112, 97, 99, 107, 101, 116, 95, 108, 111, 115, 116]⟩, ⟨#[115, 112, 97, 99, 101]⟩, ⟨#[110, 117, 109, 98, 101, 114]⟩, ⟨#[119, 104, 121]⟩],
  [⟨#[115, 112, 97, 99, 101, 95, 100, 114, 111, 112, 112, 101, 100]⟩, ⟨#[115, 112, 97, 99, 101]⟩],
  [⟨#[114, 97, 110, 103, 101, 115, 95, 102, 111, 114, 103, 111, 116, 116, 101, 110]⟩, ⟨#[115, 112, 97, 99, 101]⟩, ⟨#[98, 101, 108, 111, 119]⟩],
  [⟨#[109, 101, 116, 114, 105, 99, 115, 95, 117, 112, 100, 97, 116, 101, 100]⟩, ⟨#[108, 97, 116, 101, 115, 116]⟩, ⟨#[108, 101, 97, 115, 116]⟩, ⟨#[115, 109, 111, 111, 116, 104]⟩, ⟨#[118, 97, 114, 105, 97, 110, 99, 101]⟩, ⟨#[119, 105, 110, 100, 111, 119]⟩, ⟨#[102, 108, 105, 103, 104, 116]⟩, ⟨#[115, 108, 111, 119]⟩, ⟨#[112, 114, 111, 98, 101, 115]⟩],
  [⟨#[99, 114, 101, 100, 105, 116, 95, 117, 112, 100, 97, 116, 101, 100]⟩, ⟨#[115, 116, 114, 101, 97, 109]⟩, ⟨#[103, 105, 118, 101, 110]⟩, ⟨#[117, 115, 101, 100]⟩, ⟨#[103, 111, 116]⟩, ⟨#[115, 112, 101, 110, 116]⟩],
  [⟨#[115, 116, 114, 101, 97, 109, 95, 117, 112, 100, 97, 116, 101, 100]⟩, ⟨#[115, 116, 114, 101, 97, 109]⟩, ⟨#[115, 101, 110, 100]⟩, ⟨#[119, 114, 105, 116, 116, 101, 110]⟩, ⟨#[99, 97, 109, 101]⟩, ⟨#[114, 101, 99, 118]⟩, ⟨#[114, 101, 97, 100]⟩, ⟨#[104, 105, 103, 104]⟩],
  [⟨#[111, 119, 110, 95, 105, 100, 95, 103, 105, 118, 101, 110]⟩, ⟨#[115, 101, 113]⟩, ⟨#[43]⟩],
  [⟨#[111, 119, 110, 95, 105, 100, 95, 114, 101, 116, 105, 114, 101, 100]⟩, ⟨#[115, 101, 113]⟩],
  [⟨#[111, 116, 104, 101, 114, 95, 105, 100, 95, 103, 105, 118, 101, 110]⟩, ⟨#[115, 101, 113]⟩, ⟨#[43]⟩],
  [⟨#[111, 116, 104, 101, 114, 95, 105, 100, 95, 114, 101, 116, 105, 114, 101, 100]⟩, ⟨#[115, 101, 113]⟩],
  [⟨#[105, 100, 95, 117, 115, 101, 100]⟩, ⟨#[115, 101, 113]⟩],
  [⟨#[112, 97, 116, 104, 95, 117, 112, 100, 97, 116, 101, 100]⟩, ⟨#[112, 97, 116, 104]⟩, ⟨#[115, 116, 97, 116, 101]⟩],
  [⟨#[107, 101, 121, 95, 117, 112, 100, 97, 116, 101, 100]⟩, ⟨#[115, 112, 97, 99, 101]⟩, ⟨#[116, 117, 114, 110]⟩],
  [⟨#[99, 111, 110, 110, 101, 99, 116, 105, 111, 110, 95, 99, 108, 111, 115, 101, 100]⟩, ⟨#[99, 111, 100, 101]⟩, ⟨#[97, 112, 112]⟩, ⟨#[111, 119, 110]⟩],
  [⟨#[108, 111, 103, 95, 116, 114, 117, 110, 99, 97, 116, 101, 100]⟩]]

structure SlH where
  a : Option Addr
  n : Nat
  c : Nat
def enSH : Enc SlH := ⟨fun h => [.slice h.a h.n h.c], 1, fun h => .slice h.a h.n h.c, fun _ => True⟩
theorem shTy : EncTy Try.prog 177 enSH := EncTy.scalar Ty.sc177 rfl (fun _ => rfl) (fun _ => rfl)
@[simp] theorem enSH_ok (h : SlH) : enSH.ok h = True := rfl
def NmOk (B : Nat) (w0 : World) (D : Hp) : List SlH → List (List ByteArray) → Prop
  | h :: L, l :: T => (∀ G, Sub D G → Vw enSt (St B w0 G) (.slice h.a h.n h.c) l) ∧ NmOk B w0 D L T
  | [], [] => True
  | _, _ => False
theorem NmOk.get {B : Nat} {w0 : World} {D : Hp} : ∀ {L : List SlH} {T : List (List ByteArray)}, NmOk B w0 D L T → ∀ (i : Nat) (h : i < L.length), ∃ l, T[i]? = some l ∧ ∀ G, Sub D G → Vw enSt (St B w0 G) (.slice L[i].a L[i].n L[i].c) l
  | h :: L, l :: T, hn, 0, hi => ⟨l, rfl, hn.1⟩
  | h :: L, l :: T, hn, i + 1, hi => hn.2.get i (by simpa using hi)
  | [], [], _, i, hi => absurd hi (Nat.not_lt_zero i)
set_option maxHeartbeats 8000000 in
theorem names_c {B : Nat} {w0 : World} {G : List Hp} :
    Go.Sl.Fn Try.prog 100 #[] B w0 G fun u G' => ∃ x : Option Addr × Nat × Hp × Hp × List SlH, u = .slice x.1 x.2.2.2.2.length x.2.1 ∧ (Ls enSH 177 (.slice x.1 x.2.2.2.2.length x.2.1) x.2.2.1 x.2.2.2.2 ∧ x.2.2.2.2.length = 19 ∧ NmOk B w0 x.2.2.2.1 x.2.2.2.2 nmT) ∧ G' = [x.2.2.1, x.2.2.2.1] ++ G := by
  refine Fn.new (V := fun x : Option Addr × Nat × Hp × Hp × List SlH => .slice x.1 x.2.2.2.2.length x.2.1) (Nw := fun x => [x.2.2.1, x.2.2.2.1]) ?_
  refine fn_enter Try.func100 rfl (by kernel_rfl) Try.ntmps100 (by simp) ?_
  refine cw_seq ?_
  refine cw_region ?_
  refine ow_val rfl rfl (v_assign rfl) ?_
  refine ow_nil ?_
  refine xw_then ?_
  refine cw_seq ?_
  refine cw_region ?_
  (refine ow_buildL (es := ([_, _])) rfl rfl Try.underlying177 Ty.em177 (sTy) rfl rfl (by first | (simp [*]; done) | (repeat (first | exact List.forall_mem_nil _ | refine List.forall_mem_cons.2 ⟨?_, ?_⟩ | assumption | (show _ ∧ _; omega)))) (by simp only [List.length_cons, List.length_nil]; decide) ?_; intro ao1 c1 hL1)
  (refine ow_buildL (es := ([_, _, _, _, _, _])) rfl rfl Try.underlying177 Ty.em177 (sTy) rfl rfl (by first | (simp [*]; done) | (repeat (first | exact List.forall_mem_nil _ | refine List.forall_mem_cons.2 ⟨?_, ?_⟩ | assumption | (show _ ∧ _; omega)))) (by simp only [List.length_cons, List.length_nil]; decide) ?_; intro ao2 c2 hL2)
  (refine ow_buildL (es := ([_, _, _, _])) rfl rfl Try.underlying177 Ty.em177 (sTy) rfl rfl (by first | (simp [*]; done) | (repeat (first | exact List.forall_mem_nil _ | refine List.forall_mem_cons.2 ⟨?_, ?_⟩ | assumption | (show _ ∧ _; omega)))) (by simp only [List.length_cons, List.length_nil]; decide) ?_; intro ao3 c3 hL3)
  (refine ow_buildL (es := ([_, _, _])) rfl rfl Try.underlying177 Ty.em177 (sTy) rfl rfl (by first | (simp [*]; done) | (repeat (first | exact List.forall_mem_nil _ | refine List.forall_mem_cons.2 ⟨?_, ?_⟩ | assumption | (show _ ∧ _; omega)))) (by simp only [List.length_cons, List.length_nil]; decide) ?_; intro ao4 c4 hL4)
  (refine ow_buildL (es := ([_, _, _, _])) rfl rfl Try.underlying177 Ty.em177 (sTy) rfl rfl (by first | (simp [*]; done) | (repeat (first | exact List.forall_mem_nil _ | refine List.forall_mem_cons.2 ⟨?_, ?_⟩ | assumption | (show _ ∧ _; omega)))) (by simp only [List.length_cons, List.length_nil]; decide) ?_; intro ao5 c5 hL5)
  (refine ow_buildL (es := ([_, _])) rfl rfl Try.underlying177 Ty.em177 (sTy) rfl rfl (by first | (simp [*]; done) | (repeat (first | exact List.forall_mem_nil _ | refine List.forall_mem_cons.2 ⟨?_, ?_⟩ | assumption | (show _ ∧ _; omega)))) (by simp only [List.length_cons, List.length_nil]; decide) ?_; intro ao6 c6 hL6)
  (refine ow_buildL (es := ([_, _, _])) rfl rfl Try.underlying177 Ty.em177 (sTy) rfl rfl (by first | (simp [*]; done) | (repeat (first | exact List.forall_mem_nil _ | refine List.forall_mem_cons.2 ⟨?_, ?_⟩ | assumption | (show _ ∧ _; omega)))) (by simp only [List.length_cons, List.length_nil]; decide) ?_; intro ao7 c7 hL7)
  (refine ow_buildL (es := ([_, _, _, _, _, _, _, _, _])) rfl rfl Try.underlying177 Ty.em177 (sTy) rfl rfl (by first | (simp [*]; done) | (repeat (first | exact List.forall_mem_nil _ | refine List.forall_mem_cons.2 ⟨?_, ?_⟩ | assumption | (show _ ∧ _; omega)))) (by simp only [List.length_cons, List.length_nil]; decide) ?_; intro ao8 c8 hL8)
  (refine ow_buildL (es := ([_, _, _, _, _, _])) rfl rfl Try.underlying177 Ty.em177 (sTy) rfl rfl (by first | (simp [*]; done) | (repeat (first | exact List.forall_mem_nil _ | refine List.forall_mem_cons.2 ⟨?_, ?_⟩ | assumption | (show _ ∧ _; omega)))) (by simp only [List.length_cons, List.length_nil]; decide) ?_; intro ao9 c9 hL9)
  (refine ow_buildL (es := ([_, _, _, _, _, _, _, _])) rfl rfl Try.underlying177 Ty.em177 (sTy) rfl rfl (by first | (simp [*]; done) | (repeat (first | exact List.forall_mem_nil _ | refine List.forall_mem_cons.2 ⟨?_, ?_⟩ | assumption | (show _ ∧ _; omega)))) (by simp only [List.length_cons, List.length_nil]; decide) ?_; intro ao10 c10 hL10)
  (refine ow_buildL (es := ([_, _, _])) rfl rfl Try.underlying177 Ty.em177 (sTy) rfl rfl (by first | (simp [*]; done) | (repeat (first | exact List.forall_mem_nil _ | refine List.forall_mem_cons.2 ⟨?_, ?_⟩ | assumption | (show _ ∧ _; omega)))) (by simp only [List.length_cons, List.length_nil]; decide) ?_; intro ao11 c11 hL11)
  (refine ow_buildL (es := ([_, _])) rfl rfl Try.underlying177 Ty.em177 (sTy) rfl rfl (by first | (simp [*]; done) | (repeat (first | exact List.forall_mem_nil _ | refine List.forall_mem_cons.2 ⟨?_, ?_⟩ | assumption | (show _ ∧ _; omega)))) (by simp only [List.length_cons, List.length_nil]; decide) ?_; intro ao12 c12 hL12)
  (refine ow_buildL (es := ([_, _, _])) rfl rfl Try.underlying177 Ty.em177 (sTy) rfl rfl (by first | (simp [*]; done) | (repeat (first | exact List.forall_mem_nil _ | refine List.forall_mem_cons.2 ⟨?_, ?_⟩ | assumption | (show _ ∧ _; omega)))) (by simp only [List.length_cons, List.length_nil]; decide) ?_; intro ao13 c13 hL13)
  (refine ow_buildL (es := ([_, _])) rfl rfl Try.underlying177 Ty.em177 (sTy) rfl rfl (by first | (simp [*]; done) | (repeat (first | exact List.forall_mem_nil _ | refine List.forall_mem_cons.2 ⟨?_, ?_⟩ | assumption | (show _ ∧ _; omega)))) (by simp only [List.length_cons, List.length_nil]; decide) ?_; intro ao14 c14 hL14)
  (refine ow_buildL (es := ([_, _])) rfl rfl Try.underlying177 Ty.em177 (sTy) rfl rfl (by first | (simp [*]; done) | (repeat (first | exact List.forall_mem_nil _ | refine List.forall_mem_cons.2 ⟨?_, ?_⟩ | assumption | (show _ ∧ _; omega)))) (by simp only [List.length_cons, List.length_nil]; decide) ?_; intro ao15 c15 hL15)
  (refine ow_buildL (es := ([_, _, _])) rfl rfl Try.underlying177 Ty.em177 (sTy) rfl rfl (by first | (simp [*]; done) | (repeat (first | exact List.forall_mem_nil _ | refine List.forall_mem_cons.2 ⟨?_, ?_⟩ | assumption | (show _ ∧ _; omega)))) (by simp only [List.length_cons, List.length_nil]; decide) ?_; intro ao16 c16 hL16)
  (refine ow_buildL (es := ([_, _, _])) rfl rfl Try.underlying177 Ty.em177 (sTy) rfl rfl (by first | (simp [*]; done) | (repeat (first | exact List.forall_mem_nil _ | refine List.forall_mem_cons.2 ⟨?_, ?_⟩ | assumption | (show _ ∧ _; omega)))) (by simp only [List.length_cons, List.length_nil]; decide) ?_; intro ao17 c17 hL17)
  (refine ow_buildL (es := ([_, _, _, _])) rfl rfl Try.underlying177 Ty.em177 (sTy) rfl rfl (by first | (simp [*]; done) | (repeat (first | exact List.forall_mem_nil _ | refine List.forall_mem_cons.2 ⟨?_, ?_⟩ | assumption | (show _ ∧ _; omega)))) (by simp only [List.length_cons, List.length_nil]; decide) ?_; intro ao18 c18 hL18)
  (refine ow_buildL (es := ([_])) rfl rfl Try.underlying177 Ty.em177 (sTy) rfl rfl (by first | (simp [*]; done) | (repeat (first | exact List.forall_mem_nil _ | refine List.forall_mem_cons.2 ⟨?_, ?_⟩ | assumption | (show _ ∧ _; omega)))) (by simp only [List.length_cons, List.length_nil]; decide) ?_; intro ao19 c19 hL19)
  (refine ow_buildL (es := ([(⟨ao1, _, _⟩ : SlH), (⟨ao2, _, _⟩ : SlH), (⟨ao3, _, _⟩ : SlH), (⟨ao4, _, _⟩ : SlH), (⟨ao5, _, _⟩ : SlH), (⟨ao6, _, _⟩ : SlH), (⟨ao7, _, _⟩ : SlH), (⟨ao8, _, _⟩ : SlH), (⟨ao9, _, _⟩ : SlH), (⟨ao10, _, _⟩ : SlH), (⟨ao11, _, _⟩ : SlH), (⟨ao12, _, _⟩ : SlH), (⟨ao13, _, _⟩ : SlH), (⟨ao14, _, _⟩ : SlH), (⟨ao15, _, _⟩ : SlH), (⟨ao16, _, _⟩ : SlH), (⟨ao17, _, _⟩ : SlH), (⟨ao18, _, _⟩ : SlH), (⟨ao19, _, _⟩ : SlH)])) rfl rfl Try.underlying175 Ty.em175 (shTy) rfl rfl (by first | (simp [*]; done) | (repeat (first | exact List.forall_mem_nil _ | refine List.forall_mem_cons.2 ⟨?_, ?_⟩ | assumption | (show _ ∧ _; omega)))) (by simp only [List.length_cons, List.length_nil]; decide) ?_; intro ao20 c20 hL20)
  refine ow_val rfl rfl (v_assign rfl) ?_
  refine ow_nil ?_
  refine xw_then ?_
  refine cw_ret ?_
  refine ret1 rfl (res_tmp rfl) ?_
  exact ⟨(ao20, _, c20, c1 ++ (c2 ++ (c3 ++ (c4 ++ (c5 ++ (c6 ++ (c7 ++ (c8 ++ (c9 ++ (c10 ++ (c11 ++ (c12 ++ (c13 ++ (c14 ++ (c15 ++ (c16 ++ (c17 ++ (c18 ++ (c19)))))))))))))))))), [(⟨ao1, _, _⟩ : SlH), (⟨ao2, _, _⟩ : SlH), (⟨ao3, _, _⟩ : SlH), (⟨ao4, _, _⟩ : SlH), (⟨ao5, _, _⟩ : SlH), (⟨ao6, _, _⟩ : SlH), (⟨ao7, _, _⟩ : SlH), (⟨ao8, _, _⟩ : SlH), (⟨ao9, _, _⟩ : SlH), (⟨ao10, _, _⟩ : SlH), (⟨ao11, _, _⟩ : SlH), (⟨ao12, _, _⟩ : SlH), (⟨ao13, _, _⟩ : SlH), (⟨ao14, _, _⟩ : SlH), (⟨ao15, _, _⟩ : SlH), (⟨ao16, _, _⟩ : SlH), (⟨ao17, _, _⟩ : SlH), (⟨ao18, _, _⟩ : SlH), (⟨ao19, _, _⟩ : SlH)]), rfl, ⟨hL20, rfl, ⟨fun G hs => hL1.vw (hs.left), fun G hs => hL2.vw (hs.right.left), fun G hs => hL3.vw (hs.right.right.left), fun G hs => hL4.vw (hs.right.right.right.left), fun G hs => hL5.vw (hs.right.right.right.right.left), fun G hs => hL6.vw (hs.right.right.right.right.right.left), fun G hs => hL7.vw (hs.right.right.right.right.right.right.left), fun G hs => hL8.vw (hs.right.right.right.right.right.right.right.left), fun G hs => hL9.vw (hs.right.right.right.right.right.right.right.right.left), fun G hs => hL10.vw (hs.right.right.right.right.right.right.right.right.right.left), fun G hs => hL11.vw (hs.right.right.right.right.right.right.right.right.right.right.left), fun G hs => hL12.vw (hs.right.right.right.right.right.right.right.right.right.right.right.left), fun G hs => hL13.vw (hs.right.right.right.right.right.right.right.right.right.right.right.right.left), fun G hs => hL14.vw (hs.right.right.right.right.right.right.right.right.right.right.right.right.right.left), fun G hs => hL15.vw (hs.right.right.right.right.right.right.right.right.right.right.right.right.right.right.left), fun G hs => hL16.vw (hs.right.right.right.right.right.right.right.right.right.right.right.right.right.right.right.left), fun G hs => hL17.vw (hs.right.right.right.right.right.right.right.right.right.right.right.right.right.right.right.right.left), fun G hs => hL18.vw (hs.right.right.right.right.right.right.right.right.right.right.right.right.right.right.right.right.right.left), fun G hs => hL19.vw (hs.right.right.right.right.right.right.right.right.right.right.right.right.right.right.right.right.right.right), trivial⟩⟩, (by first | exact Cov.refl _ | (intro p; simp only [List.flatten_cons, List.flatten_nil, List.flatten_append, List.append_nil, List.nil_append, cnt_append, cnt_cons, cnt_nil, List.set_cons_zero, List.set_cons_succ, List.length_nil, List.length_cons, Nat.zero_add, List.append]; omega))⟩
theorem nm_tab : ∀ i : Fin 19, ∃ l m, nmT[i.val]? = some l ∧ l.length = m + 1 ∧ m ≤ 20 ∧ (decide (l[m]? = some ⟨#[43]⟩) = dataK (i.val + 1)) ∧ manyK (i.val + 1) = (m : Int) - (if dataK (i.val + 1) = true then 1 else 0) := by
  have h : ∀ i : Fin 19, (decide ((nmT[i.val]?.getD []).length = ((nmT[i.val]?.getD []).length - 1) + 1) && (decide ((nmT[i.val]?.getD []).length - 1 ≤ 20) && (decide (nmT[i.val]?.isSome = true) && (decide (decide ((nmT[i.val]?.getD [])[(nmT[i.val]?.getD []).length - 1]? = some ⟨#[43]⟩) = dataK (i.val + 1)) && decide (manyK (i.val + 1) = (((nmT[i.val]?.getD []).length - 1 : Nat) : Int) - (if dataK (i.val + 1) = true then 1 else 0)))))) = true := by decide +kernel
  intro i
  have h1 := h i
  simp only [Bool.and_eq_true, decide_eq_true_eq] at h1
  obtain ⟨a, a2, b, c, d⟩ := h1
  cases hq : nmT[i.val]? with
  | none => rw [hq] at b; cases b
  | some l =>
    rw [hq] at a a2 c d
    exact ⟨l, l.length - 1, rfl, a, a2, c, d⟩
theorem many_c {B : Nat} {w0 : World} {G : List Hp} {k : Int} (hk : 1 ≤ k ∧ k ≤ 19) :
    Go.Sl.Fn Try.prog 72 #[.int .u8 k] B w0 G fun u G' => u = .tuple #[.int .i64 (manyK k.toNat), .bool (dataK k)] ∧ G' = G := by
  refine Fn.pure ?_
  obtain ⟨i, rfl, hi⟩ : ∃ i : Nat, k = (i : Int) + 1 ∧ i < 19 := ⟨(k - 1).toNat, by omega, by omega⟩
  obtain ⟨l, m, t1, t2, t5, t3, t4⟩ := nm_tab ⟨i, hi⟩
  dsimp only at t1 t3 t4
  refine fn_enter Try.func72 rfl (by kernel_rfl) Try.ntmps72 (by simp) ?_
  refine cw_seq ?_
  refine cw_region ?_
  refine ow_val rfl rfl (v_assign rfl) ?_
  refine ow_val rfl rfl (v_assign rfl) ?_
  refine ow_nil ?_
  refine xw_then ?_
  refine cw_seq ?_
  refine cw_region ?_
  (refine ow_call rfl rfl rfl rfl (names_c) ?_; rintro _ _ ⟨x6, rfl, hq6, rfl⟩)
  refine ow_val rfl rfl (v_assign rfl) ?_
  refine ow_nil ?_
  refine xw_then ?_
  obtain ⟨al, cl, c6, D6, L⟩ := x6
  obtain ⟨q1, q2, q3⟩ := hq6
  dsimp only at q1 q2 q3 ⊢
  have hiL : i < L.length := by omega
  obtain ⟨l', u1, u2⟩ := q3.get i hiL
  rw [t1] at u1
  obtain rfl := Option.some.inj u1
  refine cw_seq ?_
  refine cw_seq ?_
  refine cw_region ?_
  refine ow_val rfl rfl (v_move rfl) ?_
  refine ow_val rfl rfl (v_lss rfl rfl) ?_
  refine ow_val rfl rfl (v_move rfl) ?_
  refine ow_dec 9 rfl (fun hc9 => ?_) (fun hc9 => ?_)
  (exfalso; omega)
  refine ow_val rfl rfl (v_move rfl) ?_
  refine ow_val rfl rfl (v_convert Try.underlying59 Try.underlying3 rfl (nw_i64 (by omega) (by omega))) ?_
  refine ow_val rfl rfl (v_move rfl) ?_
  refine ow_val rfl rfl (v_len rfl Try.underlying175 rfl) ?_
  refine ow_val rfl rfl (v_gtr rfl rfl) ?_
  refine ow_val rfl rfl (v_pick_false rfl rfl) ?_
  refine ow_nil ?_
  refine xw_then ?_
  refine cw_dec rfl (fun hc15 => ?_) (fun hc15 => ?_)
  (exfalso; omega)
  refine cw_skip ?_
  refine xw_then ?_
  refine cw_seq ?_
  refine cw_region ?_
  refine ow_val rfl rfl (v_move rfl) ?_
  refine ow_val rfl rfl (v_move rfl) ?_
  refine ow_val rfl rfl (v_sub rfl rfl (nw_u8 (by omega) (by omega))) ?_
  refine ow_val rfl rfl (v_indexAddr_ls Try.underlying175 (shTy) rfl rfl (by assumption) (Int.toNat_of_nonneg (by omega)).symm (by omega)) ?_
  refine ow_val rfl rfl (v_load rfl (Go.Sl.Vw.var (shTy) ((q1.vw (by repeat (first | exact Sub.here | exact Sub.nil | assumption | refine Sub.there ?_)))) (by omega))) ?_
  refine ow_val rfl rfl (v_assign rfl) ?_
  refine ow_nil ?_
  refine xw_then ?_
  have hx : ((i : Int) + 1 - 1).toNat = i := by omega
  simp only [hx]
  generalize L[i] = h at u2 ⊢
  obtain ⟨ha, hn, hcc⟩ := h
  have hV := u2 ([c6, D6] ++ G) (by repeat (first | exact Sub.here | exact Sub.nil | assumption | refine Sub.there ?_))
  dsimp only at hV ⊢
  have hl0 := hV.len
  obtain rfl : hn = m + 1 := by omega
  have hlm : m < l.length := by omega
  have hlg : l[m]? = some l[m] := List.getElem?_eq_getElem hlm
  have hkk : manyK ((i : Int) + 1).toNat = (m : Int) - (if dataK ((i : Int) + 1) = true then 1 else 0) := by
    rw [← t4]
    congr 1
  rw [hkk]
  rw [show enSH.val ⟨ha, m + 1, hcc⟩ = .slice ha (m + 1) hcc from rfl]
  have hl1 : l.length = m + 1 := t2
  have hmx : ((m + 1 : Nat) : Int) - 1 = m := by omega
  have hmy : (((m + 1 : Nat) : Int) - 1).toNat = m := by omega
  refine cw_seq ?_
  refine cw_seq ?_
  refine cw_region ?_
  refine ow_val rfl rfl (v_move rfl) ?_
  refine ow_val rfl rfl (v_move rfl) ?_
  refine ow_val rfl rfl (v_len rfl Try.underlying177 rfl) ?_
  refine ow_val rfl rfl (v_sub rfl rfl (nw_i64 (by omega) (by omega))) ?_
  refine ow_val rfl rfl (v_indexAddr_vw Try.underlying177 (sTy) rfl rfl (hV) (Int.toNat_of_nonneg (by omega)).symm (by omega)) ?_
  refine ow_val rfl rfl (v_load rfl (Go.Sl.Vw.var (sTy) (hV) (by omega))) ?_
  refine ow_val rfl rfl (v_eqlS rfl rfl) ?_
  refine ow_nil ?_
  refine xw_then ?_
  refine cw_dec rfl (fun hc27 => ?_) (fun hc27 => ?_)
  rotate_left
  refine cw_skip ?_
  refine xw_then ?_
  refine cw_seq ?_
  refine cw_region ?_
  refine ow_val rfl rfl (v_move rfl) ?_
  refine ow_val rfl rfl (v_len rfl Try.underlying177 rfl) ?_
  refine ow_val rfl rfl (v_sub rfl rfl (nw_i64 (by omega) (by omega))) ?_
  refine ow_val rfl rfl (v_assign rfl) ?_
  refine ow_val rfl rfl (v_assign rfl) ?_
  refine ow_nil ?_
  refine xw_then ?_
  refine cw_ret ?_
  refine ret2 rfl (res_tmp rfl) (res_tmp rfl) ?_
  rotate_left
  · simp only [hmy] at hc27
    have hd : dataK ((i : Int) + 1) = true := by rw [← t3]; exact decide_eq_true (by rw [hlg, hc27])
    rw [hd, if_pos rfl]
    refine cw_seq ?_
    refine cw_region ?_
    refine ow_val rfl rfl (v_move rfl) ?_
    refine ow_val rfl rfl (v_len rfl Try.underlying177 rfl) ?_
    refine ow_val rfl rfl (v_sub rfl rfl (nw_i64 (by omega) (by omega))) ?_
    refine ow_val rfl rfl (v_assign rfl) ?_
    refine ow_val rfl rfl (v_assign rfl) ?_
    refine ow_nil ?_
    refine xw_then ?_
    refine cw_ret ?_
    refine xw_then_ret ?_
    refine ret2 rfl (res_tmp rfl) (res_tmp rfl) ?_
    have h9 : ((m + 1 : Nat) : Int) - 2 = (m : Int) - 1 := by omega
    exact ⟨by rw [h9], (by first | exact Cov.refl _ | (intro p; simp only [List.flatten_cons, List.flatten_nil, List.flatten_append, List.append_nil, List.nil_append, cnt_append, cnt_cons, cnt_nil, List.set_cons_zero, List.set_cons_succ, List.length_nil, List.length_cons, Nat.zero_add, List.append]; omega))⟩
  · simp only [hmy] at hc27
    have hd : dataK ((i : Int) + 1) = false := by rw [← t3]; exact decide_eq_false (by rw [hlg]; intro h; exact hc27 (Option.some.inj h))
    rw [hd, if_neg (by decide)]
    exact ⟨by rw [hmx, Int.sub_zero], (by first | exact Cov.refl _ | (intro p; simp only [List.flatten_cons, List.flatten_nil, List.flatten_append, List.append_nil, List.nil_append, cnt_append, cnt_cons, cnt_nil, List.set_cons_zero, List.set_cons_succ, List.length_nil, List.length_cons, Nat.zero_add, List.append]; omega))⟩

theorem evLight_c {B : Nat} {w0 : World} {G : List Hp} {ao : Option Addr} {n cap : Nat} {l : List EvE} (hV : Vw enEv (St B w0 G) (.slice ao n cap) l) (hn : l.length ≤ 9223372036854775807) :
    Go.Sl.Fn Try.prog 26 #[.slice ao n cap] B w0 G fun u G' => ∃ b : Bool, u = .bool b ∧ (b = true → l.length ≤ 60 ∧ ∀ e ∈ l, e.m.n.length ≤ 30 ∧ e.m.d.length ≤ 100) ∧ G' = G := by
  refine Fn.val (V := fun b : Bool => .bool b) ?_
  have hl := hV.len
  subst hl
  refine fn_enter Try.func26 rfl (by kernel_rfl) Try.ntmps26 (by simp) ?_
  refine cw_seq ?_
  refine cw_region ?_
  refine ow_val rfl rfl (v_assign rfl) ?_
  refine ow_nil ?_
  refine xw_then ?_
  refine cw_seq ?_
  refine cw_seq ?_
  refine cw_region ?_
  refine ow_val rfl rfl (v_move rfl) ?_
  refine ow_val rfl rfl (v_len rfl Try.underlying57 rfl) ?_
  refine ow_val rfl rfl (v_move rfl) ?_
  refine ow_nil ?_
  refine xw_then ?_
  refine cw_block ?_
  refine cw_loop2 (ι := (Nat)) [(0, _), (5, _), (6, _)] ⟨rfl, rfl, rfl, trivial⟩ ((fun j => [(7, .int .i64 j)])) ((fun j => j ≤ l.length ∧ ∀ i (h : i < l.length), i < j → l[i].m.n.length ≤ 30 ∧ l[i].m.d.length ≤ 100)) ((fun j => l.length - j)) ((fun _ => G)) (0) (by repeat (first | exact True.intro | refine And.intro rfl ?_)) (by first | exact Cov.refl _ | (intro p; simp only [List.flatten_cons, List.flatten_nil, List.flatten_append, List.append_nil, List.nil_append, cnt_append, cnt_cons, cnt_nil, List.set_cons_zero, List.set_cons_succ, List.length_nil, List.length_cons, Nat.zero_add, List.append]; omega)) ?_ ?_
  · exact ⟨Nat.zero_le _, fun i h h0 => absurd h0 (Nat.not_lt_zero i)⟩
  rintro j ⟨hj, hall⟩
  refine cw_seq ?_
  refine cw_region ?_
  refine ow_val rfl rfl (v_lss rfl rfl) ?_
  refine ow_nil ?_
  refine xw_then ?_
  refine cw_seq ?_
  refine cw_dec rfl (fun hc8 => ?_) (fun hc8 => ?_)
  refine cw_skip ?_
  refine xw_then ?_
  rotate_left
  refine cw_exit ?_
  refine xw_then_exit ?_
  refine xw_round_exit ?_
  refine xw_block_exit ?_
  refine xw_then ?_
  refine cw_seq ?_
  refine cw_region ?_
  refine ow_val rfl rfl (v_move rfl) ?_
  refine ow_val rfl rfl (v_len rfl Try.underlying57 rfl) ?_
  refine ow_val rfl rfl (v_leq rfl rfl) ?_
  refine ow_val rfl rfl (v_assign rfl) ?_
  refine ow_nil ?_
  refine xw_then ?_
  refine cw_ret ?_
  refine ret1 rfl (res_tmp rfl) ?_
  rotate_left
  · have hj2 : j < l.length := by omega
    have hok := hV.ok _ (List.getElem_mem hj2)
    have hlen : ((l[j]).m.cells (l[j]).p).length = 4 := rfl
    have hone : ∀ u ∈ (l[j]).m.cells (l[j]).p, u.oneCell' = true := EvM.cells_one
    have hb1 := hok.ln
    have hb2 := hok.ld
    refine cw_seq ?_
    refine cw_block ?_
    refine cw_seq ?_
    refine cw_region ?_
    refine ow_val rfl rfl (v_indexAddr_vw Try.underlying57 (evTy) rfl rfl (by assumption) rfl (by omega)) ?_
    refine ow_val rfl rfl (v_load rfl (Go.Sl.Vw.var (evTy) (hV.cov (by first | exact Cov.refl _ | (intro p; simp only [List.flatten_cons, List.flatten_nil, List.flatten_append, List.append_nil, List.nil_append, cnt_append, cnt_cons, cnt_nil, List.set_cons_zero, List.set_cons_succ, List.length_nil, List.length_cons, Nat.zero_add, List.append]; omega))) (by omega))) ?_
    (refine ow_alloc rfl rfl Ty.ze62 ?_; intro b4)
    refine ow_storeE rfl (evTy) rfl rfl .here (by first | rfl | assumption) (by assumption) ?_
    refine ow_nil ?_
    refine xw_then ?_
    refine cw_seq ?_
    refine cw_region ?_
    refine ow_val rfl rfl (v_fieldAddr0 Ty.fd62_2 rfl) ?_
    refine ow_val rfl rfl (v_load rfl (Var.at1 Ty.sc60 .here (GetN.lit rfl))) ?_
    refine ow_val rfl rfl (v_len rfl Try.underlying60 rfl) ?_
    refine ow_val rfl rfl (v_gtr rfl rfl) ?_
    refine ow_val rfl rfl (v_move rfl) ?_
    refine ow_dec 15 rfl (fun hc15 => ?_) (fun hc15 => ?_)
    refine ow_skip rfl rfl ?_
    refine ow_skip rfl rfl ?_
    refine ow_skip rfl rfl ?_
    refine ow_skip rfl rfl ?_
    refine ow_val rfl rfl (v_pick_true rfl rfl) ?_
    refine ow_nil ?_
    refine xw_then ?_
    refine cw_true rfl ?_
    refine cw_seq ?_
    refine cw_region ?_
    refine ow_val rfl rfl (v_assign rfl) ?_
    refine ow_nil ?_
    refine xw_then ?_
    refine cw_ret ?_
    refine xw_block_ret ?_
    refine xw_then_ret ?_
    refine xw_round_ret ?_
    refine xw_block_ret ?_
    refine xw_then_ret ?_
    refine ret1 rfl (res_tmp rfl) ?_
    rotate_left
    refine ow_val rfl rfl (v_fieldAddr0 Ty.fd62_3 rfl) ?_
    refine ow_val rfl rfl (v_load rfl (Var.at1 Ty.sc23 .here (GetN.lit rfl))) ?_
    refine ow_val rfl rfl (v_len rfl Try.underlying23 rfl) ?_
    refine ow_val rfl rfl (v_gtr rfl rfl) ?_
    refine ow_val rfl rfl (v_pick_false rfl rfl) ?_
    refine ow_nil ?_
    refine xw_then ?_
    refine cw_dec rfl (fun hc20 => ?_) (fun hc20 => ?_)
    refine cw_seq ?_
    refine cw_region ?_
    refine ow_val rfl rfl (v_assign rfl) ?_
    refine ow_nil ?_
    refine xw_then ?_
    refine cw_ret ?_
    refine xw_block_ret ?_
    refine xw_then_ret ?_
    refine xw_round_ret ?_
    refine xw_block_ret ?_
    refine xw_then_ret ?_
    refine ret1 rfl (res_tmp rfl) ?_
    rotate_left
    refine cw_skip ?_
    refine xw_block ?_
    refine xw_then ?_
    refine cw_region ?_
    refine ow_val rfl rfl (v_add rfl rfl (nw_i64 (by omega) (by omega))) ?_
    refine ow_val rfl rfl (v_move rfl) ?_
    refine ow_nil ?_
    rotate_left
    · exact ⟨false, rfl, (fun h => by cases h), (by first | exact Cov.refl _ | (intro p; simp only [List.flatten_cons, List.flatten_nil, List.flatten_append, List.append_nil, List.nil_append, cnt_append, cnt_cons, cnt_nil, List.set_cons_zero, List.set_cons_succ, List.length_nil, List.length_cons, Nat.zero_add, List.append]; omega))⟩
    · exact ⟨false, rfl, (fun h => by cases h), (by first | exact Cov.refl _ | (intro p; simp only [List.flatten_cons, List.flatten_nil, List.flatten_append, List.append_nil, List.nil_append, cnt_append, cnt_cons, cnt_nil, List.set_cons_zero, List.set_cons_succ, List.length_nil, List.length_cons, Nat.zero_add, List.append]; omega))⟩
    · refine xw_round (j + 1) ⟨by omega, fun i h hi => ?_⟩ (by omega) (by first | exact Cov.refl _ | (intro p; simp only [List.flatten_cons, List.flatten_nil, List.flatten_append, List.append_nil, List.nil_append, cnt_append, cnt_cons, cnt_nil, List.set_cons_zero, List.set_cons_succ, List.length_nil, List.length_cons, Nat.zero_add, List.append]; omega)) (by repeat (first | exact True.intro | refine And.intro rfl ?_))
      by_cases hij : i = j
      · subst hij
        exact ⟨by omega, by omega⟩
      · exact hall i h (by omega)
  · refine ⟨_, rfl, (fun h => ⟨by have := of_decide_eq_true h; omega, fun e he => ?_⟩), (by first | exact Cov.refl _ | (intro p; simp only [List.flatten_cons, List.flatten_nil, List.flatten_append, List.append_nil, List.nil_append, cnt_append, cnt_cons, cnt_nil, List.set_cons_zero, List.set_cons_succ, List.length_nil, List.length_cons, Nat.zero_add, List.append]; omega))⟩
    obtain ⟨i, hi, rfl⟩ := List.getElem_of_mem he
    exact hall i hi (by omega)
end Go.Proofs.Ytckdhelnafjddaa
