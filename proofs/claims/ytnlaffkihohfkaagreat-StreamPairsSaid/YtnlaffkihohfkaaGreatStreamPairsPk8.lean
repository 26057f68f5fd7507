/- Two sets of streams: all is right. Conditions: what holds of both sides holds. Two sets of streams: how they begin; a fixed fact; are acts short? Conditions: numbers are small. Two sets of streams: how they begin, in memory; a fixed fact; are acts short? Conditions: numbers are small. Streams: a fixed fact; are acts short? Conditions: none. -/
import Derived.Test.YtnlaffkihohfkaaGreatStreamPairsPk7
set_option maxRecDepth 20000
set_option linter.unusedVariables false
set_option linter.unusedSimpArgs false
namespace Go.Proofs.YtnlaffkihohfkaaGreat
open Go Go.Sl Go.Proofs
variable {B : Nat} {w0 : World} {G : List Hp} {R : Hp → List Hp}
def sumL (f : Int → Int) : List Int → Int
  | [] => 0
  | a :: l => f a + sumL f l
theorem sumL_perm {f : Int → Int} {l m : List Int} (h : l.Perm m) : sumL f l = sumL f m := by
  induction h with
  | nil => rfl
  | cons a _ ih => simp only [sumL]; omega
  | swap a b l => simp only [sumL]; omega
  | trans _ _ i1 i2 => omega
theorem sumL_app {f : Int → Int} {l m : List Int} : sumL f (l ++ m) = sumL f l + sumL f m := by
  induction l with
  | nil => simp [sumL]
  | cons a l ih => simp only [List.cons_append, sumL, ih]; omega
/-- all that is somewhere is in the list -/
theorem sumL_all {f : Int → Int} {l : List Int} {n : Nat} (hn : l.Nodup) (hl : ∀ i ∈ l, 0 ≤ i ∧ i < n) (hz : ∀ i : Int, 0 ≤ i → i < n → i ∉ l → f i = 0) : sumL f l = sumTo f n := by
  have key : ∀ (l : List Int), l.Nodup → (∀ i ∈ l, 0 ≤ i ∧ i < n) → sumL f l = sumTo (fun i => if i ∈ l then f i else 0) n := by
    intro l
    induction l with
    | nil => intro _ _; rw [sumTo_zero (f := fun i => if i ∈ ([] : List Int) then f i else 0) fun i _ _ => by simp]; rfl
    | cons a l ih =>
      intro hn hl
      obtain ⟨h1, h2⟩ := List.nodup_cons.1 hn
      have hu := sumTo_upd (f := fun i => if i ∈ l then f i else 0) (g := fun i => if i ∈ a :: l then f i else 0) (n := n) (hl a (List.mem_cons_self ..)).1 (hl a (List.mem_cons_self ..)).2 fun i hi => by
        by_cases hil : i ∈ l
        · rw [if_pos hil, if_pos (List.mem_cons_of_mem _ hil)]
        · rw [if_neg hil, if_neg (fun h => by rcases List.mem_cons.1 h with h | h; exact hi h; exact hil h)]
      rw [hu, if_pos (List.mem_cons_self ..), if_neg h1]
      have := ih h2 fun i hi => hl i (List.mem_cons_of_mem _ hi)
      simp only [sumL]
      omega
  rw [key l hn hl]
  refine sumTo_congr fun i h0 h1 => ?_
  by_cases hi : i ∈ l
  · rw [if_pos hi]
  · rw [if_neg hi, hz i h0 h1 hi]
theorem idsK_nd {cl m : Bool} {k : Int} {n : Nat} (hk : k = 0 ∨ k = 1) : (idsK cl m k n).Nodup := by
  unfold idsK
  rw [List.Nodup, List.pairwise_map]
  refine (List.nodup_range (n := n)).imp fun {a b} hne h => hne ?_
  have := congrArg cnI h
  rw [idOf_cn hk, idOf_cn hk] at this
  omega
theorem ids_nd {A : SdM} : A.ids.Nodup := by
  have key : ∀ k, (k = 0 ∨ k = 1) → (A.idsOf k).Nodup ∧ ∀ x ∈ A.idsOf k, kdI x = k := fun k hk => by
    refine ⟨List.nodup_append.2 ⟨idsK_nd hk, idsK_nd hk, fun a ha b hb hab => ?_⟩, fun x hx => ?_⟩
    · unfold idsK at ha hb
      obtain ⟨n, _, rfl⟩ := List.mem_map.1 ha
      obtain ⟨m, _, hm⟩ := List.mem_map.1 hb
      have h1 : A.mine (idOf A.cl true k n) = true := SdM.mine_idOf
      rw [hab, ← hm, SdM.mine_idOf] at h1
      cases h1
    · rcases List.mem_append.1 hx with hx | hx <;>
      · unfold idsK at hx
        obtain ⟨n, _, rfl⟩ := List.mem_map.1 hx
        exact idOf_kd hk
  refine List.nodup_append.2 ⟨(key 0 (.inl rfl)).1, (key 1 (.inr rfl)).1, fun a ha b hb hab => ?_⟩
  have h1 := (key 0 (.inl rfl)).2 a ha
  have h2 := (key 1 (.inr rfl)).2 b hb
  rw [hab] at h1
  omega
/-- what isn't there is as new -/
theorem AsAt.fresh {A : SdM} {b : Nat} {c : Hp} (h : AsAt A b c) {id : Int} (hh : ¬ A.has id) : ∃ M : SsM, M.abs = A ∧ M.WF ∧ A.x id = M.fresh id (M.granted id) := by
  obtain ⟨M, ps, hM, hw, rfl⟩ := h
  refine ⟨M, rfl, hw, ?_⟩
  show M.at id = _
  cases hx : idxS M.str id with
  | none => exact SsM.at_none hx
  | some i =>
    obtain ⟨h1, h2⟩ := SsM.at_idx hx
    have h3 := hw.ex _ (List.mem_of_getElem? h1)
    rw [h2] at h3
    exact absurd ⟨h3.2.1, h3.2.2⟩ hh
theorem AsAt.zero {A : SdM} {b : Nat} {c : Hp} (h : AsAt A b c) {id : Int} (hh : ¬ A.has id) : (A.x id).giv.used = 0 := by
  obtain ⟨M, _, _, e⟩ := h.fresh hh
  rw [e]
  unfold SsM.fresh
  dsimp only
  split <;> rfl
theorem Inv.sum_used {P : PrM} {D one many : Int} {n : Nat} {i : Bool} {b : Nat} {c : Hp} {l : List Int} (h : Inv P D one many n) (hA : AsAt (P.s i) b c) (hl : l.Perm (P.s i).ids) : sumL (fun id => ((P.s i).x id).giv.used) l = (P.s i).giv.used := by
  rw [sumL_perm hl, h.vu i]
  exact sumL_all ids_nd (fun j hj => h.has_lt (SdM.ids_has.1 hj)) fun j _ _ hj => hA.zero fun hh => hj (SdM.ids_has.2 hh)
theorem AsAtM.streamR {A : SdM} {id : Int} {q b : Nat} {c : Hp} {G : List Hp} (h : AsAtM A id q b c) (hs : Sub c G) : ∃ cx, Sub cx G ∧ SmAt (A.x id) q cx := by
  obtain ⟨cx, cr, h1, h2, _⟩ := h.stream
  exact ⟨cx, fun z hz => hs z (cnt_pos (by have := mem_cnt' hz; have := h1 z; omega)), h2⟩
theorem asCounts_c {A : SdM} {b : Nat} {c : Hp} {k : Int} (hA : AsAt A b c) (hs : Sub c G) (hk : k = 0 ∨ k = 1) :
    Go.Sl.Fn Tryz.prog 34 #[.pointer (some ⟨b, 0, none⟩), .int .i64 k] B w0 G fun u G' => u = .tuple #[.int .u64 (A.kn k).op, .int .u64 (A.kn k).may, .int .u64 (A.kn k).came, .int .u64 (A.kn k).giv] ∧ G' = G := by
  obtain ⟨M, ps, hM, hw, rfl⟩ := hA
  exact counts_c hM hs hk
theorem Dir.right {x y : SmM} {W Rd : List UInt8} {E : Bool} (h : Dir x y W Rd E) : Rd.length ≤ W.length ∧ Rd = W.take Rd.length ∧ (E = true → Rd.length = W.length) := by
  rcases h with ⟨k, r, f, h⟩ | ⟨r, h⟩ | ⟨k, r, f, h⟩ | h
  · have h1 : Rd.length = r := by rw [h.rd, List.length_take]; have := h.hk; have := h.hr; omega
    rw [h1, h.en]
    exact ⟨by have := h.hk; have := h.hr; omega, h.rd, fun e => by cases e⟩
  · have h1 : Rd.length = r := by rw [h.rd, List.length_take]; have := h.hr; omega
    rw [h1]
    refine ⟨h.hr, h.rd, fun e => ?_⟩
    rcases h.rv with ⟨_, e2⟩ | ⟨_, _, e2⟩
    · rw [e] at e2; cases e2
    · exact e2
  · have h1 : Rd.length = r := by rw [h.rd, List.length_take]; have := h.hk; have := h.hr; omega
    rw [h1, h.en]
    exact ⟨by have := h.hk; have := h.hr; omega, h.rd, fun e => by cases e⟩
  · rw [h.rd, h.en]
    exact ⟨by simp, by simp, fun e => by cases e⟩
theorem Dir.places {x y : SmM} {W Rd : List UInt8} {E : Bool} (h : Dir x y W Rd E) : x.base ≤ x.wrote ∧ x.wrote = W.length ∧ 0 ≤ x.base := by
  have key : ∀ (k : Nat) (f e : Bool), k ≤ W.length → x.out = some (bufG W k f e) → x.base ≤ x.wrote ∧ x.wrote = W.length ∧ 0 ≤ x.base := fun k f e hk ho => by
    have e1 : x.base = k := by unfold SmM.base; rw [ho]; rfl
    have e2 : x.wrote = W.length := by
      unfold SmM.wrote
      rw [ho]
      show (k : Int) + ((W.drop k).length : Int) = _
      rw [List.length_drop]; omega
    rw [e1, e2]; omega
  rcases h with ⟨k, r, f, h⟩ | ⟨r, h⟩ | ⟨k, r, f, h⟩ | h
  · exact key k f false h.hk h.out
  · exact key _ true true (Nat.le_refl _) h.out
  · exact key k f false h.hk h.out
  · have e1 : x.base = 0 := by unfold SmM.base; rw [h.out]; rfl
    have e2 : x.wrote = 0 := by unfold SmM.wrote; rw [h.out]; rfl
    rw [e1, e2, h.w]; simp
theorem SmM.WF.read_high {x : SmM} (h : x.WF) : x.read ≤ x.high := by
  unfold SmM.read SmM.high
  cases hi : x.inn with
  | none => exact Int.le_refl _
  | some m => exact (h.inn m hi).rd.2.1
structure RtS where
  j : Nat
  c : Hp
structure RtI where
  m : Nat
  z : Int
  a : Hp
set_option maxHeartbeats 8000000 in
theorem right_c {P : PrM} {p : PrP} {b n : Nat} {c : Hp} {D one many : Int} (hsel : Sel G c R) (hP : PrAt P p b c) (h : Inv P D one many n) :
    Go.Sl.Fn Tryz.prog 10 #[.pointer (some ⟨b, 0, none⟩)] B w0 G fun u G' => ∃ c' : Hp, u = .bool true ∧ PrAt P p b c' ∧ G' = R c' := by
  refine Fn.sel0 hsel fun F hR hF => ?_
  refine fn_enter Tryz.func10 rfl (by kernel_rfl) Tryz.ntmps10 (by simp) ?_
  obtain ⟨C, hC, rfl⟩ := hP
  have hs1 : ∀ G, Sub [(b, Obj.cells p.cells.toArray 42 (0, 0))] (C.all p b :: G) := fun G => by unfold PrC.all; exact Sub.here.left
  have hs2 := hs1 F
  refine qs <| qa <| qt <| cw_seq <| qs <| qm <| qn ?_
  refine qf Ty.fd42_4 ?_
  refine ql (Var.get1 Ty.sc4 .here (.head _) (GetN.lit rfl)) ?_
  refine qv (v_not_true rfl) <| qt ?_
  refine cw_false rfl ?_
  refine cw_skip <| xw_then <| cw_seq <| qs <| qm <| qt ?_
  refine cw_block ?_
  refine cw_loop2 (ι := (RtS)) [(0, _), (24, _)] ⟨rfl, rfl, trivial⟩ ((fun x => [(28, .int .i64 x.j)])) ((fun x => x.j ≤ 2 ∧ PrAt P p b x.c)) ((fun x => 2 - x.j)) ((fun x => x.c :: F)) ((⟨0, C.all p b⟩ : RtS)) zenv zcov ?_ ?_
  · exact ⟨Nat.zero_le _, ⟨C, hC, rfl⟩⟩
  clear hs1 hs2 hC
  rintro ⟨j, c⟩ ⟨hj, hPr⟩
  dsimp only at hj hPr ⊢
  refine qs ?_
  refine qv (v_lss rfl rfl) <| qt <| cw_seq ?_
  refine cw_dec rfl (fun hc29 => ?_) (fun hc29 => ?_)
  refine cw_skip <| xw_then ?_
  rotate_left
  refine cw_exit ?_
  refine xw_then_exit ?_
  refine xw_round_exit ?_
  refine xw_block_exit <| xw_then <| qs <| qa <| qt ?_
  refine cw_ret ?_
  refine ret1 rfl (res_tmp rfl) ?_
  rotate_left
  · obtain ⟨C, hC, rfl⟩ := hPr
    obtain ⟨i, hi⟩ : ∃ i : Bool, (j : Int) = iv i := by
      have : j = 0 ∨ j = 1 := by omega
      rcases this with rfl | rfl
      · exact ⟨false, rfl⟩
      · exact ⟨true, rfl⟩
    have hiv := iv_b i
    have hcn := PrC.cnt_ (C := C) (p := p) (b := b) i
    rw [hi]
    refine cw_cov ([(b, .cells p.cells.toArray 42 (0, 0))] :: C.s i :: C.s (!i) :: C.w i :: C.w (!i) :: C.r i :: C.r (!i) :: C.e i :: C.e (!i) :: F) (zcv1 hcn) ?_
    obtain ⟨m, cm, hsm, hMV, hm⟩ := (hC.r i).range (G := [(b, .cells p.cells.toArray 42 (0, 0))] :: C.s i :: C.s (!i) :: C.w i :: C.w (!i) :: C.r i :: C.r (!i) :: C.e i :: C.e (!i) :: F) zhas
    refine cw_seq ?_
    refine cw_block <| qs <| qm <| qa <| qt <| cw_seq <| qs <| qm <| qm <| qn ?_
    refine qf Ty.fd42_2 ?_
    refine qv (v_indexAddrA Tryz.underlying38 Ty.el38 rfl rfl (Int.toNat_of_nonneg zom).symm zom) ?_
    refine ql (Var.at1 Ty.sc37 .here (PrP.gr)) ?_
    refine ow_range (kd := .u64) rfl rfl Tryz.underlying37 rfl hsm hMV ?_
    intro br ci hIt
    refine qt ?_
    refine cw_block ?_
    refine cw_loop2 (ι := ((Option (Int × Value) × List (Int × Value) × Hp))) [(0, _), (3, _), (24, _), (28, _), (37, _)] ⟨rfl, rfl, rfl, rfl, rfl, trivial⟩ ((fun x => [])) ((fun x => ItAt .u64 (.map (some (p.r i))) cm br x.1 x.2.1 x.2.2 ∧ ∀ q ∈ x.2.1, q ∈ m)) ((fun x => x.2.1.length)) ((fun x => x.2.2 :: [(b, .cells p.cells.toArray 42 (0, 0))] :: C.s i :: C.s (!i) :: C.w i :: C.w (!i) :: C.r i :: C.r (!i) :: C.e i :: C.e (!i) :: F)) (((none, m, ci) : Option (Int × Value) × List (Int × Value) × Hp)) zenv zcov ?_ ?_
    · exact ⟨hIt, fun q hq => hq⟩
    rintro ⟨cur, rem, c1⟩ ⟨i1, i2⟩
    dsimp only at i1 i2 ⊢
    refine qs ?_
    refine ow_next (kd := .u64) rfl rfl rfl .here (hsm.there) i1 ?_ ?_
    · intro h0
      refine qv (v_extract rfl rfl) <| qt <| cw_seq ?_
      refine cw_false rfl ?_
      refine cw_exit ?_
      refine xw_then_exit ?_
      refine xw_round_exit ?_
      refine xw_block_exit <| xw_then <| qs <| qm <| qm ?_
      refine qn ?_
      refine qf Ty.fd42_0 ?_
      refine qv (v_indexAddrA Tryz.underlying36 Ty.el36 rfl rfl (Int.toNat_of_nonneg zom).symm zom) ?_
      refine ql (Var.at1 Ty.sc35 (.there .here) (PrP.gs)) <| qa <| qt <| qs <| qa <| qt <| cw_seq <| qs <| qm ?_
      (refine ow_call rfl rfl rfl rfl (asList_c (hC.s i) zhas (h.kn_b i)) ?_; rintro _ _ ⟨x91, rfl, hq91, rfl⟩)
      refine qv (v_len rfl Tryz.underlying34 rfl) <| qm <| qt ?_
      refine cw_block ?_
      obtain ⟨l, lo, lc, cl⟩ := x91
      obtain ⟨hPm, hL⟩ := hq91
      dsimp only at hPm hL ⊢
      have hll : l.length ≤ 4000 := by
        have h0 := h.kn_b i 0 (.inl rfl)
        have h1 := h.kn_b i 1 (.inr rfl)
        rw [hPm.length_eq]
        unfold SdM.ids SdM.idsOf
        simp only [List.length_append, idsK_len]
        omega
      have hsum := h.sum_used (hC.s i) hPm
      have hlim := (h.dir i 0 (Int.le_refl _))
      refine cw_loop2 (ι := (RtI)) [(0, _), (3, _), (7, _), (24, _), (28, _), (91, _), (92, _)] ⟨rfl, rfl, rfl, rfl, rfl, rfl, rfl, trivial⟩ ((fun x => [(8, .int .u64 x.z), (93, .int .i64 x.m)])) ((fun x => x.m ≤ l.length ∧ x.z = sumL (fun id => ((P.s i).x id).giv.used) (l.take x.m) ∧ (0 ≤ x.z ∧ x.z ≤ 60000 * x.m) ∧ AsAt (P.s i) (p.s i) x.a)) ((fun x => l.length - x.m)) ((fun x => cl :: [(b, .cells p.cells.toArray 42 (0, 0))] :: x.a :: C.s (!i) :: C.w i :: C.w (!i) :: C.r i :: C.r (!i) :: C.e i :: C.e (!i) :: F)) ((⟨0, 0, C.s i⟩ : RtI)) zenv zcov ?_ ?_
      · exact ⟨Nat.zero_le _, by rw [List.take_zero]; rfl, by dsimp only; omega, hC.s i⟩
      rintro ⟨m2, z, a⟩ ⟨hm2, hz, hzb, hA⟩
      dsimp only at hm2 hz hzb hA ⊢
      refine qs ?_
      refine qv (v_lss rfl rfl) <| qt <| cw_seq ?_
      refine cw_dec rfl (fun hc94 => ?_) (fun hc94 => ?_)
      refine cw_skip <| xw_then ?_
      rotate_left
      refine cw_exit ?_
      refine xw_then_exit ?_
      refine xw_round_exit ?_
      refine xw_block_exit <| xw_then ?_
      rotate_left
      · have hm3 : m2 < l.length := by omega
        have hhas : (P.s i).has l[m2] := SdM.ids_has.1 (hPm.mem_iff.1 (List.getElem_mem hm3))
        obtain ⟨i0, i1⟩ := h.has_lt hhas
        have hNS : (NS : Int) = 400 := rfl
        have hidb : 0 ≤ l[m2] ∧ l[m2] ≤ 18446744073709551615 := ⟨i0, by omega⟩
        have hxw := hA.wf_x hidb
        have hokm : enQ.ok l[m2] := hidb
        obtain ⟨u1, u2, u3, u4, _⟩ := (h.dir i l[m2] i0).used
        obtain ⟨v1, v2, v3, v4, v5⟩ := (h.dir' i i0).used
        obtain ⟨w1, w2, w3⟩ := (h.dir i l[m2] i0).places
        have hrh := hxw.1.read_high
        have hW := h.wl60 (a := !i) hhas
        have o1 := ((P.s i).x l[m2]).giv.one
        have o2 := ((P.s i).x l[m2]).got.one
        have ln1 : ((P.s i).x l[m2]).giv.cells.length = 5 := rfl
        have ln2 : ((P.s i).x l[m2]).got.cells.length = 3 := rfl
        refine cw_seq ?_
        refine cw_block <| qs ?_
        refine ow_val rfl rfl (v_indexAddr_ls Tryz.underlying34 (qTy) rfl rfl zas rfl zom) ?_
        refine ql (Go.Sl.Vw.var (qTy) ((Go.Sl.Ls.vw hL zhas)) zom) <| qa <| qt <| qs <| qm <| qm ?_
        (refine ow_call rfl rfl rfl rfl (asGet_c zsel hA hidb hhas) ?_; rintro _ _ ⟨x99, rfl, hq99, rfl⟩)
        refine qa <| qt ?_
        obtain ⟨qb, a5⟩ := x99
        dsimp only at hq99 ⊢
        obtain ⟨cx, hsx, hSm⟩ := hq99.streamR (G := cl :: [(b, .cells p.cells.toArray 42 (0, 0))] :: a5 :: C.s (!i) :: C.w i :: C.w (!i) :: C.r i :: C.r (!i) :: C.e i :: C.e (!i) :: F) zhas
        refine qs <| qm ?_
        refine qv (v_call rfl rfl (smCredits_c hsx hSm)) <| qm ?_
        refine qv (v_extract rfl rfl) ?_
        refine qv (v_extract rfl rfl) ?_
        refine ow_alloc rfl rfl Ty.ze51 fun b12 => ?_
        refine ow_alloc rfl rfl Ty.ze53 fun b13 => ?_
        refine ow_storeN rfl rfl rfl Ty.ag51 zra zao (.there .here) (SetN.all zsa) ?_
        refine ow_storeN rfl rfl rfl Ty.ag53 zra zao .here (SetN.all zsa) ?_
        refine qt <| qs <| qm ?_
        refine qv (v_call rfl rfl (smPlaces_c hsx.there.there hSm hxw.1)) <| qm ?_
        refine qv (v_extract rfl rfl) ?_
        refine qv (v_extract rfl rfl) ?_
        refine qv (v_extract rfl rfl) ?_
        refine qv (v_extract rfl rfl) <| qa <| qa <| qa ?_
        refine qa <| qt <| cw_seq <| qs ?_
        refine qf Ty.fd51_1 ?_
        refine ql (Var.at1 Ty.sc27 (.there .here) (GetN.lit rfl)) ?_
        refine qf Ty.fd51_0 ?_
        refine ql (Var.at1 Ty.sc27 (.there .here) (GetN.lit rfl)) ?_
        refine qv (v_gtr rfl rfl) <| qm ?_
        refine ow_dec 117 rfl (fun hc117 => ?_) (fun hc117 => ?_)
        (exfalso; omega)
        refine qf Ty.fd53_1 ?_
        refine ql (Var.at1 Ty.sc27 .here (GetN.lit rfl)) ?_
        refine qf Ty.fd53_0 ?_
        refine ql (Var.at1 Ty.sc27 .here (GetN.lit rfl)) ?_
        refine qv (v_gtr rfl rfl) ?_
        refine qv (v_pick_false rfl rfl) <| qm ?_
        refine ow_dec 124 rfl (fun hc124 => ?_) (fun hc124 => ?_)
        (exfalso; omega)
        refine qm <| qm ?_
        refine qv (v_gtr rfl rfl) ?_
        refine qv (v_pick_false rfl rfl) <| qm ?_
        refine ow_dec 129 rfl (fun hc129 => ?_) (fun hc129 => ?_)
        (exfalso; omega)
        refine qm <| qm ?_
        refine qv (v_gtr rfl rfl) ?_
        refine qv (v_pick_false rfl rfl) <| qm ?_
        refine ow_dec 134 rfl (fun hc134 => ?_) (fun hc134 => ?_)
        (exfalso; omega)
        refine qf Ty.fd53_1 ?_
        refine ql (Var.at1 Ty.sc27 .here (GetN.lit rfl)) <| qm ?_
        refine qv (v_gtr rfl rfl) ?_
        refine qv (v_pick_false rfl rfl) <| qt ?_
        refine cw_dec rfl (fun hc139 => ?_) (fun hc139 => ?_)
        (exfalso; omega)
        refine cw_skip <| xw_then <| cw_region <| qm ?_
        refine qf Ty.fd51_1 ?_
        refine ql (Var.at1 Ty.sc27 (.there .here) (GetN.lit rfl)) ?_
        refine qv (v_add rfl rfl (nw_u64 zom zom)) <| qa <| ow_nil ?_
        refine xw_block <| xw_then <| cw_region ?_
        refine qv (v_add rfl rfl (nw_i64 zom zom)) <| qm <| ow_nil ?_
        refine xw_round (⟨m2 + 1, z + ((P.s i).x l[m2]).giv.used, a5⟩ : RtI) ⟨by dsimp only; omega, ?_, by dsimp only; omega, hq99.as⟩ zdo zcov zenv
        dsimp only
        rw [List.take_succ_eq_append_getElem hm3, sumL_app, hz]
        simp only [sumL]
        omega
      · have hm3 : m2 = l.length := by omega
        rw [hm3, List.take_length] at hz
        have hzz : z = (P.s i).giv.used := hz.trans hsum
        have hcr1 := h.cr i
        have hcr2 := h.cr' i
        have ca := hcr1.a; have cb := hcr2.a; have cc := hcr2.b; have cd := hcr2.c; have ce := hcr2.f
        obtain ⟨M, pp, hsM, hMw, hMa⟩ := hA.look (G := cl :: [(b, .cells p.cells.toArray 42 (0, 0))] :: a :: C.s (!i) :: C.w i :: C.w (!i) :: C.r i :: C.r (!i) :: C.e i :: C.e (!i) :: F) zhas
        have f1 : M.giv.used = z := by rw [hzz, ← hMa]; rfl
        have f2 : M.giv.used ≤ M.giv.lim := by
          have : M.abs.giv.used ≤ M.abs.giv.lim := by rw [hMa]; omega
          exact this
        have f3 : M.got.used ≤ M.got.lim := by
          have : M.abs.got.used ≤ M.abs.got.lim := by rw [hMa]; omega
          exact this
        refine cw_seq <| cw_seq ?_
        refine cw_quiet Ty.mixed zdk ?_
        refine kmv ?_
        refine kmv ?_
        refine kv (v_nilCheck rfl) ?_
        refine kv (v_fieldAddr0 Ty.fd73_0 rfl) ?_
        refine kv (v_fieldAddr0 Ty.fd51_1 rfl) ?_
        refine kv (v_load rfl (Var.sub1 Ty.sc27 zthr (.head _) (GetN.lit rfl))) ?_
        refine kv (v_neq rfl rfl) ?_
        refine kmv ?_
        refine kw_dec 152 rfl (fun hc152 => ?_) (fun hc152 => ?_)
        (exfalso; omega)
        refine kmv ?_
        refine kv (v_nilCheck rfl) ?_
        refine kv (v_fieldAddr0 Ty.fd73_0 rfl) ?_
        refine kv (v_fieldAddr0 Ty.fd51_1 rfl) ?_
        refine kv (v_load rfl (Var.sub1 Ty.sc27 zthr (.head _) (GetN.lit rfl))) ?_
        refine kmv ?_
        refine kv (v_nilCheck rfl) ?_
        refine kv (v_fieldAddr0 Ty.fd73_0 rfl) ?_
        refine kv (v_fieldAddr0 Ty.fd51_0 rfl) ?_
        refine kv (v_load rfl (Var.sub1 Ty.sc27 zthr (.head _) (GetN.lit rfl))) ?_
        refine kv (v_gtr rfl rfl) ?_
        refine kv (v_pick_false rfl rfl) ?_
        refine kmv ?_
        refine kw_dec 165 rfl (fun hc165 => ?_) (fun hc165 => ?_)
        (exfalso; omega)
        refine kmv ?_
        refine kv (v_nilCheck rfl) ?_
        refine kv (v_fieldAddr0 Ty.fd73_1 rfl) ?_
        refine kv (v_fieldAddr Ty.fd53_1 rfl) ?_
        refine kv (v_load rfl (Var.sub1 Ty.sc27 zthr (.head _) (GetN.lit rfl))) ?_
        refine kmv ?_
        refine kv (v_nilCheck rfl) ?_
        refine kv (v_fieldAddr0 Ty.fd73_1 rfl) ?_
        refine kv (v_fieldAddr Ty.fd53_0 rfl) ?_
        refine kv (v_load rfl (Var.sub1 Ty.sc27 zthr (.head _) (GetN.lit rfl))) ?_
        refine kv (v_gtr rfl rfl) ?_
        refine kv (v_pick_false rfl rfl) ?_
        refine kw_nil <| xw_then ?_
        refine cw_dec rfl (fun hc177 => ?_) (fun hc177 => ?_)
        (exfalso; omega)
        refine cw_skip <| xw_then <| qs <| qm <| qt ?_
        refine cw_block ?_
        refine cw_loop2 (ι := (Nat)) [(0, _), (3, _), (7, _), (24, _), (28, _)] ⟨rfl, rfl, rfl, rfl, rfl, trivial⟩ ((fun x => [(178, .int .i64 x)])) ((fun x => x ≤ 2)) ((fun x => 2 - x)) ((fun x => [(b, .cells p.cells.toArray 42 (0, 0))] :: a :: C.s (!i) :: C.w i :: C.w (!i) :: C.r i :: C.r (!i) :: C.e i :: C.e (!i) :: F)) ((0 : Nat)) zenv zcov ?_ ?_
        · decide
        intro k hk
        refine qs ?_
        refine qv (v_lss rfl rfl) <| qt <| cw_seq ?_
        refine cw_dec rfl (fun hc179 => ?_) (fun hc179 => ?_)
        refine cw_skip <| xw_then ?_
        rotate_left
        refine cw_exit ?_
        refine xw_then_exit ?_
        refine xw_round_exit ?_
        refine xw_block_exit ?_
        refine xw_block <| xw_then <| cw_region ?_
        refine qv (v_add rfl rfl (nw_i64 zom zom)) <| qm <| ow_nil ?_
        rotate_left
        · have hk2 : (k : Int) = 0 ∨ (k : Int) = 1 := by omega
          have q1 := h.kd i k hk2
          have q2 := h.kd (!i) k hk2
          rw [not_not_] at q2
          have q3 := q1.m; have q4 := q2.c; have q5 := q2.m; have q6 := q2.g
          refine cw_seq ?_
          refine cw_block <| qs <| qm <| qa <| qt <| qs <| qm <| qm ?_
          refine qv (v_call rfl rfl (asCounts_c hA zhas hk2)) <| qm ?_
          refine qv (v_extract rfl rfl) ?_
          refine qv (v_extract rfl rfl) ?_
          refine qv (v_extract rfl rfl) ?_
          refine qv (v_extract rfl rfl) <| qa <| qa <| qa <| qa <| qt <| qs <| qm <| qm ?_
          refine qv (v_gtr rfl rfl) ?_
          refine qm ?_
          refine ow_dec 192 rfl (fun hc192 => ?_) (fun hc192 => ?_)
          (exfalso; omega)
          refine qm <| qm ?_
          refine qv (v_gtr rfl rfl) ?_
          refine qv (v_pick_false rfl rfl) <| qt ?_
          refine cw_dec rfl (fun hc196 => ?_) (fun hc196 => ?_)
          (exfalso; omega)
          refine cw_skip ?_
          refine xw_block <| xw_then <| cw_region ?_
          refine qv (v_add rfl rfl (nw_i64 zom zom)) <| qm <| ow_nil ?_
          exact xw_round (k + 1) zom zom zcov zenv
        · have hC2 : PrC.Ok { C with s := upB C.s i a } P p := by
            have := hC.setS hA
            rwa [PrM.set2_same] at this
          have hcn2 := PrC.cnt_ (C := { C with s := upB C.s i a }) (p := p) (b := b) i
          simp only [upB_i, upB_n] at hcn2
          generalize hc2e : PrC.all { C with s := upB C.s i a } p b = c2 at hcn2
          rw [← hi]
          exact xw_round (⟨j + 1, c2⟩ : RtS) ⟨by dsimp only; omega, ⟨_, hC2, hc2e.symm⟩⟩ zdo (zcv1 hcn2) zenv
    · intro k u rem' c1' hp hI
      have hku := i2 _ (hp.mem_iff.2 (List.mem_cons_self ..))
      obtain ⟨hk0, ao, cap, ck, hu, hsk, hLk⟩ := hm _ hku
      dsimp only at hk0 hu hsk hLk
      subst hu
      have hlr := hp.length_eq
      rw [List.length_cons] at hlr
      obtain ⟨g, cw, ckw, aow, capw, hsw, hskw, hMw, hgw, hLw⟩ := (hC.w (!i)).look (G := [(b, .cells p.cells.toArray 42 (0, 0))] :: C.s i :: C.s (!i) :: C.w i :: C.w (!i) :: C.r i :: C.r (!i) :: C.e i :: C.e (!i) :: F) zhas k hk0
      obtain ⟨d1, d2, d3⟩ := (h.dir' i hk0).right
      refine qv (v_extract rfl rfl) <| qt <| cw_seq ?_
      refine cw_true rfl <| cw_skip <| xw_then ?_
      refine cw_block <| qs ?_
      refine qv (v_entry rfl .here (hsm.there) hI) ?_
      refine qv (v_extract rfl rfl) ?_
      refine qv (v_extract rfl rfl) <| qa ?_
      refine qa <| qt <| qs <| qm <| qm ?_
      refine qv (v_sub rfl rfl (nw_i64 zom zom)) <| qn ?_
      refine qf Ty.fd42_1 ?_
      refine qv (v_indexAddrA Tryz.underlying38 Ty.el38 rfl rfl (Int.toNat_of_nonneg zom).symm zom) ?_
      refine ql (Var.at1 Ty.sc37 (.there .here) (PrP.gwn)) <| qm ?_
      refine qv ((v_bytes rfl rfl (hsw.there) hMw hgw)) ?_
      refine qa <| qt ?_
      have hLk' : ∀ c, Vw enB (St B w0 (c :: [(b, .cells p.cells.toArray 42 (0, 0))] :: C.s i :: C.s (!i) :: C.w i :: C.w (!i) :: C.r i :: C.r (!i) :: C.e i :: C.e (!i) :: F)) (.slice ao (P.rd i k).length cap) (P.rd i k) := fun c => hLk.vw hsk.there
      have hLw' : ∀ c, Vw enB (St B w0 (c :: [(b, .cells p.cells.toArray 42 (0, 0))] :: C.s i :: C.s (!i) :: C.w i :: C.w (!i) :: C.r i :: C.r (!i) :: C.e i :: C.e (!i) :: F)) (.slice aow (P.rd i k).length capw) (P.rd i k) := fun c => by
        have h1 := Vw.sub1 u8Ty (hLw.vw (B := B) (w0 := w0) (hskw.there (y := c))) d1
        rw [← d2] at h1
        exact h1
      have hcapw : (P.wr (!i) k).length ≤ capw := by
        obtain ⟨ao', cap', e1, e2⟩ := hLw.view
        injection e1 with _ _ e3
        omega
      refine cw_seq ?_
      refine cw_quiet Ty.mixed zdk ?_
      refine kmv ?_
      refine kv (v_len rfl Tryz.underlying28 rfl) ?_
      refine kmv ?_
      refine kv (v_len rfl Tryz.underlying28 rfl) ?_
      refine kv (v_gtr rfl rfl) ?_
      refine kmv ?_
      refine kw_dec 57 rfl (fun hc57 => ?_) (fun hc57 => ?_)
      (exfalso; omega)
      refine kmv ?_
      refine kw_val rfl rfl (v_str Tryz.underlying9 Tryz.underlying28 Tryz.underlying5 rfl (hLk' _)) ?_
      refine kmv ?_
      refine kmv ?_
      refine kv (v_len rfl Tryz.underlying28 rfl) ?_
      refine kv (v_slice_nh Tryz.underlying28 Ty.el28 rfl rfl rfl zom) ?_
      refine kw_val rfl rfl (v_str Tryz.underlying9 Tryz.underlying28 Tryz.underlying5 rfl (hLw' _)) ?_
      refine kv (v_neqS rfl rfl) ?_
      refine kv (v_pick_false rfl rfl) ?_
      refine kmv ?_
      refine kw_dec 67 rfl (fun hc67 => ?_) (fun hc67 => ?_)
      refine kk ?_
      refine kk ?_
      refine kk ?_
      refine kk ?_
      refine kk ?_
      refine kk ?_
      refine kk ?_
      refine kk ?_
      refine kk ?_
      refine kk ?_
      refine kk ?_
      refine kk ?_
      refine kk ?_
      refine kk ?_
      refine kk ?_
      refine kv (v_pick_true rfl rfl) ?_
      refine kw_nil <| xw_then ?_
      refine cw_true rfl <| qs <| qa <| qt ?_
      refine cw_ret ?_
      refine xw_block_ret ?_
      refine xw_round_ret ?_
      refine xw_block_ret ?_
      refine xw_then_ret ?_
      refine xw_block_ret ?_
      refine xw_then_ret ?_
      refine xw_round_ret ?_
      refine xw_block_ret ?_
      refine xw_then_ret ?_
      refine ret1 rfl (res_tmp rfl) ?_
      rotate_left
      refine kmv ?_
      refine kmv ?_
      refine kv (v_nilCheck rfl) ?_
      refine kv (v_fieldAddr0 Ty.fd42_3 rfl) ?_
      refine kv (v_indexAddrA Tryz.underlying40 Ty.el40 rfl rfl (Int.toNat_of_nonneg zom).symm zom) ?_
      refine kv (v_load rfl (Var.at1 Ty.sc39 (.there .here) (PrP.ge))) ?_
      refine kmv ?_
      refine kv ((v_bools rfl rfl zhas (hC.e i))) ?_
      refine kmv ?_
      refine kw_bool 76 rfl (fun hc76 => ?_) (fun hc76 => ?_)
      refine kmv ?_
      refine kv (v_len rfl Tryz.underlying28 rfl) ?_
      refine kmv ?_
      refine kv (v_len rfl Tryz.underlying28 rfl) ?_
      refine kv (v_neq rfl rfl) ?_
      refine kv (v_pick_true rfl rfl) ?_
      refine kv (v_pick_false rfl rfl) ?_
      refine kw_nil <| xw_then ?_
      refine cw_dec rfl (fun hc83 => ?_) (fun hc83 => ?_)
      refine qs <| qa <| qt ?_
      refine cw_ret ?_
      refine xw_block_ret ?_
      refine xw_round_ret ?_
      refine xw_block_ret ?_
      refine xw_then_ret ?_
      refine xw_block_ret ?_
      refine xw_then_ret ?_
      refine xw_round_ret ?_
      refine xw_block_ret ?_
      refine xw_then_ret ?_
      refine ret1 rfl (res_tmp rfl) ?_
      rotate_left
      refine cw_skip ?_
      refine xw_block ?_
      rotate_left
      refine kk ?_
      refine kk ?_
      refine kk ?_
      refine kk ?_
      refine kk ?_
      refine kv (v_pick_false rfl rfl) ?_
      refine kv (v_pick_false rfl rfl) ?_
      refine kw_nil <| xw_then ?_
      refine cw_false rfl <| cw_skip ?_
      refine xw_block ?_
      rotate_left
      all_goals first
        | exact xw_round ((some (k, .slice ao (P.rd i k).length cap), rem', c1') : Option (Int × Value) × List (Int × Value) × Hp) ⟨hI, fun q hq => i2 q (hp.mem_iff.2 (List.mem_cons_of_mem _ hq))⟩ zdo zcov zenv
        | exact absurd rfl hc67
        | exact absurd hc57 zom
        | exact absurd (by have := d3 hc76; omega) hc83
  exact ⟨c, rfl, hPr, zcov⟩
end Go.Proofs.YtnlaffkihohfkaaGreat

namespace Go.Proofs.YtnlaffkihohfkaaGreat
open Go Go.Sl Go.Proofs
variable {B : Nat} {w0 : World} {G : List Hp} {R : Hp → List Hp}
def limP (one : Int) : LimM := ⟨one, one + 3, one + 1⟩
def SsM.first (cl : Bool) (D one many : Int) : SsM := (SsM.new cl D (limP one) many many).start D (limP one) many many
theorem RunsOK.nil {g : Int} : RunsOK [] 0 g := ⟨List.Pairwise.nil, fun _ h => (by cases h), fun _ h => (by cases h), fun h => zom, fun _ h => (by cases h), by decide⟩
theorem SsM.first_eq {cl : Bool} {D one many : Int} (hm : 0 ≤ many) : SsM.first cl D one many = ⟨GivM.new D, got0.raise D, cl, limP one, limP one, [], [], [], ⟨0, many, 0, many, many⟩, ⟨0, many, 0, many, many⟩⟩ := by
  have e : max 0 many = many := by omega
  show (⟨GivM.new D, got0.raise D, cl, limP one, limP one, [], [], [], ⟨0, max 0 many, 0, many, many⟩, ⟨0, max 0 many, 0, many, many⟩⟩ : SsM) = _
  rw [e]
theorem SsM.first_wf {cl : Bool} {D one many : Int} (hD : 0 ≤ D) (ho : 0 ≤ one ∧ one ≤ 1000) (hm : 0 ≤ many ∧ many ≤ 1000) : (SsM.first cl D one many).WF := by
  rw [SsM.first_eq hm.1]
  have hl : (limP one).WF := ⟨by show 0 ≤ one ∧ one ≤ _; omega, by show 0 ≤ one + 3 ∧ one + 3 ≤ _; omega, by show 0 ≤ one + 1 ∧ one + 1 ≤ _; omega⟩
  have hk : (⟨0, many, 0, many, many⟩ : KdM).WF := ⟨by dsimp only; omega, by dsimp only; omega, by dsimp only; omega, by dsimp only; omega, by dsimp only; omega⟩
  refine ⟨GivM.new_wf hD, GotM.raise_wf got0_wf hD, hl, hl, fun _ h => (by cases h), List.Pairwise.nil, fun _ h => (by cases h), hk, hk, RunsOK.nil, RunsOK.nil, fun id h0 h1 h2 => ?_⟩
  exfalso
  have h3 : cnI id < 0 := by
    have h4 : cnI id < (SsM.kd ⟨GivM.new D, got0.raise D, cl, limP one, limP one, [], [], [], ⟨0, many, 0, many, many⟩, ⟨0, many, 0, many, many⟩⟩ id).op := h2
    unfold SsM.kd at h4
    dsimp only at h4
    split at h4 <;> exact h4
  unfold cnI at h3
  omega
def pr0 (D one many : Int) : PrM := ⟨fun i => (SsM.first (!i) D one many).abs, fun _ _ => [], fun _ _ => [], fun _ _ => false⟩
theorem first_x {cl : Bool} {D one many id : Int} (hm : 0 ≤ many) : (SsM.first cl D one many).abs.x id = (SsM.first cl D one many).fresh id ((SsM.first cl D one many).granted id) := by
  show (SsM.first cl D one many).at id = _
  refine SsM.at_none ?_
  rw [SsM.first_eq hm]
  rfl
theorem pr0_inv {D one many : Int} (hD : 0 ≤ D ∧ D ≤ 1000000) (ho : 0 ≤ one ∧ one ≤ 1000) (hm : 0 ≤ many ∧ many ≤ 1000) : Inv (pr0 D one many) D one many 0 := by
  have hx : ∀ i id, ((pr0 D one many).s i).x id = (SsM.first (!i) D one many).fresh id ((SsM.first (!i) D one many).granted id) := fun i id => first_x hm.1
  have hz : ∀ i id, (((pr0 D one many).s i).x id).got.used = 0 ∧ (((pr0 D one many).s i).x id).giv.used = 0 ∧ tkS (((pr0 D one many).s i).x id) = 0 ∧ cS (((pr0 D one many).s i).x id) = 0 := fun i id => by
    rw [hx]
    unfold SsM.fresh tkS SmM.read cS
    refine ⟨?_, ?_, ?_, rfl⟩
    · dsimp only; split <;> rfl
    · dsimp only; split <;> rfl
    · dsimp only
      rw [if_neg (by split <;> decide)]
      split <;> rfl
  have hs : ∀ i, (pr0 D one many).s i = ⟨GivM.new D, got0.raise D, !i, limP one, limP one, ⟨0, many, 0, many, many⟩, ⟨0, many, 0, many, many⟩, ((pr0 D one many).s i).x⟩ := fun i => by
    show (SsM.first (!i) D one many).abs = ⟨_, _, _, _, _, _, _, (SsM.first (!i) D one many).abs.x⟩
    rw [SsM.first_eq hm.1]
    rfl
  have hgv : GivM.new D = ⟨D, 0, 0, D, D⟩ := by unfold GivM.new; rw [show min D 4611686018427387903 = D by omega]
  have kd : ∀ i k, k = 0 ∨ k = 1 → ((pr0 D one many).s i).kn k = ⟨0, many, 0, many, many⟩ := fun i k hk => by
    rw [hs]
    rcases hk with rfl | rfl <;> rfl
  refine ⟨fun i => by rw [hs], fun i => by rw [hs]; rfl, fun i => by rw [hs]; rfl, fun i id hid => ?_, fun i => ?_, fun i => ?_, fun i => ?_, fun i => ?_, fun i => ?_, fun i k hk => ?_, fun i => ?_, fun i k hk => ?_, ?_, ⟨by omega, hm.1, hm.2, ho⟩⟩
  · rw [hx, hx]
    show Dir _ _ [] [] false
    have hmn : (SsM.first (!(!i)) D one many).mine id = !(SsM.first (!i) D one many).mine id := by
      rw [SsM.first_eq hm.1, SsM.first_eq hm.1]
      unfold SsM.mine
      cases i <;> by_cases h0 : oddI id = 0 <;> simp [h0]
    have hgr : (SsM.first (!(!i)) D one many).grants id = (SsM.first (!i) D one many).granted id := by
      unfold SsM.grants SsM.granted
      rw [hmn, SsM.first_eq hm.1, SsM.first_eq hm.1]
      split
      · rfl
      · cases (SsM.mine _ id) <;> rfl
    have hgb : 0 ≤ (SsM.first (!i) D one many).granted id ∧ (SsM.first (!i) D one many).granted id ≤ 1000000 := by
      rw [SsM.first_eq hm.1]
      unfold SsM.granted limP
      dsimp only
      split
      · omega
      · split <;> omega
    unfold SsM.fresh
    rw [hmn, hgr]
    by_cases hc : (SsM.first (!i) D one many).mine id = true ∨ kdI id = 0
    · have hc2 : (!(SsM.first (!i) D one many).mine id) = false ∨ kdI id = 0 := by
        rcases hc with h | h
        · rw [h]; exact .inl rfl
        · exact .inr h
      refine .inl ⟨0, 0, false, ?_⟩
      have hcr := Cr.new hgb
      refine ⟨?_, ?_, Nat.le_refl _, Nat.le_refl _, .inl ⟨?_, rfl⟩, ?_, rfl, rfl, ?_, ?_, ?_, ?_⟩
      · dsimp only; rw [if_pos hc, bufG_0]
      · dsimp only; rw [if_pos hc2, inG_0]
      · dsimp only; rw [if_pos hc]
      · dsimp only; rw [if_pos hc2]
      · dsimp only; rw [if_pos hc]; exact ⟨Int.le_refl _, Int.le_refl _⟩
      · dsimp only; rw [if_pos hc2]; rfl
      · dsimp only; rw [if_pos hc2]; rfl
      · dsimp only; rw [if_pos hc, if_pos hc2]; exact hcr
    · have hc2 : ¬ ((!(SsM.first (!i) D one many).mine id) = false ∨ kdI id = 0) := by
        rintro (h | h)
        · exact hc (.inl (by simpa using h))
        · exact hc (.inr h)
      refine .inr (.inr (.inr ?_))
      refine ⟨?_, ?_, ?_, ?_, rfl, rfl, rfl, ?_, ?_, ?_, ?_⟩
      · dsimp only; rw [if_neg hc]
      · dsimp only; rw [if_neg hc2]
      · dsimp only; rw [if_neg hc]
      · dsimp only; rw [if_neg hc2]
      · dsimp only; rw [if_neg hc]; rfl
      · dsimp only; rw [if_neg hc2]; rfl
      · dsimp only; rw [if_neg hc]; exact Int.le_refl _
      · dsimp only; rw [if_neg hc2]; exact Int.le_refl _
  · rw [sumTo_zero fun id _ _ => (hz i id).1, hs]; rfl
  · rw [sumTo_zero fun id _ _ => (hz i id).2.1, hs]; rfl
  · rw [sumTo_zero fun id _ _ => (hz i id).2.2.1, hs]; rfl
  · rw [hs, hs]; exact Cr.new hD
  · rw [hs, hgv]
  · rw [kd i k hk, kd (!i) k hk]
    exact ⟨by dsimp only; omega, by dsimp only; omega, by dsimp only; omega, by dsimp only; omega, by dsimp only; omega, by dsimp only; omega⟩
  · rw [sumTo_zero fun id _ _ => (hz i id).2.2.2, hs]
    dsimp only
    omega
  · rw [kd i k hk]; exact hm.1
  · have : ∀ b : Bool, sumTo (fun id => (((pr0 D one many).wr b id).length : Int)) NS = 0 := fun b => sumTo_zero fun _ _ _ => rfl
    rw [this, this]
    decide
end Go.Proofs.YtnlaffkihohfkaaGreat

namespace Go.Sl
open Go.RowKit Go Go.Instr
variable {P : Program} {ops : Array Oper} {Q : Exit → Act → World → Prop} {B : Nat} {w0 : World} {N : Nat} {G : List Hp} {E : Env} {ty T : TypeId}
end Go.Sl
namespace Go.Proofs.YtnlaffkihohfkaaGreat
open Go Go.Sl Go.Proofs
variable {B : Nat} {w0 : World} {G : List Hp} {R : Hp → List Hp}
theorem asNew_c {cl : Bool} {d bi un : Int} {own : LimM} (hd : 0 ≤ d ∧ d ≤ 18446744073709551615) :
    Go.Sl.Fn Tryz.prog 15 #[.bool cl, .int .u64 d, .agg own.cells.toArray, .int .u64 bi, .int .u64 un] B w0 G fun u G' => ∃ y : Nat × Hp, u = .pointer (some ⟨y.1, 0, none⟩) ∧ SsAt (SsM.new cl d own bi un) [] y.1 y.2 ∧ G' = [y.2] ++ G := ssNew_c hd
theorem b_lim {a b c : Int} : Build Tryz.prog 59 #[(0, .int .u64 a), (1, .int .u64 b), (2, .int .u64 c)] (.agg (LimM.cells ⟨a, b, c⟩).toArray) := fun w => by kernel_rfl
theorem b_lim0 : Build Tryz.prog 59 #[] (.agg (LimM.cells ⟨0, 0, 0⟩).toArray) := fun w => by kernel_rfl
def zP : List Value := [.pointer none, .pointer none, .map none, .map none, .map none, .map none, .map none, .map none, .bool true]
def oP (s w r e : Nat) : List Value := [.pointer (some ⟨s, 0, none⟩), .pointer none, .map (some w), .map none, .map (some r), .map none, .map (some e), .map none, .bool true]
theorem b_pair : Build Tryz.prog 42 #[(4, .bool true)] (.agg zP.toArray) := fun w => by kernel_rfl
theorem limP_one {one : Int} : ∀ u ∈ (limP one).cells, u.oneCell' = true := fun u hu => by
  simp only [LimM.cells, limP, List.mem_cons, List.not_mem_nil, or_false] at hu
  rcases hu with rfl | rfl | rfl <;> rfl
theorem zP_one : ∀ u ∈ zP, u.oneCell' = true := allOne rfl
def npCells (p : PrP) : Nat → List Value
  | 0 => zP
  | 1 => oP (p.s false) (p.w false) (p.r false) (p.e false)
  | _ => p.cells
structure NpS where
  j : Nat
  p : PrP
  C : PrC
structure NpOk (D one many : Int) (x : NpS) (i : Bool) : Prop where
  s : AsAt ((pr0 D one many).s i) (x.p.s i) (x.C.s i)
  w : BmAt (fun _ => []) (x.p.w i) (x.C.w i)
  r : BmAt (fun _ => []) (x.p.r i) (x.C.r i)
  e : BlAt (fun _ => false) (x.p.e i) (x.C.e i)
theorem asFirst {D one many : Int} {i : Bool} {b : Nat} {c : Hp} (hD : 0 ≤ D) (ho : 0 ≤ one ∧ one ≤ 1000) (hm : 0 ≤ many ∧ many ≤ 1000) (h : SsAt (SsM.first (!i) D one many) [] b c) : AsAt ((pr0 D one many).s i) b c := ⟨_, _, h, SsM.first_wf hD ho hm, rfl⟩
theorem setZ {s w r e : Nat} : ((((zP.set (0 + 0 * 1) (Value.pointer (some ⟨s, 0, none⟩))).set (2 + 0 * 1) (Value.map (some w))).set (4 + 0 * 1) (Value.map (some r))).set (6 + 0 * 1) (Value.map (some e))) = oP s w r e := rfl
def prP2 (s w r e s' w' r' e' : Nat) : PrP := ⟨fun i => cond i s' s, fun i => cond i w' w, fun i => cond i r' r, fun i => cond i e' e⟩
theorem setO {s w r e s' w' r' e' : Nat} : (((((oP s w r e).set (0 + 1 * 1) (Value.pointer (some ⟨s', 0, none⟩))).set (2 + 1 * 1) (Value.map (some w'))).set (4 + 1 * 1) (Value.map (some r'))).set (6 + 1 * 1) (Value.map (some e'))) = (prP2 s w r e s' w' r' e').cells := rfl
def prC2 (a b c d a' b' c' d' : Hp) : PrC := ⟨fun i => cond i a' a, fun i => cond i b' b, fun i => cond i c' c, fun i => cond i d' d⟩
set_option maxHeartbeats 8000000 in
theorem newPair_c {D one many : Int} (hD : 0 ≤ D ∧ D ≤ 1000000) (ho : 0 ≤ one ∧ one ≤ 1000) (hm : 0 ≤ many ∧ many ≤ 1000) :
    Go.Sl.Fn Tryz.prog 7 #[.int .u64 D, .int .u64 one, .int .u64 many] B w0 G fun u G' => ∃ y : Nat × PrP × Hp, u = .pointer (some ⟨y.1, 0, none⟩) ∧ PrAt (pr0 D one many) y.2.1 y.1 y.2.2 ∧ G' = [y.2.2] ++ G := by
  refine Fn.new ?_
  have zl : zP.length = 9 := rfl
  have zo := zP_one
  have ll : (limP one).cells.length = 3 := rfl
  have lo := limP_one (one := one)
  have hll : (⟨one, one + 3, one + 1⟩ : LimM) = limP one := rfl
  refine fn_enter Tryz.func7 rfl (by kernel_rfl) Tryz.ntmps7 (by simp) ?_
  refine qs <| qa <| qt <| qs ?_
  refine qv (v_build rfl (b_pair)) ?_
  refine ow_box rfl rfl rfl rfl fun b11 => qa <| qt <| qs <| qm <| qm ?_
  refine qv (v_add rfl rfl (nw_u64 zom zom)) ?_
  refine qm ?_
  refine qv (v_add rfl rfl (nw_u64 zom zom)) ?_
  refine qv (v_build rfl (b_lim)) ?_
  refine ow_alloc rfl rfl Ty.ze59 fun b8 => ?_
  refine ow_storeN rfl rfl rfl Ty.ag59 zra zao .here (SetN.all zsa) ?_
  refine qt <| cw_seq <| qs <| qm <| qt ?_
  refine cw_block ?_
  refine cw_loop2 (ι := (NpS)) [(0, _), (2, _), (6, _), (7, _), (8, _)] ⟨rfl, rfl, rfl, rfl, rfl, trivial⟩ ((fun x => [(18, .int .i64 x.j)])) ((fun x => x.j ≤ 2 ∧ (0 < x.j → NpOk D one many x false) ∧ (1 < x.j → NpOk D one many x true) ∧ (x.j = 0 → x.C.s false = [] ∧ x.C.w false = [] ∧ x.C.r false = [] ∧ x.C.e false = []) ∧ (x.j ≤ 1 → x.C.s true = [] ∧ x.C.w true = [] ∧ x.C.r true = [] ∧ x.C.e true = []))) ((fun x => 2 - x.j)) ((fun x => [(b8, .cells (LimM.cells ⟨one, one + 3, one + 1⟩).toArray 59 (0, 0))] :: [(b11, .cells (npCells x.p x.j).toArray 42 (0, 0))] :: x.C.s false :: x.C.w false :: x.C.r false :: x.C.e false :: x.C.s true :: x.C.w true :: x.C.r true :: x.C.e true :: G)) ((⟨0, ⟨fun _ => 0, fun _ => 0, fun _ => 0, fun _ => 0⟩, ⟨fun _ => [], fun _ => [], fun _ => [], fun _ => []⟩⟩ : NpS)) zenv zcov ?_ ?_
  · exact ⟨Nat.zero_le _, fun h => absurd h (Nat.lt_irrefl _), fun h => absurd h zdo, fun _ => ⟨rfl, rfl, rfl, rfl⟩, fun _ => ⟨rfl, rfl, rfl, rfl⟩⟩
  rintro ⟨j, p, C⟩ ⟨hj, hf, ht, z0, z1⟩
  dsimp only at hj hf ht z0 z1 ⊢
  rw [hll]
  refine qs ?_
  refine qv (v_lss rfl rfl) <| qt <| cw_seq ?_
  refine cw_dec rfl (fun hc19 => ?_) (fun hc19 => ?_)
  refine cw_skip <| xw_then ?_
  rotate_left
  refine cw_exit ?_
  refine xw_then_exit ?_
  refine xw_round_exit ?_
  refine xw_block_exit <| xw_then <| qs <| qm <| qa <| qt ?_
  refine cw_ret ?_
  refine ret1 rfl (res_tmp rfl) ?_
  rotate_left
  · have hj2 : j = 0 ∨ j = 1 := by omega
    rcases hj2 with rfl | rfl
    · obtain ⟨z2, z3, z4, z5⟩ := z0 rfl
      obtain ⟨z6, z7, z8, z9⟩ := z1 zom
      rw [z2, z3, z4, z5, z6, z7, z8, z9]
      refine cw_cov ([(b8, .cells (limP one).cells.toArray 59 (0, 0))] :: [(b11, .cells zP.toArray 42 (0, 0))] :: G) zcov ?_
      refine cw_seq ?_
      refine cw_block <| qs <| qm <| qa <| qt <| cw_seq ?_
      refine cw_mix [] [8, 11, 12] [0, 1, 2, 3, 4, 5, 6, 7, 9, 10] Ty.mixed rfl rfl rfl rfl zdk ?_
      refine hmv ?_
      refine hmv ?_
      refine hmv ?_
      refine hw_pure rfl rfl (v_eql rfl rfl) rfl ?_
      refine hmv ?_
      refine hw_read rfl rfl rfl (v_load rfl (Var.atN Ty.ag59 .here GetN.all zra)) ?_
      refine hmv ?_
      refine hmv ?_
      refine hw_pure rfl rfl (v_nilCheck rfl) rfl ?_
      refine hw_pure rfl rfl (v_fieldAddr0 Ty.fd42_0 rfl) rfl ?_
      refine hw_nil ?_
      refine sw_nil ?_
      (refine ow_call rfl rfl rfl rfl (asNew_c (own := limP one) zom) ?_; rintro _ _ ⟨x29, rfl, hq29, rfl⟩)
      refine qv (v_indexAddrA Tryz.underlying36 Ty.el36 rfl rfl rfl zom) ?_
      refine ow_store1 rfl rfl rfl rfl Ty.sc35 (.there (.there .here)) (SetN.one zdn) <| ow_nil ?_
      refine xw_np <| xw_then ?_
      have hq29' : SsAt (SsM.new true D (limP one) many many) [] x29.1 x29.2 := hq29
      refine cw_seq ?_
      refine cw_mix [] [10] [0, 1, 2, 3, 4, 5, 6, 7, 8, 9] Ty.mixed rfl rfl rfl rfl zdk ?_
      refine hmv ?_
      refine hmv ?_
      refine hw_pure rfl rfl (v_nilCheck rfl) rfl ?_
      refine hw_pure rfl rfl (v_fieldAddr0 Ty.fd42_0 rfl) rfl ?_
      refine hw_pure rfl rfl (v_indexAddrA Tryz.underlying36 Ty.el36 rfl rfl rfl zom) rfl ?_
      refine hw_read rfl rfl rfl (v_load rfl (Var.at1 Ty.sc35 (.there (.there .here)) (GetN.lit rfl))) ?_
      refine hmv ?_
      refine hw_read rfl rfl rfl (v_load rfl (Var.atN Ty.ag59 (.there .here) GetN.all zra)) ?_
      refine hmv ?_
      refine hmv ?_
      refine hw_nil ?_
      refine sw_nil ?_
      (refine ow_call rfl rfl rfl rfl (start_c (th := limP one) zsel hq29') ?_; rintro _ _ ⟨x43, rfl, hq43, rfl⟩)
      refine ow_nil ?_
      refine xw_np <| xw_then ?_
      refine cw_mixA [6, 7, 8, 11, 12, 15, 16, 19, 20] [0, 1, 2, 3, 4, 5, 9, 10, 13, 14, 17, 18] (((((((((((((Array.replicate 21 false).setIfInBounds 0 true).setIfInBounds 1 true).setIfInBounds 2 true).setIfInBounds 3 true).setIfInBounds 4 true).setIfInBounds 5 true).setIfInBounds 9 true).setIfInBounds 10 true).setIfInBounds 13 true).setIfInBounds 14 true).setIfInBounds 17 true).setIfInBounds 18 true) Ty.mixed rfl rfl zdk rfl ?_
      refine hwa_pure rfl rfl (v_move rfl) rfl ?_
      refine hwa_pure rfl rfl (v_move rfl) rfl ?_
      refine hwa_pure rfl rfl (v_move rfl) rfl ?_
      refine hwa_pure rfl rfl (v_move rfl) rfl ?_
      refine hwa_pure rfl rfl (v_move rfl) rfl ?_
      refine hwa_pure rfl rfl (v_move rfl) rfl ?_
      refine hwa_pure rfl rfl (v_nilCheck rfl) rfl ?_
      refine hwa_pure rfl rfl (v_fieldAddr0 Ty.fd42_1 rfl) rfl ?_
      refine hwa_pure rfl rfl (v_nilCheck rfl) rfl ?_
      refine hwa_pure rfl rfl (v_fieldAddr0 Ty.fd42_2 rfl) rfl ?_
      refine hwa_pure rfl rfl (v_nilCheck rfl) rfl ?_
      refine hwa_pure rfl rfl (v_fieldAddr0 Ty.fd42_3 rfl) rfl ?_
      refine hwa_nil ?_
      refine aw_step3 6 7 8 zdk rfl rfl rfl ?_ ?_ ?_
      (refine ow_makeMapG (kd := .u64) rfl rfl ?_; intro b50 c50 hm50)
      refine qx ?_
      refine aw_pure 11 rfl zdk rfl rfl (v_indexAddrA Tryz.underlying38 Ty.el38 rfl rfl rfl zom) rfl ?_
      refine aw_step3 7 8 12 zdk rfl rfl rfl ?_ ?_ ?_
      (refine ow_makeMapG (kd := .u64) rfl rfl ?_; intro b51 c51 hm51)
      refine qx ?_
      refine aw_step2 8 12 zdk rfl rfl ?_ ?_
      (refine ow_makeMapG (kd := .u64) rfl rfl ?_; intro b52 c52 hm52)
      refine qx ?_
      refine aw_step1 12 zdk rfl ?_
      refine ow_store1 rfl rfl rfl rfl Ty.sc37 (.there (.there (.there (.there (.there .here))))) (SetN.one zdn) <| qx ?_
      refine aw_pure 15 rfl zdk rfl rfl (v_indexAddrA Tryz.underlying38 Ty.el38 rfl rfl rfl zom) rfl ?_
      refine aw_step1 16 zdk rfl ?_
      refine ow_store1 rfl rfl rfl rfl Ty.sc37 (.there (.there (.there (.there (.there .here))))) (SetN.one zdn) <| qx ?_
      refine aw_pure 19 rfl zdk rfl rfl (v_indexAddrA Tryz.underlying40 Ty.el40 rfl rfl rfl zom) rfl ?_
      refine aw_step1 20 zdk rfl ?_
      refine ow_store1 rfl rfl rfl rfl Ty.sc39 (.there (.there (.there (.there (.there .here))))) (SetN.one zdn) <| qx ?_
      refine aw_end zdk ?_
      refine xw_np ?_
      refine xw_block <| xw_then <| cw_region ?_
      refine qv (v_add rfl rfl (nw_i64 zom zom)) <| qm <| ow_nil ?_
      rotate_left
      refine ow_store1 rfl rfl rfl rfl Ty.sc37 (.there (.there (.there (.there .here)))) (SetN.one zdn) <| qx ?_
      refine aw_pure 15 rfl zdk rfl rfl (v_indexAddrA Tryz.underlying38 Ty.el38 rfl rfl rfl zom) rfl ?_
      refine aw_step2 8 16 zdk rfl rfl ?_ ?_
      (refine ow_makeMapG (kd := .u64) rfl rfl ?_; intro b52 c52 hm52)
      refine qx ?_
      refine aw_step1 16 zdk rfl ?_
      refine ow_store1 rfl rfl rfl rfl Ty.sc37 (.there (.there (.there (.there (.there .here))))) (SetN.one zdn) <| qx ?_
      refine aw_pure 19 rfl zdk rfl rfl (v_indexAddrA Tryz.underlying40 Ty.el40 rfl rfl rfl zom) rfl ?_
      refine aw_step1 20 zdk rfl ?_
      refine ow_store1 rfl rfl rfl rfl Ty.sc39 (.there (.there (.there (.there (.there .here))))) (SetN.one zdn) <| qx ?_
      refine aw_end zdk ?_
      refine xw_np ?_
      refine xw_block <| xw_then ?_
      refine cw_region ?_
      refine qv (v_add rfl rfl (nw_i64 zom zom)) <| qm <| ow_nil ?_
      rotate_left
      refine ow_store1 rfl rfl rfl rfl Ty.sc37 (.there (.there (.there (.there .here)))) (SetN.one zdn) <| qx ?_
      refine aw_step1 8 zdk rfl ?_
      (refine ow_makeMapG (kd := .u64) rfl rfl ?_; intro b52 c52 hm52)
      refine qx ?_
      refine aw_pure 19 rfl zdk rfl rfl (v_indexAddrA Tryz.underlying40 Ty.el40 rfl rfl rfl zom) rfl ?_
      refine aw_step1 20 zdk rfl ?_
      refine ow_store1 rfl rfl rfl rfl Ty.sc39 (.there (.there (.there (.there (.there .here))))) (SetN.one zdn) <| qx ?_
      refine aw_end zdk ?_
      refine xw_np ?_
      refine xw_block <| xw_then <| cw_region ?_
      refine qv (v_add rfl rfl (nw_i64 zom zom)) <| qm ?_
      refine ow_nil ?_
      rotate_left
      (refine ow_makeMapG (kd := .u64) rfl rfl ?_; intro b52 c52 hm52)
      refine qx ?_
      refine aw_step2 7 12 zdk rfl rfl ?_ ?_
      (refine ow_makeMapG (kd := .u64) rfl rfl ?_; intro b51 c51 hm51)
      refine qx ?_
      refine aw_step1 12 zdk rfl ?_
      refine ow_store1 rfl rfl rfl rfl Ty.sc37 (.there (.there (.there (.there (.there .here))))) (SetN.one zdn) <| qx ?_
      refine aw_pure 15 rfl zdk rfl rfl (v_indexAddrA Tryz.underlying38 Ty.el38 rfl rfl rfl zom) rfl ?_
      refine aw_step1 16 zdk rfl ?_
      refine ow_store1 rfl rfl rfl rfl Ty.sc37 (.there (.there (.there (.there (.there .here))))) (SetN.one zdn) <| qx ?_
      refine aw_pure 19 rfl zdk rfl rfl (v_indexAddrA Tryz.underlying40 Ty.el40 rfl rfl rfl zom) rfl ?_
      refine aw_step1 20 zdk rfl ?_
      refine ow_store1 rfl rfl rfl rfl Ty.sc39 (.there (.there (.there (.there (.there .here))))) (SetN.one zdn) <| qx ?_
      refine aw_end zdk ?_
      refine xw_np ?_
      refine xw_block <| xw_then <| cw_region ?_
      refine qv (v_add rfl rfl (nw_i64 zom zom)) <| qm <| ow_nil ?_
      rotate_left
      refine ow_store1 rfl rfl rfl rfl Ty.sc37 (.there (.there (.there (.there .here)))) (SetN.one zdn) <| qx ?_
      refine aw_step1 7 zdk rfl ?_
      (refine ow_makeMapG (kd := .u64) rfl rfl ?_; intro b51 c51 hm51)
      refine qx ?_
      refine aw_pure 15 rfl zdk rfl rfl (v_indexAddrA Tryz.underlying38 Ty.el38 rfl rfl rfl zom) rfl ?_
      refine aw_step1 16 zdk rfl ?_
      refine ow_store1 rfl rfl rfl rfl Ty.sc37 (.there (.there (.there (.there (.there .here))))) (SetN.one zdn) <| qx ?_
      refine aw_pure 19 rfl zdk rfl rfl (v_indexAddrA Tryz.underlying40 Ty.el40 rfl rfl rfl zom) rfl ?_
      refine aw_step1 20 zdk rfl ?_
      refine ow_store1 rfl rfl rfl rfl Ty.sc39 (.there (.there (.there (.there (.there .here))))) (SetN.one zdn) <| qx ?_
      refine aw_end zdk ?_
      refine xw_np ?_
      refine xw_block ?_
      refine xw_then <| cw_region ?_
      refine qv (v_add rfl rfl (nw_i64 zom zom)) <| qm <| ow_nil ?_
      rotate_left
      refine ow_store1 rfl rfl rfl rfl Ty.sc37 (.there (.there (.there .here))) (SetN.one zdn) <| qx ?_
      refine aw_step2 7 8 zdk rfl rfl ?_ ?_
      (refine ow_makeMapG (kd := .u64) rfl rfl ?_; intro b51 c51 hm51)
      refine qx ?_
      refine aw_pure 15 rfl zdk rfl rfl (v_indexAddrA Tryz.underlying38 Ty.el38 rfl rfl rfl zom) rfl ?_
      refine aw_step2 8 16 zdk rfl rfl ?_ ?_
      (refine ow_makeMapG (kd := .u64) rfl rfl ?_; intro b52 c52 hm52)
      refine qx ?_
      refine aw_step1 16 zdk rfl ?_
      refine ow_store1 rfl rfl rfl rfl Ty.sc37 (.there (.there (.there (.there (.there .here))))) (SetN.one zdn) <| qx ?_
      refine aw_pure 19 rfl zdk rfl rfl (v_indexAddrA Tryz.underlying40 Ty.el40 rfl rfl rfl zom) rfl ?_
      refine aw_step1 20 zdk rfl ?_
      refine ow_store1 rfl rfl rfl rfl Ty.sc39 (.there (.there (.there (.there (.there .here))))) (SetN.one zdn) <| qx ?_
      refine aw_end zdk ?_
      refine xw_np ?_
      refine xw_block <| xw_then ?_
      refine cw_region ?_
      refine qv (v_add rfl rfl (nw_i64 zom zom)) <| qm <| ow_nil ?_
      rotate_left
      refine ow_store1 rfl rfl rfl rfl Ty.sc37 (.there (.there (.there (.there .here)))) (SetN.one zdn) <| qx ?_
      refine aw_step1 8 zdk rfl ?_
      (refine ow_makeMapG (kd := .u64) rfl rfl ?_; intro b52 c52 hm52)
      refine qx ?_
      refine aw_pure 19 rfl zdk rfl rfl (v_indexAddrA Tryz.underlying40 Ty.el40 rfl rfl rfl zom) rfl ?_
      refine aw_step1 20 zdk rfl ?_
      refine ow_store1 rfl rfl rfl rfl Ty.sc39 (.there (.there (.there (.there (.there .here))))) (SetN.one zdn) <| qx ?_
      refine aw_end zdk ?_
      refine xw_np ?_
      refine xw_block <| xw_then <| cw_region ?_
      refine qv (v_add rfl rfl (nw_i64 zom zom)) <| qm ?_
      refine ow_nil ?_
      rotate_left
      (refine ow_makeMapG (kd := .u64) rfl rfl ?_; intro b52 c52 hm52)
      refine qx ?_
      refine aw_step1 7 zdk rfl ?_
      (refine ow_makeMapG (kd := .u64) rfl rfl ?_; intro b51 c51 hm51)
      refine qx ?_
      refine aw_pure 15 rfl zdk rfl rfl (v_indexAddrA Tryz.underlying38 Ty.el38 rfl rfl rfl zom) rfl ?_
      refine aw_step1 16 zdk rfl ?_
      refine ow_store1 rfl rfl rfl rfl Ty.sc37 (.there (.there (.there (.there (.there .here))))) (SetN.one zdn) <| qx ?_
      refine aw_pure 19 rfl zdk rfl rfl (v_indexAddrA Tryz.underlying40 Ty.el40 rfl rfl rfl zom) rfl ?_
      refine aw_step1 20 zdk rfl ?_
      refine ow_store1 rfl rfl rfl rfl Ty.sc39 (.there (.there (.there (.there (.there .here))))) (SetN.one zdn) <| qx ?_
      refine aw_end zdk ?_
      refine xw_np ?_
      refine xw_block ?_
      refine xw_then <| cw_region ?_
      refine qv (v_add rfl rfl (nw_i64 zom zom)) <| qm <| ow_nil ?_
      rotate_left
      (refine ow_makeMapG (kd := .u64) rfl rfl ?_; intro b51 c51 hm51)
      refine qx ?_
      refine aw_step2 6 8 zdk rfl rfl ?_ ?_
      (refine ow_makeMapG (kd := .u64) rfl rfl ?_; intro b50 c50 hm50)
      refine qx ?_
      refine aw_pure 11 rfl zdk rfl rfl (v_indexAddrA Tryz.underlying38 Ty.el38 rfl rfl rfl zom) rfl ?_
      refine aw_step2 8 12 zdk rfl rfl ?_ ?_
      (refine ow_makeMapG (kd := .u64) rfl rfl ?_; intro b52 c52 hm52)
      refine qx ?_
      refine aw_step1 12 zdk rfl ?_
      refine ow_store1 rfl rfl rfl rfl Ty.sc37 (.there (.there (.there (.there (.there .here))))) (SetN.one zdn) <| qx ?_
      refine aw_pure 15 rfl zdk rfl rfl (v_indexAddrA Tryz.underlying38 Ty.el38 rfl rfl rfl zom) rfl ?_
      refine aw_step1 16 zdk rfl ?_
      refine ow_store1 rfl rfl rfl rfl Ty.sc37 (.there (.there (.there (.there (.there .here))))) (SetN.one zdn) <| qx ?_
      refine aw_pure 19 rfl zdk rfl rfl (v_indexAddrA Tryz.underlying40 Ty.el40 rfl rfl rfl zom) rfl ?_
      refine aw_step1 20 zdk rfl ?_
      refine ow_store1 rfl rfl rfl rfl Ty.sc39 (.there (.there (.there (.there (.there .here))))) (SetN.one zdn) <| qx ?_
      refine aw_end zdk ?_
      refine xw_np ?_
      refine xw_block <| xw_then <| cw_region ?_
      refine qv (v_add rfl rfl (nw_i64 zom zom)) <| qm <| ow_nil ?_
      rotate_left
      refine ow_store1 rfl rfl rfl rfl Ty.sc37 (.there (.there (.there (.there .here)))) (SetN.one zdn) <| qx ?_
      refine aw_pure 15 rfl zdk rfl rfl (v_indexAddrA Tryz.underlying38 Ty.el38 rfl rfl rfl zom) rfl ?_
      refine aw_step2 8 16 zdk rfl rfl ?_ ?_
      (refine ow_makeMapG (kd := .u64) rfl rfl ?_; intro b52 c52 hm52)
      refine qx ?_
      refine aw_step1 16 zdk rfl ?_
      refine ow_store1 rfl rfl rfl rfl Ty.sc37 (.there (.there (.there (.there (.there .here))))) (SetN.one zdn) <| qx ?_
      refine aw_pure 19 rfl zdk rfl rfl (v_indexAddrA Tryz.underlying40 Ty.el40 rfl rfl rfl zom) rfl ?_
      refine aw_step1 20 zdk rfl ?_
      refine ow_store1 rfl rfl rfl rfl Ty.sc39 (.there (.there (.there (.there (.there .here))))) (SetN.one zdn) <| qx ?_
      refine aw_end zdk ?_
      refine xw_np ?_
      refine xw_block <| xw_then ?_
      refine cw_region ?_
      refine qv (v_add rfl rfl (nw_i64 zom zom)) <| qm <| ow_nil ?_
      rotate_left
      refine ow_store1 rfl rfl rfl rfl Ty.sc37 (.there (.there (.there (.there .here)))) (SetN.one zdn) <| qx ?_
      refine aw_step1 8 zdk rfl ?_
      (refine ow_makeMapG (kd := .u64) rfl rfl ?_; intro b52 c52 hm52)
      refine qx ?_
      refine aw_pure 19 rfl zdk rfl rfl (v_indexAddrA Tryz.underlying40 Ty.el40 rfl rfl rfl zom) rfl ?_
      refine aw_step1 20 zdk rfl ?_
      refine ow_store1 rfl rfl rfl rfl Ty.sc39 (.there (.there (.there (.there (.there .here))))) (SetN.one zdn) <| qx ?_
      refine aw_end zdk ?_
      refine xw_np ?_
      refine xw_block <| xw_then <| cw_region ?_
      refine qv (v_add rfl rfl (nw_i64 zom zom)) <| qm ?_
      refine ow_nil ?_
      rotate_left
      (refine ow_makeMapG (kd := .u64) rfl rfl ?_; intro b52 c52 hm52)
      refine qx ?_
      refine aw_step1 6 zdk rfl ?_
      (refine ow_makeMapG (kd := .u64) rfl rfl ?_; intro b50 c50 hm50)
      refine qx ?_
      refine aw_pure 11 rfl zdk rfl rfl (v_indexAddrA Tryz.underlying38 Ty.el38 rfl rfl rfl zom) rfl ?_
      refine aw_step1 12 zdk rfl ?_
      refine ow_store1 rfl rfl rfl rfl Ty.sc37 (.there (.there (.there (.there (.there .here))))) (SetN.one zdn) <| qx ?_
      refine aw_pure 15 rfl zdk rfl rfl (v_indexAddrA Tryz.underlying38 Ty.el38 rfl rfl rfl zom) rfl ?_
      refine aw_step1 16 zdk rfl ?_
      refine ow_store1 rfl rfl rfl rfl Ty.sc37 (.there (.there (.there (.there (.there .here))))) (SetN.one zdn) <| qx ?_
      refine aw_pure 19 rfl zdk rfl rfl (v_indexAddrA Tryz.underlying40 Ty.el40 rfl rfl rfl zom) rfl ?_
      refine aw_step1 20 zdk rfl ?_
      refine ow_store1 rfl rfl rfl rfl Ty.sc39 (.there (.there (.there (.there (.there .here))))) (SetN.one zdn) ?_
      refine qx ?_
      refine aw_end zdk ?_
      refine xw_np ?_
      refine xw_block <| xw_then <| cw_region ?_
      refine qv (v_add rfl rfl (nw_i64 zom zom)) <| qm <| ow_nil ?_
      rotate_left
      (refine ow_makeMapG (kd := .u64) rfl rfl ?_; intro b52 c52 hm52)
      refine qx ?_
      refine aw_step2 6 7 zdk rfl rfl ?_ ?_
      (refine ow_makeMapG (kd := .u64) rfl rfl ?_; intro b50 c50 hm50)
      refine qx ?_
      refine aw_pure 11 rfl zdk rfl rfl (v_indexAddrA Tryz.underlying38 Ty.el38 rfl rfl rfl zom) rfl ?_
      refine aw_step2 7 12 zdk rfl rfl ?_ ?_
      (refine ow_makeMapG (kd := .u64) rfl rfl ?_; intro b51 c51 hm51)
      refine qx ?_
      refine aw_step1 12 zdk rfl ?_
      refine ow_store1 rfl rfl rfl rfl Ty.sc37 (.there (.there (.there (.there (.there .here))))) (SetN.one zdn) <| qx ?_
      refine aw_pure 15 rfl zdk rfl rfl (v_indexAddrA Tryz.underlying38 Ty.el38 rfl rfl rfl zom) rfl ?_
      refine aw_step1 16 zdk rfl ?_
      refine ow_store1 rfl rfl rfl rfl Ty.sc37 (.there (.there (.there (.there (.there .here))))) (SetN.one zdn) <| qx ?_
      refine aw_pure 19 rfl zdk rfl rfl (v_indexAddrA Tryz.underlying40 Ty.el40 rfl rfl rfl zom) rfl ?_
      refine aw_step1 20 zdk rfl ?_
      refine ow_store1 rfl rfl rfl rfl Ty.sc39 (.there (.there (.there (.there (.there .here))))) (SetN.one zdn) <| qx ?_
      refine aw_end zdk ?_
      refine xw_np ?_
      refine xw_block <| xw_then <| cw_region ?_
      refine qv (v_add rfl rfl (nw_i64 zom zom)) <| qm <| ow_nil ?_
      rotate_left
      refine ow_store1 rfl rfl rfl rfl Ty.sc37 (.there (.there (.there (.there .here)))) (SetN.one zdn) <| qx ?_
      refine aw_step1 7 zdk rfl ?_
      (refine ow_makeMapG (kd := .u64) rfl rfl ?_; intro b51 c51 hm51)
      refine qx ?_
      refine aw_pure 15 rfl zdk rfl rfl (v_indexAddrA Tryz.underlying38 Ty.el38 rfl rfl rfl zom) rfl ?_
      refine aw_step1 16 zdk rfl ?_
      refine ow_store1 rfl rfl rfl rfl Ty.sc37 (.there (.there (.there (.there (.there .here))))) (SetN.one zdn) <| qx ?_
      refine aw_pure 19 rfl zdk rfl rfl (v_indexAddrA Tryz.underlying40 Ty.el40 rfl rfl rfl zom) rfl ?_
      refine aw_step1 20 zdk rfl ?_
      refine ow_store1 rfl rfl rfl rfl Ty.sc39 (.there (.there (.there (.there (.there .here))))) (SetN.one zdn) <| qx ?_
      refine aw_end zdk ?_
      refine xw_np ?_
      refine xw_block ?_
      refine xw_then <| cw_region ?_
      refine qv (v_add rfl rfl (nw_i64 zom zom)) <| qm <| ow_nil ?_
      rotate_left
      (refine ow_makeMapG (kd := .u64) rfl rfl ?_; intro b51 c51 hm51)
      refine qx ?_
      refine aw_step1 6 zdk rfl ?_
      (refine ow_makeMapG (kd := .u64) rfl rfl ?_; intro b50 c50 hm50)
      refine qx ?_
      refine aw_pure 11 rfl zdk rfl rfl (v_indexAddrA Tryz.underlying38 Ty.el38 rfl rfl rfl zom) rfl ?_
      refine aw_step1 12 zdk rfl ?_
      refine ow_store1 rfl rfl rfl rfl Ty.sc37 (.there (.there (.there (.there (.there .here))))) (SetN.one zdn) <| qx ?_
      refine aw_pure 15 rfl zdk rfl rfl (v_indexAddrA Tryz.underlying38 Ty.el38 rfl rfl rfl zom) rfl ?_
      refine aw_step1 16 zdk rfl ?_
      refine ow_store1 rfl rfl rfl rfl Ty.sc37 (.there (.there (.there (.there (.there .here))))) (SetN.one zdn) <| qx ?_
      refine aw_pure 19 rfl zdk rfl rfl (v_indexAddrA Tryz.underlying40 Ty.el40 rfl rfl rfl zom) rfl ?_
      refine aw_step1 20 zdk rfl ?_
      refine ow_store1 rfl rfl rfl rfl Ty.sc39 (.there (.there (.there (.there (.there .here))))) (SetN.one zdn) ?_
      refine qx ?_
      refine aw_end zdk ?_
      refine xw_np ?_
      refine xw_block <| xw_then <| cw_region ?_
      refine qv (v_add rfl rfl (nw_i64 zom zom)) <| qm <| ow_nil ?_
      rotate_left
      all_goals
        rw [setZ]
        refine xw_round (⟨1, prP2 x29.1 b50 b51 b52 0 0 0 0, prC2 x43 c50 c51 c52 [] [] [] []⟩ : NpS) ⟨by dsimp only; omega, fun _ => ⟨asFirst (i := false) hD.1 ho hm hq43, BmAt.new hm50, BmAt.new hm51, BlAt.new hm52⟩, fun h => absurd h zdo, fun h => absurd h zdo, fun _ => ⟨rfl, rfl, rfl, rfl⟩⟩ zdo (by intro p; simp only [List.flatten_cons, List.flatten_nil, List.flatten_append, List.append_nil, List.nil_append, cnt_append, cnt_cons, cnt_nil, List.set_cons_zero, List.set_cons_succ, List.length_nil, List.length_cons, Nat.zero_add, List.append, npCells, prP2, prC2, cond_true, cond_false, hll]; omega) zenv
    · obtain ⟨f1, f2, f3, f4⟩ := hf zom
      obtain ⟨z6, z7, z8, z9⟩ := z1 zom
      rw [z6, z7, z8, z9]
      have ol : (oP (p.s false) (p.w false) (p.r false) (p.e false)).length = 9 := rfl
      have oo : ∀ u ∈ oP (p.s false) (p.w false) (p.r false) (p.e false), u.oneCell' = true := allOne rfl
      refine cw_cov ([(b8, .cells (limP one).cells.toArray 59 (0, 0))] :: [(b11, .cells (oP (p.s false) (p.w false) (p.r false) (p.e false)).toArray 42 (0, 0))] :: C.s false :: C.w false :: C.r false :: C.e false :: G) (by intro p; simp only [List.flatten_cons, List.flatten_nil, List.flatten_append, List.append_nil, List.nil_append, cnt_append, cnt_cons, cnt_nil, List.set_cons_zero, List.set_cons_succ, List.length_nil, List.length_cons, Nat.zero_add, List.append, npCells]; omega) ?_
      refine cw_seq ?_
      refine cw_block <| qs <| qm <| qa <| qt <| cw_seq ?_
      refine cw_mix [] [8, 11, 12] [0, 1, 2, 3, 4, 5, 6, 7, 9, 10] Ty.mixed rfl rfl rfl rfl zdk ?_
      refine hmv ?_
      refine hmv ?_
      refine hmv ?_
      refine hw_pure rfl rfl (v_eql rfl rfl) rfl ?_
      refine hmv ?_
      refine hw_read rfl rfl rfl (v_load rfl (Var.atN Ty.ag59 .here GetN.all zra)) ?_
      refine hmv ?_
      refine hmv ?_
      refine hw_pure rfl rfl (v_nilCheck rfl) rfl ?_
      refine hw_pure rfl rfl (v_fieldAddr0 Ty.fd42_0 rfl) rfl ?_
      refine hw_nil ?_
      refine sw_nil ?_
      (refine ow_call rfl rfl rfl rfl (asNew_c (own := limP one) zom) ?_; rintro _ _ ⟨x29, rfl, hq29, rfl⟩)
      refine qv (v_indexAddrA Tryz.underlying36 Ty.el36 rfl rfl rfl zom) ?_
      refine ow_store1 rfl rfl rfl rfl Ty.sc35 (.there (.there .here)) (SetN.one zdn) <| ow_nil ?_
      refine xw_np <| xw_then ?_
      have hq29' : SsAt (SsM.new false D (limP one) many many) [] x29.1 x29.2 := hq29
      refine cw_seq ?_
      refine cw_mix [] [10] [0, 1, 2, 3, 4, 5, 6, 7, 8, 9] Ty.mixed rfl rfl rfl rfl zdk ?_
      refine hmv ?_
      refine hmv ?_
      refine hw_pure rfl rfl (v_nilCheck rfl) rfl ?_
      refine hw_pure rfl rfl (v_fieldAddr0 Ty.fd42_0 rfl) rfl ?_
      refine hw_pure rfl rfl (v_indexAddrA Tryz.underlying36 Ty.el36 rfl rfl rfl zom) rfl ?_
      refine hw_read rfl rfl rfl (v_load rfl (Var.at1 Ty.sc35 (.there (.there .here)) (GetN.lit rfl))) ?_
      refine hmv ?_
      refine hw_read rfl rfl rfl (v_load rfl (Var.atN Ty.ag59 (.there .here) GetN.all zra)) ?_
      refine hmv ?_
      refine hmv ?_
      refine hw_nil ?_
      refine sw_nil ?_
      (refine ow_call rfl rfl rfl rfl (start_c (th := limP one) zsel hq29') ?_; rintro _ _ ⟨x43, rfl, hq43, rfl⟩)
      refine ow_nil ?_
      refine xw_np <| xw_then ?_
      refine cw_mixA [6, 7, 8, 11, 12, 15, 16, 19, 20] [0, 1, 2, 3, 4, 5, 9, 10, 13, 14, 17, 18] (((((((((((((Array.replicate 21 false).setIfInBounds 0 true).setIfInBounds 1 true).setIfInBounds 2 true).setIfInBounds 3 true).setIfInBounds 4 true).setIfInBounds 5 true).setIfInBounds 9 true).setIfInBounds 10 true).setIfInBounds 13 true).setIfInBounds 14 true).setIfInBounds 17 true).setIfInBounds 18 true) Ty.mixed rfl rfl zdk rfl ?_
      refine hwa_pure rfl rfl (v_move rfl) rfl ?_
      refine hwa_pure rfl rfl (v_move rfl) rfl ?_
      refine hwa_pure rfl rfl (v_move rfl) rfl ?_
      refine hwa_pure rfl rfl (v_move rfl) rfl ?_
      refine hwa_pure rfl rfl (v_move rfl) rfl ?_
      refine hwa_pure rfl rfl (v_move rfl) rfl ?_
      refine hwa_pure rfl rfl (v_nilCheck rfl) rfl ?_
      refine hwa_pure rfl rfl (v_fieldAddr0 Ty.fd42_1 rfl) rfl ?_
      refine hwa_pure rfl rfl (v_nilCheck rfl) rfl ?_
      refine hwa_pure rfl rfl (v_fieldAddr0 Ty.fd42_2 rfl) rfl ?_
      refine hwa_pure rfl rfl (v_nilCheck rfl) rfl ?_
      refine hwa_pure rfl rfl (v_fieldAddr0 Ty.fd42_3 rfl) rfl ?_
      refine hwa_nil ?_
      refine aw_step3 6 7 8 zdk rfl rfl rfl ?_ ?_ ?_
      (refine ow_makeMapG (kd := .u64) rfl rfl ?_; intro b50 c50 hm50)
      refine qx ?_
      refine aw_pure 11 rfl zdk rfl rfl (v_indexAddrA Tryz.underlying38 Ty.el38 rfl rfl rfl zom) rfl ?_
      refine aw_step3 7 8 12 zdk rfl rfl rfl ?_ ?_ ?_
      (refine ow_makeMapG (kd := .u64) rfl rfl ?_; intro b51 c51 hm51)
      refine qx ?_
      refine aw_step2 8 12 zdk rfl rfl ?_ ?_
      (refine ow_makeMapG (kd := .u64) rfl rfl ?_; intro b52 c52 hm52)
      refine qx ?_
      refine aw_step1 12 zdk rfl ?_
      refine ow_store1 rfl rfl rfl rfl Ty.sc37 (.there (.there (.there (.there (.there .here))))) (SetN.one zdn) <| qx ?_
      refine aw_pure 15 rfl zdk rfl rfl (v_indexAddrA Tryz.underlying38 Ty.el38 rfl rfl rfl zom) rfl ?_
      refine aw_step1 16 zdk rfl ?_
      refine ow_store1 rfl rfl rfl rfl Ty.sc37 (.there (.there (.there (.there (.there .here))))) (SetN.one zdn) <| qx ?_
      refine aw_pure 19 rfl zdk rfl rfl (v_indexAddrA Tryz.underlying40 Ty.el40 rfl rfl rfl zom) rfl ?_
      refine aw_step1 20 zdk rfl ?_
      refine ow_store1 rfl rfl rfl rfl Ty.sc39 (.there (.there (.there (.there (.there .here))))) (SetN.one zdn) <| qx ?_
      refine aw_end zdk ?_
      refine xw_np ?_
      refine xw_block <| xw_then <| cw_region ?_
      refine qv (v_add rfl rfl (nw_i64 zom zom)) <| qm <| ow_nil ?_
      rotate_left
      refine ow_store1 rfl rfl rfl rfl Ty.sc37 (.there (.there (.there (.there .here)))) (SetN.one zdn) <| qx ?_
      refine aw_pure 15 rfl zdk rfl rfl (v_indexAddrA Tryz.underlying38 Ty.el38 rfl rfl rfl zom) rfl ?_
      refine aw_step2 8 16 zdk rfl rfl ?_ ?_
      (refine ow_makeMapG (kd := .u64) rfl rfl ?_; intro b52 c52 hm52)
      refine qx ?_
      refine aw_step1 16 zdk rfl ?_
      refine ow_store1 rfl rfl rfl rfl Ty.sc37 (.there (.there (.there (.there (.there .here))))) (SetN.one zdn) <| qx ?_
      refine aw_pure 19 rfl zdk rfl rfl (v_indexAddrA Tryz.underlying40 Ty.el40 rfl rfl rfl zom) rfl ?_
      refine aw_step1 20 zdk rfl ?_
      refine ow_store1 rfl rfl rfl rfl Ty.sc39 (.there (.there (.there (.there (.there .here))))) (SetN.one zdn) <| qx ?_
      refine aw_end zdk ?_
      refine xw_np ?_
      refine xw_block <| xw_then ?_
      refine cw_region ?_
      refine qv (v_add rfl rfl (nw_i64 zom zom)) <| qm <| ow_nil ?_
      rotate_left
      refine ow_store1 rfl rfl rfl rfl Ty.sc37 (.there (.there (.there (.there .here)))) (SetN.one zdn) <| qx ?_
      refine aw_step1 8 zdk rfl ?_
      (refine ow_makeMapG (kd := .u64) rfl rfl ?_; intro b52 c52 hm52)
      refine qx ?_
      refine aw_pure 19 rfl zdk rfl rfl (v_indexAddrA Tryz.underlying40 Ty.el40 rfl rfl rfl zom) rfl ?_
      refine aw_step1 20 zdk rfl ?_
      refine ow_store1 rfl rfl rfl rfl Ty.sc39 (.there (.there (.there (.there (.there .here))))) (SetN.one zdn) <| qx ?_
      refine aw_end zdk ?_
      refine xw_np ?_
      refine xw_block <| xw_then <| cw_region ?_
      refine qv (v_add rfl rfl (nw_i64 zom zom)) <| qm ?_
      refine ow_nil ?_
      rotate_left
      (refine ow_makeMapG (kd := .u64) rfl rfl ?_; intro b52 c52 hm52)
      refine qx ?_
      refine aw_step2 7 12 zdk rfl rfl ?_ ?_
      (refine ow_makeMapG (kd := .u64) rfl rfl ?_; intro b51 c51 hm51)
      refine qx ?_
      refine aw_step1 12 zdk rfl ?_
      refine ow_store1 rfl rfl rfl rfl Ty.sc37 (.there (.there (.there (.there (.there .here))))) (SetN.one zdn) <| qx ?_
      refine aw_pure 15 rfl zdk rfl rfl (v_indexAddrA Tryz.underlying38 Ty.el38 rfl rfl rfl zom) rfl ?_
      refine aw_step1 16 zdk rfl ?_
      refine ow_store1 rfl rfl rfl rfl Ty.sc37 (.there (.there (.there (.there (.there .here))))) (SetN.one zdn) <| qx ?_
      refine aw_pure 19 rfl zdk rfl rfl (v_indexAddrA Tryz.underlying40 Ty.el40 rfl rfl rfl zom) rfl ?_
      refine aw_step1 20 zdk rfl ?_
      refine ow_store1 rfl rfl rfl rfl Ty.sc39 (.there (.there (.there (.there (.there .here))))) (SetN.one zdn) <| qx ?_
      refine aw_end zdk ?_
      refine xw_np ?_
      refine xw_block <| xw_then <| cw_region ?_
      refine qv (v_add rfl rfl (nw_i64 zom zom)) <| qm <| ow_nil ?_
      rotate_left
      refine ow_store1 rfl rfl rfl rfl Ty.sc37 (.there (.there (.there (.there .here)))) (SetN.one zdn) <| qx ?_
      refine aw_step1 7 zdk rfl ?_
      (refine ow_makeMapG (kd := .u64) rfl rfl ?_; intro b51 c51 hm51)
      refine qx ?_
      refine aw_pure 15 rfl zdk rfl rfl (v_indexAddrA Tryz.underlying38 Ty.el38 rfl rfl rfl zom) rfl ?_
      refine aw_step1 16 zdk rfl ?_
      refine ow_store1 rfl rfl rfl rfl Ty.sc37 (.there (.there (.there (.there (.there .here))))) (SetN.one zdn) <| qx ?_
      refine aw_pure 19 rfl zdk rfl rfl (v_indexAddrA Tryz.underlying40 Ty.el40 rfl rfl rfl zom) rfl ?_
      refine aw_step1 20 zdk rfl ?_
      refine ow_store1 rfl rfl rfl rfl Ty.sc39 (.there (.there (.there (.there (.there .here))))) (SetN.one zdn) <| qx ?_
      refine aw_end zdk ?_
      refine xw_np ?_
      refine xw_block ?_
      refine xw_then <| cw_region ?_
      refine qv (v_add rfl rfl (nw_i64 zom zom)) <| qm <| ow_nil ?_
      rotate_left
      refine ow_store1 rfl rfl rfl rfl Ty.sc37 (.there (.there (.there .here))) (SetN.one zdn) <| qx ?_
      refine aw_step2 7 8 zdk rfl rfl ?_ ?_
      (refine ow_makeMapG (kd := .u64) rfl rfl ?_; intro b51 c51 hm51)
      refine qx ?_
      refine aw_pure 15 rfl zdk rfl rfl (v_indexAddrA Tryz.underlying38 Ty.el38 rfl rfl rfl zom) rfl ?_
      refine aw_step2 8 16 zdk rfl rfl ?_ ?_
      (refine ow_makeMapG (kd := .u64) rfl rfl ?_; intro b52 c52 hm52)
      refine qx ?_
      refine aw_step1 16 zdk rfl ?_
      refine ow_store1 rfl rfl rfl rfl Ty.sc37 (.there (.there (.there (.there (.there .here))))) (SetN.one zdn) <| qx ?_
      refine aw_pure 19 rfl zdk rfl rfl (v_indexAddrA Tryz.underlying40 Ty.el40 rfl rfl rfl zom) rfl ?_
      refine aw_step1 20 zdk rfl ?_
      refine ow_store1 rfl rfl rfl rfl Ty.sc39 (.there (.there (.there (.there (.there .here))))) (SetN.one zdn) <| qx ?_
      refine aw_end zdk ?_
      refine xw_np ?_
      refine xw_block <| xw_then ?_
      refine cw_region ?_
      refine qv (v_add rfl rfl (nw_i64 zom zom)) <| qm <| ow_nil ?_
      rotate_left
      refine ow_store1 rfl rfl rfl rfl Ty.sc37 (.there (.there (.there (.there .here)))) (SetN.one zdn) <| qx ?_
      refine aw_step1 8 zdk rfl ?_
      (refine ow_makeMapG (kd := .u64) rfl rfl ?_; intro b52 c52 hm52)
      refine qx ?_
      refine aw_pure 19 rfl zdk rfl rfl (v_indexAddrA Tryz.underlying40 Ty.el40 rfl rfl rfl zom) rfl ?_
      refine aw_step1 20 zdk rfl ?_
      refine ow_store1 rfl rfl rfl rfl Ty.sc39 (.there (.there (.there (.there (.there .here))))) (SetN.one zdn) <| qx ?_
      refine aw_end zdk ?_
      refine xw_np ?_
      refine xw_block <| xw_then <| cw_region ?_
      refine qv (v_add rfl rfl (nw_i64 zom zom)) <| qm ?_
      refine ow_nil ?_
      rotate_left
      (refine ow_makeMapG (kd := .u64) rfl rfl ?_; intro b52 c52 hm52)
      refine qx ?_
      refine aw_step1 7 zdk rfl ?_
      (refine ow_makeMapG (kd := .u64) rfl rfl ?_; intro b51 c51 hm51)
      refine qx ?_
      refine aw_pure 15 rfl zdk rfl rfl (v_indexAddrA Tryz.underlying38 Ty.el38 rfl rfl rfl zom) rfl ?_
      refine aw_step1 16 zdk rfl ?_
      refine ow_store1 rfl rfl rfl rfl Ty.sc37 (.there (.there (.there (.there (.there .here))))) (SetN.one zdn) <| qx ?_
      refine aw_pure 19 rfl zdk rfl rfl (v_indexAddrA Tryz.underlying40 Ty.el40 rfl rfl rfl zom) rfl ?_
      refine aw_step1 20 zdk rfl ?_
      refine ow_store1 rfl rfl rfl rfl Ty.sc39 (.there (.there (.there (.there (.there .here))))) (SetN.one zdn) <| qx ?_
      refine aw_end zdk ?_
      refine xw_np ?_
      refine xw_block ?_
      refine xw_then <| cw_region ?_
      refine qv (v_add rfl rfl (nw_i64 zom zom)) <| qm <| ow_nil ?_
      rotate_left
      (refine ow_makeMapG (kd := .u64) rfl rfl ?_; intro b51 c51 hm51)
      refine qx ?_
      refine aw_step2 6 8 zdk rfl rfl ?_ ?_
      (refine ow_makeMapG (kd := .u64) rfl rfl ?_; intro b50 c50 hm50)
      refine qx ?_
      refine aw_pure 11 rfl zdk rfl rfl (v_indexAddrA Tryz.underlying38 Ty.el38 rfl rfl rfl zom) rfl ?_
      refine aw_step2 8 12 zdk rfl rfl ?_ ?_
      (refine ow_makeMapG (kd := .u64) rfl rfl ?_; intro b52 c52 hm52)
      refine qx ?_
      refine aw_step1 12 zdk rfl ?_
      refine ow_store1 rfl rfl rfl rfl Ty.sc37 (.there (.there (.there (.there (.there .here))))) (SetN.one zdn) <| qx ?_
      refine aw_pure 15 rfl zdk rfl rfl (v_indexAddrA Tryz.underlying38 Ty.el38 rfl rfl rfl zom) rfl ?_
      refine aw_step1 16 zdk rfl ?_
      refine ow_store1 rfl rfl rfl rfl Ty.sc37 (.there (.there (.there (.there (.there .here))))) (SetN.one zdn) <| qx ?_
      refine aw_pure 19 rfl zdk rfl rfl (v_indexAddrA Tryz.underlying40 Ty.el40 rfl rfl rfl zom) rfl ?_
      refine aw_step1 20 zdk rfl ?_
      refine ow_store1 rfl rfl rfl rfl Ty.sc39 (.there (.there (.there (.there (.there .here))))) (SetN.one zdn) <| qx ?_
      refine aw_end zdk ?_
      refine xw_np ?_
      refine xw_block <| xw_then <| cw_region ?_
      refine qv (v_add rfl rfl (nw_i64 zom zom)) <| qm <| ow_nil ?_
      rotate_left
      refine ow_store1 rfl rfl rfl rfl Ty.sc37 (.there (.there (.there (.there .here)))) (SetN.one zdn) <| qx ?_
      refine aw_pure 15 rfl zdk rfl rfl (v_indexAddrA Tryz.underlying38 Ty.el38 rfl rfl rfl zom) rfl ?_
      refine aw_step2 8 16 zdk rfl rfl ?_ ?_
      (refine ow_makeMapG (kd := .u64) rfl rfl ?_; intro b52 c52 hm52)
      refine qx ?_
      refine aw_step1 16 zdk rfl ?_
      refine ow_store1 rfl rfl rfl rfl Ty.sc37 (.there (.there (.there (.there (.there .here))))) (SetN.one zdn) <| qx ?_
      refine aw_pure 19 rfl zdk rfl rfl (v_indexAddrA Tryz.underlying40 Ty.el40 rfl rfl rfl zom) rfl ?_
      refine aw_step1 20 zdk rfl ?_
      refine ow_store1 rfl rfl rfl rfl Ty.sc39 (.there (.there (.there (.there (.there .here))))) (SetN.one zdn) <| qx ?_
      refine aw_end zdk ?_
      refine xw_np ?_
      refine xw_block <| xw_then ?_
      refine cw_region ?_
      refine qv (v_add rfl rfl (nw_i64 zom zom)) <| qm <| ow_nil ?_
      rotate_left
      refine ow_store1 rfl rfl rfl rfl Ty.sc37 (.there (.there (.there (.there .here)))) (SetN.one zdn) <| qx ?_
      refine aw_step1 8 zdk rfl ?_
      (refine ow_makeMapG (kd := .u64) rfl rfl ?_; intro b52 c52 hm52)
      refine qx ?_
      refine aw_pure 19 rfl zdk rfl rfl (v_indexAddrA Tryz.underlying40 Ty.el40 rfl rfl rfl zom) rfl ?_
      refine aw_step1 20 zdk rfl ?_
      refine ow_store1 rfl rfl rfl rfl Ty.sc39 (.there (.there (.there (.there (.there .here))))) (SetN.one zdn) <| qx ?_
      refine aw_end zdk ?_
      refine xw_np ?_
      refine xw_block <| xw_then <| cw_region ?_
      refine qv (v_add rfl rfl (nw_i64 zom zom)) <| qm ?_
      refine ow_nil ?_
      rotate_left
      (refine ow_makeMapG (kd := .u64) rfl rfl ?_; intro b52 c52 hm52)
      refine qx ?_
      refine aw_step1 6 zdk rfl ?_
      (refine ow_makeMapG (kd := .u64) rfl rfl ?_; intro b50 c50 hm50)
      refine qx ?_
      refine aw_pure 11 rfl zdk rfl rfl (v_indexAddrA Tryz.underlying38 Ty.el38 rfl rfl rfl zom) rfl ?_
      refine aw_step1 12 zdk rfl ?_
      refine ow_store1 rfl rfl rfl rfl Ty.sc37 (.there (.there (.there (.there (.there .here))))) (SetN.one zdn) <| qx ?_
      refine aw_pure 15 rfl zdk rfl rfl (v_indexAddrA Tryz.underlying38 Ty.el38 rfl rfl rfl zom) rfl ?_
      refine aw_step1 16 zdk rfl ?_
      refine ow_store1 rfl rfl rfl rfl Ty.sc37 (.there (.there (.there (.there (.there .here))))) (SetN.one zdn) <| qx ?_
      refine aw_pure 19 rfl zdk rfl rfl (v_indexAddrA Tryz.underlying40 Ty.el40 rfl rfl rfl zom) rfl ?_
      refine aw_step1 20 zdk rfl ?_
      refine ow_store1 rfl rfl rfl rfl Ty.sc39 (.there (.there (.there (.there (.there .here))))) (SetN.one zdn) ?_
      refine qx ?_
      refine aw_end zdk ?_
      refine xw_np ?_
      refine xw_block <| xw_then <| cw_region ?_
      refine qv (v_add rfl rfl (nw_i64 zom zom)) <| qm <| ow_nil ?_
      rotate_left
      (refine ow_makeMapG (kd := .u64) rfl rfl ?_; intro b52 c52 hm52)
      refine qx ?_
      refine aw_step2 6 7 zdk rfl rfl ?_ ?_
      (refine ow_makeMapG (kd := .u64) rfl rfl ?_; intro b50 c50 hm50)
      refine qx ?_
      refine aw_pure 11 rfl zdk rfl rfl (v_indexAddrA Tryz.underlying38 Ty.el38 rfl rfl rfl zom) rfl ?_
      refine aw_step2 7 12 zdk rfl rfl ?_ ?_
      (refine ow_makeMapG (kd := .u64) rfl rfl ?_; intro b51 c51 hm51)
      refine qx ?_
      refine aw_step1 12 zdk rfl ?_
      refine ow_store1 rfl rfl rfl rfl Ty.sc37 (.there (.there (.there (.there (.there .here))))) (SetN.one zdn) <| qx ?_
      refine aw_pure 15 rfl zdk rfl rfl (v_indexAddrA Tryz.underlying38 Ty.el38 rfl rfl rfl zom) rfl ?_
      refine aw_step1 16 zdk rfl ?_
      refine ow_store1 rfl rfl rfl rfl Ty.sc37 (.there (.there (.there (.there (.there .here))))) (SetN.one zdn) <| qx ?_
      refine aw_pure 19 rfl zdk rfl rfl (v_indexAddrA Tryz.underlying40 Ty.el40 rfl rfl rfl zom) rfl ?_
      refine aw_step1 20 zdk rfl ?_
      refine ow_store1 rfl rfl rfl rfl Ty.sc39 (.there (.there (.there (.there (.there .here))))) (SetN.one zdn) <| qx ?_
      refine aw_end zdk ?_
      refine xw_np ?_
      refine xw_block <| xw_then <| cw_region ?_
      refine qv (v_add rfl rfl (nw_i64 zom zom)) <| qm <| ow_nil ?_
      rotate_left
      refine ow_store1 rfl rfl rfl rfl Ty.sc37 (.there (.there (.there (.there .here)))) (SetN.one zdn) <| qx ?_
      refine aw_step1 7 zdk rfl ?_
      (refine ow_makeMapG (kd := .u64) rfl rfl ?_; intro b51 c51 hm51)
      refine qx ?_
      refine aw_pure 15 rfl zdk rfl rfl (v_indexAddrA Tryz.underlying38 Ty.el38 rfl rfl rfl zom) rfl ?_
      refine aw_step1 16 zdk rfl ?_
      refine ow_store1 rfl rfl rfl rfl Ty.sc37 (.there (.there (.there (.there (.there .here))))) (SetN.one zdn) <| qx ?_
      refine aw_pure 19 rfl zdk rfl rfl (v_indexAddrA Tryz.underlying40 Ty.el40 rfl rfl rfl zom) rfl ?_
      refine aw_step1 20 zdk rfl ?_
      refine ow_store1 rfl rfl rfl rfl Ty.sc39 (.there (.there (.there (.there (.there .here))))) (SetN.one zdn) <| qx ?_
      refine aw_end zdk ?_
      refine xw_np ?_
      refine xw_block ?_
      refine xw_then <| cw_region ?_
      refine qv (v_add rfl rfl (nw_i64 zom zom)) <| qm <| ow_nil ?_
      rotate_left
      (refine ow_makeMapG (kd := .u64) rfl rfl ?_; intro b51 c51 hm51)
      refine qx ?_
      refine aw_step1 6 zdk rfl ?_
      (refine ow_makeMapG (kd := .u64) rfl rfl ?_; intro b50 c50 hm50)
      refine qx ?_
      refine aw_pure 11 rfl zdk rfl rfl (v_indexAddrA Tryz.underlying38 Ty.el38 rfl rfl rfl zom) rfl ?_
      refine aw_step1 12 zdk rfl ?_
      refine ow_store1 rfl rfl rfl rfl Ty.sc37 (.there (.there (.there (.there (.there .here))))) (SetN.one zdn) <| qx ?_
      refine aw_pure 15 rfl zdk rfl rfl (v_indexAddrA Tryz.underlying38 Ty.el38 rfl rfl rfl zom) rfl ?_
      refine aw_step1 16 zdk rfl ?_
      refine ow_store1 rfl rfl rfl rfl Ty.sc37 (.there (.there (.there (.there (.there .here))))) (SetN.one zdn) <| qx ?_
      refine aw_pure 19 rfl zdk rfl rfl (v_indexAddrA Tryz.underlying40 Ty.el40 rfl rfl rfl zom) rfl ?_
      refine aw_step1 20 zdk rfl ?_
      refine ow_store1 rfl rfl rfl rfl Ty.sc39 (.there (.there (.there (.there (.there .here))))) (SetN.one zdn) ?_
      refine qx ?_
      refine aw_end zdk ?_
      refine xw_np ?_
      refine xw_block <| xw_then <| cw_region ?_
      refine qv (v_add rfl rfl (nw_i64 zom zom)) <| qm <| ow_nil ?_
      rotate_left
      all_goals
        rw [setO]
        refine xw_round (⟨2, prP2 (p.s false) (p.w false) (p.r false) (p.e false) x29.1 b50 b51 b52, prC2 (C.s false) (C.w false) (C.r false) (C.e false) x43 c50 c51 c52⟩ : NpS) ⟨by dsimp only; omega, fun _ => ⟨f1, f2, f3, f4⟩, fun _ => ⟨asFirst (i := true) hD.1 ho hm hq43, BmAt.new hm50, BmAt.new hm51, BlAt.new hm52⟩, fun h => absurd h zdo, fun h => absurd h zdo⟩ zdo (by intro p; simp only [List.flatten_cons, List.flatten_nil, List.flatten_append, List.append_nil, List.nil_append, cnt_append, cnt_cons, cnt_nil, List.set_cons_zero, List.set_cons_succ, List.length_nil, List.length_cons, Nat.zero_add, List.append, npCells, prC2, cond_true, cond_false, hll]; omega) zenv
  · have hj2 : j = 2 := by omega
    subst hj2
    have h1 := hf zom
    have h2 := ht zom
    have hC : C.Ok (pr0 D one many) p := ⟨bool_two false h1.s h2.s, bool_two false h1.w h2.w, bool_two false h1.r h2.r, bool_two false h1.e h2.e⟩
    have hcn := PrC.cnt_ (C := C) (p := p) (b := b11) false
    simp only [Bool.not_false] at hcn
    exact ⟨(b11, p, C.all p b11), rfl, ⟨C, hC, rfl⟩, (by intro p; simp only [List.flatten_cons, List.flatten_nil, List.flatten_append, List.append_nil, List.nil_append, cnt_append, cnt_cons, cnt_nil, List.set_cons_zero, List.set_cons_succ, List.length_nil, List.length_cons, Nat.zero_add, List.append, hcn, npCells]; omega)⟩
end Go.Proofs.YtnlaffkihohfkaaGreat

namespace Go.Proofs.YtnlaffkihohfkaaGreat
open Go Go.Sl Go.Proofs
variable {B : Nat} {w0 : World} {G : List Hp} {R : Hp → List Hp}
theorem light_c {acts : List ActO} {ao : Option Addr} {cap : Nat} (hV : Vw (enAct B w0) (St B w0 G) (.slice ao acts.length cap) acts) (hl : acts.length ≤ 9223372036854775807) :
    Go.Sl.Fn Tryz.prog 6 #[.slice ao acts.length cap] B w0 G fun u G' => u = .bool (acts.all fun a => decide (a.data.length ≤ 100)) ∧ G' = G := by
  refine Fn.pure ?_
  refine fn_enter Tryz.func6 rfl (by kernel_rfl) Tryz.ntmps6 (by simp) ?_
  refine qs <| qa <| qt <| cw_seq <| qs <| qm <| qv (v_len rfl Tryz.underlying22 rfl) <| qm <| qt <| cw_block ?_
  refine cw_loop2 (ι := (Nat)) [(5, _), (6, _)] ⟨rfl, rfl, trivial⟩ ((fun j => [(7, .int .i64 j)])) ((fun j => j ≤ acts.length ∧ ∀ (k : Nat) (h : k < acts.length), k < j → (acts[k]).data.length ≤ 100)) ((fun j => acts.length - j)) ((fun _ => G)) ((0 : Nat)) zenv zcov ?_ ?_
  · exact ⟨Nat.zero_le _, fun k _ h => absurd h (Nat.not_lt_zero _)⟩
  rintro j ⟨hj, hk⟩
  refine qs <| qv (v_lss rfl rfl) <| qt <| cw_seq ?_
  refine cw_dec rfl (fun hc8 => ?_) (fun hc8 => ?_)
  refine cw_skip <| xw_then ?_
  rotate_left
  refine cw_exit <| xw_then_exit <| xw_round_exit <| xw_block_exit <| xw_then <| qs <| qa <| qt <| cw_ret <| ret1 rfl (res_tmp rfl) ?_
  rotate_left
  · have hj2 : j < acts.length := by omega
    have hok := hV.ok _ (List.getElem_mem hj2)
    have hd : (acts[j]).data.length = (acts[j]).len := hok.data
    have h7 : ((enAct B w0).f acts[j]).length = 7 := rfl
    have h1 : ∀ u ∈ (enAct B w0).f acts[j], u.oneCell' = true := (acts[j]).one
    refine cw_seq <| cw_block <| qs ?_
    refine ow_val rfl rfl (v_indexAddr_vw Tryz.underlying22 (acTy) rfl rfl zas rfl zom) ?_
    refine ql (Go.Sl.Vw.var (acTy) (hV) zom) <| ow_alloc rfl rfl Ty.ze30 fun b4 => ?_
    refine ow_storeE rfl (acTy) rfl rfl .here zra zas ?_
    refine qt <| qs <| qf Ty.fd30_2 <| ql (Var.at1 Ty.sc28 .here (GetN.lit rfl)) <| qv (v_len rfl Tryz.underlying28 rfl) <| qv (v_gtr rfl rfl) <| qt ?_
    refine cw_dec rfl (fun hc14 => ?_) (fun hc14 => ?_)
    refine qs <| qa <| qt <| cw_ret <| xw_block_ret <| xw_then_ret <| xw_round_ret <| xw_block_ret <| xw_then_ret <| ret1 rfl (res_tmp rfl) ?_
    rotate_left
    refine cw_skip <| xw_block <| xw_then <| cw_region <| qv (v_add rfl rfl (nw_i64 zom zom)) <| qm <| ow_nil ?_
    rotate_left
    · have : (acts.all fun a => decide (a.data.length ≤ 100)) = false := by
        rw [List.all_eq_false]
        exact ⟨_, List.getElem_mem hj2, by simp; omega⟩
      rw [this]
      exact ⟨rfl, zcov⟩
    · exact xw_round (j + 1) ⟨by omega, fun k h1 h2 => by
        by_cases e : k = j
        · subst e; omega
        · exact hk k h1 zom⟩ zom zcov zenv
  · have : (acts.all fun a => decide (a.data.length ≤ 100)) = true := by
      rw [List.all_eq_true]
      intro a ha
      obtain ⟨k, hk1, rfl⟩ := List.mem_iff_getElem.1 ha
      exact decide_eq_true (hk k hk1 zom)
    rw [this]
    exact ⟨rfl, zcov⟩
def ssA : SsM := (SsM.new true 100 ⟨0, 0, 0⟩ 2 2).start 100 ⟨0, 0, 0⟩ 2 2
theorem ssA_wf : ssA.WF := by
  have hl : (⟨0, 0, 0⟩ : LimM).WF := ⟨by decide, by decide, by decide⟩
  refine ⟨GivM.new_wf (by decide), GotM.raise_wf got0_wf (by decide), hl, hl, fun _ h => (by cases h), List.Pairwise.nil, fun _ h => (by cases h), ⟨by decide, by decide, by decide, by decide, by decide⟩, ⟨by decide, by decide, by decide, by decide, by decide⟩, RunsOK.nil, RunsOK.nil, fun id h0 h1 h2 => ?_⟩
  exfalso
  have h3 : cnI id < 0 := by
    unfold SsM.kd at h2
    split at h2 <;> exact h2
  unfold cnI at h3
  omega
theorem pairAwake_c :
    Go.Sl.Fn Tryz.prog 5 #[] B w0 G fun u G' => u = .bool true ∧ G' = G := by
  refine Fn.pure ?_
  have w1 := ssA_wf
  obtain ⟨w2, a2⟩ := SsM.opened_wf (k := 0) w1 (.inl rfl) (by decide)
  obtain ⟨w3, a3⟩ := SsM.opened_wf (k := 1) w2 (.inr rfl) (by decide)
  have n0 : ssA.nextId 0 = 0 := by decide
  have n1 : (ssA.opened 0).nextId 1 = 2 := by decide
  have hh0 : ((ssA.opened 0).opened 1).has 0 := ⟨by decide, by decide⟩
  have tw : ∀ id, 0 ≤ id ∧ id ≤ 18446744073709551615 → ((ssA.opened 0).opened 1).has id → ∀ i, idxS (((ssA.opened 0).opened 1).touch id).str id = some i → (((ssA.opened 0).opened 1).touch id).WF := fun id hid hh i hi => (SsM.touch_made w3 hid hh hi).wf
  have hh2 : (((ssA.opened 0).opened 1).touch 0).has 2 := ⟨by decide, by decide⟩
  refine fn_enter Tryz.func5 rfl (by kernel_rfl) Tryz.ntmps5 (by simp) ?_
  have e0 : ∀ {G : List Hp} {R : Hp → List Hp} {b : Nat} {c : Hp} {ps : List Nat}, Sel G c R → SsAt ssA ps b c → Go.Sl.Fn Tryz.prog 17 #[.pointer (some ⟨b, 0, none⟩), .bool false] B w0 G fun u G' => ∃ y : List Nat × Hp, u = .tuple #[.int .u64 0, .int .i64 0] ∧ SsAt (ssA.opened 0) y.1 b y.2 ∧ G' = R y.2 := fun hs hM => by
    have h := open0_c (B := B) (w0 := w0) hs hM w1 (by decide)
    rw [n0] at h
    exact h
  have e1 : ∀ {G : List Hp} {R : Hp → List Hp} {b : Nat} {c : Hp} {ps : List Nat}, Sel G c R → SsAt (ssA.opened 0) ps b c → Go.Sl.Fn Tryz.prog 17 #[.pointer (some ⟨b, 0, none⟩), .bool true] B w0 G fun u G' => ∃ y : List Nat × Hp, u = .tuple #[.int .u64 2, .int .i64 0] ∧ SsAt ((ssA.opened 0).opened 1) y.1 b y.2 ∧ G' = R y.2 := fun hs hM => by
    have h := open1_c (B := B) (w0 := w0) hs hM w2 (by decide)
    rw [n1] at h
    exact h
  refine qs ?_
  refine qa ?_
  refine qt ?_
  refine qs ?_
  refine qv (v_build rfl (b_lim0)) ?_
  (refine ow_call rfl rfl rfl rfl (asNew_c (own := ⟨0, 0, 0⟩) zom) ?_; rintro _ _ ⟨x7, rfl, hq7, rfl⟩)
  refine qa ?_
  refine qt ?_
  refine qs ?_
  refine qm ?_
  refine qv (v_build rfl (b_lim0)) ?_
  (refine ow_call rfl rfl rfl rfl (start_c (th := ⟨0, 0, 0⟩) zsel hq7) ?_; rintro _ _ ⟨x10, rfl, hq10, rfl⟩)
  refine qt ?_
  have hS : SsAt ssA [] x7.1 x10 := hq10
  refine qs ?_
  refine qm ?_
  (refine ow_call rfl rfl rfl rfl (e0 zsel hS) ?_; rintro _ _ ⟨x13, rfl, hq13, rfl⟩)
  refine qm ?_
  refine qv (v_extract rfl rfl) ?_
  refine qv (v_extract rfl rfl) ?_
  refine qa ?_
  refine qa ?_
  refine qt ?_
  refine qs ?_
  refine qm ?_
  (refine ow_call rfl rfl rfl rfl (e1 zsel hq13) ?_; rintro _ _ ⟨x18, rfl, hq18, rfl⟩)
  refine qm ?_
  refine qv (v_extract rfl rfl) ?_
  refine qv (v_extract rfl rfl) ?_
  refine qa ?_
  refine qa ?_
  refine qt ?_
  refine qs ?_
  refine qm ?_
  refine qv (v_eql rfl rfl) ?_
  refine qm ?_
  refine ow_dec 23 rfl (fun hc23 => ?_) (fun hc23 => ?_)
  rotate_left; (exfalso; omega); rotate_right
  refine qm ?_
  refine qv (v_eql rfl rfl) ?_
  refine qv (v_pick_true rfl rfl) ?_
  refine qm ?_
  refine ow_dec 27 rfl (fun hc27 => ?_) (fun hc27 => ?_)
  rotate_left; (exfalso; omega); rotate_right
  refine qm ?_
  refine qv (v_eql rfl rfl) ?_
  refine qv (v_pick_true rfl rfl) ?_
  refine qm ?_
  refine ow_dec 31 rfl (fun hc31 => ?_) (fun hc31 => ?_)
  rotate_left; (exfalso; omega); rotate_right
  refine qm ?_
  refine qv (v_eql rfl rfl) ?_
  refine qv (v_pick_true rfl rfl) ?_
  refine qm ?_
  refine ow_dec 35 rfl (fun hc35 => ?_) (fun hc35 => ?_)
  rotate_left; (exfalso; omega); rotate_right
  refine qm ?_
  (refine ow_call rfl rfl rfl rfl (get_has_c zsel hq18 w3 (by decide) hh0) ?_; rintro _ _ ⟨x37, rfl, hq37, rfl⟩)
  refine qv (v_neq_nil_some Tryz.underlying45 rfl) ?_
  refine qv (v_pick_true rfl rfl) ?_
  refine qm ?_
  refine qm ?_
  (refine ow_call rfl rfl rfl rfl (get_has_c zsel (tw 0 (by decide) hh0 _ hq37.1 |> fun _ => hq37.2) (tw 0 (by decide) hh0 _ hq37.1) (by decide) hh2) ?_; rintro _ _ ⟨x42, rfl, hq42, rfl⟩)
  refine qv (v_neq_nil_some Tryz.underlying45 rfl) ?_
  refine qv (v_pick_true rfl rfl) ?_
  refine qa ?_
  refine qt ?_
  refine cw_ret ?_
  refine ret1 rfl (res_tmp rfl) ?_
  exact ⟨rfl, zcov⟩
end Go.Proofs.YtnlaffkihohfkaaGreat
