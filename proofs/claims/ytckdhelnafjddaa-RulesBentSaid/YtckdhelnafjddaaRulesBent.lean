/- RulesBent: whatever the input it returns true. Conditions: none. -/
import Derived.Test.YtckdhelnafjddaaRuF
import Derived.Test.YtckdhelnafjddaaForm
namespace Go.Proofs.Ytckdhelnafjddaa.lawRulesBent
open Go Go.Sl Go.Proofs Go.RowKit Go.ChangeShapes Go.WideShapes Go.ChangeAt Go.Proofs.Ytckdhelnafjddaa
set_option maxRecDepth 20000
set_option linter.unusedVariables false
set_option linter.unusedSimpArgs false

def slL8 : List Nat := [30, 31, 32, 33, 34, 35, 36, 37, 38, 39, 40, 41, 42, 43, 44, 45, 46, 12]
def depL8 : List (List Nat) := [[], [], [1], [0, 2], [], [4], [], [6], [], [8], [], [10], [], [], [13], [12, 14], [3, 5, 7, 9, 11, 15], [16]]
def spL8 (k : Nat) (s : Int) (b7 b10 b9 : Nat) : List FB := [.val (mCl b7),
  .val (.int .u64 s),
  .val (.int .u64 (6 * s)),
  .evn (mB (6 * s) 0 0),
  .val (sCl b7 b10 b9),
  .evn (sB k s 0 1),
  .val (sCl b7 b10 b9),
  .evn (sB k s 1 1),
  .val (sCl b7 b10 b9),
  .evn (sB k s 2 0),
  .val (sCl b7 b10 b9),
  .evn (sB k s 5 1),
  .val (.func (.func 34) #[] #[]),
  .val (.int .u64 (k : Int)),
  .q [(k : Int), 5],
  .ev (evB 4 [(k : Int), 5]) 44,
  .evs [(33, (mB (6 * s) 0 0)), (35, (sB k s 0 1)), (37, (sB k s 1 1)), (39, (sB k s 2 0)), (41, (sB k s 5 1)), (45, (evB 4 [(k : Int), 5]))],
  .mv 46]
def slL9 : List Nat := [47, 48, 49, 50, 51, 52, 53, 54, 55, 56, 57, 58, 59, 60, 61, 62, 63, 64, 65, 66, 67, 68, 69, 70, 71, 72, 73, 74, 75, 76, 77, 78, 79, 80, 81, 82, 83, 84, 85, 86, 87, 88, 89, 90, 91, 92, 93, 94, 95, 96, 97, 98, 99, 100, 101, 102, 103, 104, 105, 106, 107, 108, 109, 110, 111, 112, 113, 114, 115, 116, 117, 118, 119, 120, 121, 122, 123, 124, 125, 126, 127, 128, 129, 130, 131, 132, 133, 134, 135, 136, 137, 138, 139, 140, 141, 142, 13]
def depL9 : List (List Nat) := [[], [0], [1], [2], [], [], [5], [4, 6], [7], [8], [], [], [11], [10, 12], [13], [14], [], [], [17], [16, 18], [19], [20], [], [], [22, 23], [24], [25], [], [], [28], [], [30], [27, 29, 31], [], [33], [32, 34], [35], [], [], [38], [], [40], [37, 39, 41], [], [43], [], [45], [], [47], [42, 44, 46, 48], [49], [], [], [51, 52], [], [54], [], [56], [53, 55, 57], [58], [], [], [60, 61], [], [63], [62, 64], [65], [], [], [67, 68], [], [], [70, 71], [69, 72], [73], [], [], [75, 76], [77], [78], [], [], [80, 81], [82], [83], [], [], [86], [85, 87], [], [], [90], [89, 91], [88, 92], [93], [3, 9, 15, 21, 26, 36, 50, 59, 66, 74, 79, 84, 94], [95]]
def spL9 (k : Nat) (s : Int) (b7 b10 b9 : Nat) : List FB := [.val (sCl b7 b10 b9),
  .evn (sB k s 5 0),
  .evs [(48, (sB k s 5 0))],
  .bent 49 1,
  .val (.func (.func 34) #[] #[]),
  .val (.int .u64 (k : Int)),
  .q [(k : Int), 5],
  .ev (evB 4 [(k : Int), 5]) 53,
  .evs [(54, (evB 4 [(k : Int), 5]))],
  .bent 55 1,
  .val (.func (.func 34) #[] #[]),
  .val (.int .u64 (k : Int)),
  .q [(k : Int), 1, 1],
  .ev (evB 5 [(k : Int), 1, 1]) 59,
  .evs [(60, (evB 5 [(k : Int), 1, 1]))],
  .bent 61 2,
  .val (.func (.func 34) #[] #[]),
  .val (.int .u64 (k : Int)),
  .q [(k : Int), 6, 0],
  .ev (evB 5 [(k : Int), 6, 0]) 65,
  .evs [(66, (evB 5 [(k : Int), 6, 0]))],
  .bent 67 2,
  .val (mCl b7),
  .val (.int .u64 s),
  .evn (mB s 0 0),
  .evs [(71, (mB s 0 0))],
  .bent 72 3,
  .val (mCl b7),
  .val (.int .u64 s),
  .val (.int .u64 (2 * s)),
  .val (.int .u64 s),
  .val (.int .u64 (2 * s)),
  .evn (mB (2 * s) (2 * s) 0),
  .val (sCl b7 b10 b9),
  .evn (sB k s 6 1),
  .evs [(79, (mB (2 * s) (2 * s) 0)), (81, (sB k s 6 1))],
  .bent 82 4,
  .val (mCl b7),
  .val (.int .u64 s),
  .val (.int .u64 (2 * s)),
  .val (.int .u64 s),
  .val (.int .u64 (2 * s)),
  .evn (mB (2 * s) (2 * s) 1),
  .val (sCl b7 b10 b9),
  .evn (sB k s 6 1),
  .val (sCl b7 b10 b9),
  .evn (sB k s 7 1),
  .val (sCl b7 b10 b9),
  .evn (sB k s 8 1),
  .evs [(89, (mB (2 * s) (2 * s) 1)), (91, (sB k s 6 1)), (93, (sB k s 7 1)), (95, (sB k s 8 1))],
  .bent 96 4,
  .val (.func (.func 34) #[] #[]),
  .q [3],
  .ev (evB 1 [3]) 99,
  .val (sCl b7 b10 b9),
  .evn (sB k s 6 0),
  .val (sCl b7 b10 b9),
  .evn (sB k s 7 1),
  .evs [(100, (evB 1 [3])), (102, (sB k s 6 0)), (104, (sB k s 7 1))],
  .bent 105 5,
  .val (.func (.func 34) #[] #[]),
  .q [4],
  .ev (evB 1 [4]) 108,
  .val (sCl b7 b10 b9),
  .evn (sB k s 6 0),
  .evs [(109, (evB 1 [4])), (111, (sB k s 6 0))],
  .bent 112 5,
  .val (.func (.func 34) #[] #[]),
  .q [2],
  .ev (evB 1 [2]) 115,
  .val (.func (.func 34) #[] #[]),
  .q [1],
  .ev (evB 1 [1]) 118,
  .evs [(116, (evB 1 [2])), (119, (evB 1 [1]))],
  .bent 120 5,
  .val (.func (.func 34) #[] #[]),
  .q [4, 10, 11, 5, 5],
  .ev (evB 9 [4, 10, 11, 5, 5]) 123,
  .evs [(124, (evB 9 [4, 10, 11, 5, 5]))],
  .bent 125 6,
  .val (.func (.func 34) #[] #[]),
  .q [4, 10, 10, 5, 6],
  .ev (evB 9 [4, 10, 10, 5, 6]) 128,
  .evs [(129, (evB 9 [4, 10, 10, 5, 6]))],
  .bent 130 6,
  .val (.func (.func 34) #[] #[]),
  .val (.int .u64 (k : Int)),
  .q [(k : Int), 0, 0],
  .ev (evB 5 [(k : Int), 0, 0]) 134,
  .val (.func (.func 34) #[] #[]),
  .val (.int .u64 (k : Int)),
  .q [(k : Int), 0, 0],
  .ev (evB 5 [(k : Int), 0, 0]) 138,
  .evs [(135, (evB 5 [(k : Int), 0, 0])), (139, (evB 5 [(k : Int), 0, 0]))],
  .bent 140 1,
  .fin [50, 56, 62, 68, 73, 83, 97, 106, 113, 121, 126, 131, 141],
  .mv 142]
def d8 (i : Nat) : Nat := slL8.getD i 0
def d9 (i : Nat) : Nat := slL9.getD i 0
def dep8 (i : Nat) : List Nat := depL8.getD i []
def dep9 (i : Nat) : List Nat := depL9.getD i []
def E08 (wh : Int) (b7 b10 b9 : Nat) : Env := [(0, .int .u8 wh), (7, .pointer (some ⟨b7, 0, none⟩)), (8, mCl b7), (9, .pointer (some ⟨b9, 0, none⟩)), (10, .pointer (some ⟨b10, 0, none⟩)), (11, sCl b7 b10 b9)]
def E09 (wh : Int) (b7 b10 b9 : Nat) (ao : Option Addr) : Env := (12, .slice ao 6 6) :: E08 wh b7 b10 b9
def G0B (k : Nat) (s : Int) (b7 b10 b9 : Nat) (F : List Hp) : List Hp := evCell b7 :: qCell b10 k :: qCell b9 s :: F
theorem bentB_len {k : Nat} {s : Int} {j : Nat} : (bentB k s j).1.length ≤ 4 := by
  unfold bentB
  split <;> simp
theorem bentB_pos {k : Nat} {s : Int} {j : Nat} : 1 ≤ (bentB k s j).1.length := by
  unfold bentB
  split <;> simp
structure J9 where
  ao : Option Addr
  bs : List Bt
  D : Hp
def J9.Is (k : Nat) (s : Int) (x : J9) : Prop := x.bs.length = 13 ∧ (∀ B w0 G, Sub x.D G → Vw enBt (St B w0 G) (.slice x.ao 13 13) x.bs) ∧ ∀ i (h : i < x.bs.length), BentAt x.D x.bs[i] (bentB k s i)
set_option maxHeartbeats 16000000 in
theorem law {B : Nat} {w0 : World} {wh nn size : Int} (h0 : 0 ≤ wh ∧ wh ≤ 255) (h1 : 0 ≤ nn ∧ nn ≤ 255) (h2 : 0 ≤ size ∧ size ≤ 65535) :
    FnC Try.prog 8 #[.int .u8 wh, .int .u8 nn, .int .u16 size] B w0 [] (R0 (.bool true)) := fun F => by
  refine fn_enter Try.func8 rfl (by kernel_rfl) Try.ntmps8 (by simp) ?_
  refine cw_seq ?_
  refine cw_region ?_
  refine ow_val rfl rfl (v_assign rfl) ?_
  refine ow_nil ?_
  refine xw_then ?_
  refine cw_seq ?_
  refine cw_seq ?_
  refine cw_region ?_
  refine ow_val rfl rfl (v_call rfl rfl (awake31_c)) ?_
  refine ow_val rfl rfl (v_not_true rfl) ?_
  refine ow_nil ?_
  refine xw_then ?_
  refine cw_false rfl ?_
  refine cw_skip ?_
  refine xw_then ?_
  refine cw_seq ?_
  refine cw_region ?_
  (refine ow_alloc rfl rfl Ty.ze86 ?_; intro b7)
  refine ow_store1 rfl rfl rfl rfl Ty.sc86 .here (SetN.one (by first | decide | exact Nat.le_of_ble_eq_true rfl)) ?_
  refine ow_nil ?_
  refine xw_then ?_
  refine cw_seq ?_
  refine cw_region ?_
  refine ow_val rfl rfl (v_makeFunc rfl rfl) ?_
  refine ow_val rfl rfl (v_assign rfl) ?_
  refine ow_nil ?_
  refine xw_then ?_
  refine cw_seq ?_
  refine cw_region ?_
  refine ow_val rfl rfl (v_move rfl) ?_
  refine ow_val rfl rfl (v_convert Try.underlying85 Try.underlying22 rfl (nw_u64 (by omega) (by omega))) ?_
  refine ow_val rfl rfl (v_add rfl rfl (nw_u64 (by omega) (by omega))) ?_
  (refine ow_alloc rfl rfl Ty.ze22 ?_; intro b9)
  refine ow_store1 rfl rfl rfl rfl Ty.sc22 .here (SetN.one (by first | decide | exact Nat.le_of_ble_eq_true rfl)) ?_
  refine ow_nil ?_
  refine xw_then ?_
  refine cw_seq ?_
  refine cw_region ?_
  refine ow_val rfl rfl (v_move rfl) ?_
  refine ow_val rfl rfl (v_rem rfl rfl (by decide)) ?_
  refine ow_val rfl rfl (v_convert Try.underlying5 Try.underlying22 rfl rfl) ?_
  (refine ow_alloc rfl rfl Ty.ze22 ?_; intro b10)
  refine ow_store1 rfl rfl rfl rfl Ty.sc22 .here (SetN.one (by first | decide | exact Nat.le_of_ble_eq_true rfl)) ?_
  refine ow_nil ?_
  refine xw_then ?_
  refine cw_seq ?_
  refine cw_region ?_
  refine ow_val rfl rfl (v_makeFunc rfl rfl) ?_
  refine ow_val rfl rfl (v_assign rfl) ?_
  refine ow_nil ?_
  refine xw_then ?_
  obtain ⟨k, hk3, hkn⟩ : ∃ k : Nat, k < 3 ∧ nn.tmod 3 = (k : Int) := ⟨(nn.tmod 3).toNat, by rw [Int.tmod_eq_emod_of_nonneg h1.1]; omega, by rw [Int.tmod_eq_emod_of_nonneg h1.1]; omega⟩
  rw [hkn, show IntKind.u64.wrap (k : Int) = k from wrap_q ⟨by omega, by omega⟩]
  obtain ⟨s, hs, hse⟩ : ∃ s : Int, (1 ≤ s ∧ s ≤ 65536) ∧ 1 + size = s := ⟨1 + size, by omega, rfl⟩
  rw [hse]
  clear hkn hse
  refine cw_cov (G0B k s b7 b10 b9 F) (by show Cov ([_] :: [_] :: [_] :: F) _; exact (by first | exact Cov.refl _ | (intro p; simp only [List.flatten_cons, List.flatten_nil, List.flatten_append, List.append_nil, List.nil_append, cnt_append, cnt_cons, cnt_nil, List.set_cons_zero, List.set_cons_succ, List.length_nil, List.length_cons, Nat.zero_add, List.append]; omega))) ?_
  refine cw_env (E08 wh b7 b10 b9) (by repeat (first | exact True.intro | refine And.intro rfl ?_)) ?_
  refine cw_seq_cut (ι := Option Addr × Hp) (fun x => Row x.2 x.1 6 (baseB k s)) (fun x => x.2 :: G0B k s b7 b10 b9 F) (fun x => E09 wh b7 b10 b9 x.1) ?_ ?_
  · refine cw_any Ty.mixed ?_
    refine aw_free (d := d8) (dep := dep8) (spec := fun i ρ v c => FB.spec ρ v c ((spL8 k s b7 b10 b9).getD i (.val (.bool false)))) (K := [17]) (by decide +kernel) (by decide +kernel) (by decide +kernel) (fun i hi => look_none (n := 18) (by rfl) i hi) (fun i hi ρ ρ' v c h hs => FB.loc (slots_loc (n := 18) (d := d8) (dep := dep8) rfl hi h) hs) (AllFrom.zero (n := 18) ?_) ?_ (by decide)
    · refine AllFrom.imp (p := FRunV _ _ _ _ _ _ d8 dep8 (spL8 k s b7 b10 b9) (E08 wh b7 b10 b9) (G0B k s b7 b10 b9 F)) (fun i h => h.run) ?_
      show AllFrom (FRunV _ _ _ _ _ _ d8 dep8 (spL8 k s b7 b10 b9) (E08 wh b7 b10 b9) (G0B k s b7 b10 b9 F)) 0 18
      refine ⟨fun ρ χ X Y K hd hK => ⟨_, rfl, ?_⟩, ?_⟩
      · exact ow_val rfl rfl (v_move rfl) (fdV hK)
      refine ⟨fun ρ χ X Y K hd hK => ⟨_, rfl, ?_⟩, ?_⟩
      · exact ow_val rfl rfl (v_load rfl (Var.sub1 Ty.sc22 (Sub.there (Sub.there Sub.here)) (.head _) (GetN.lit rfl))) (fdV hK)
      refine ⟨fun ρ χ X Y K hd hK => ⟨_, rfl, ?_⟩, ?_⟩
      · exact ow_val rfl rfl (v_mul rfl rfl (nw_u64 (by omega) (by omega))) (fdV hK)
      refine ⟨fun ρ χ X Y K hd hK => ⟨_, rfl, ?_⟩, ?_⟩
      · exact ow_call rfl rfl rfl rfl (mC_c (w := (6 * s)) (f := 0) (p := 0) Sub.here (by show _ ∧ _; omega) (by show _ ∧ _; omega) (by show _ ∧ _; omega)) fun _ _ h => fdE hK h
      refine ⟨fun ρ χ X Y K hd hK => ⟨_, rfl, ?_⟩, ?_⟩
      · exact ow_val rfl rfl (v_move rfl) (fdV hK)
      refine ⟨fun ρ χ X Y K hd hK => ⟨_, rfl, ?_⟩, ?_⟩
      · exact ow_call rfl rfl rfl rfl (sentC_c (n := 0) (fl := 1) (s := s) (k := k) Sub.here (Sub.there Sub.here) (Sub.there (Sub.there Sub.here)) (by show _ ∧ _; omega) (by show _ ∧ _; omega) (by show _ ∧ _; omega) (by show _ ∧ _; omega)) fun _ _ h => fdE hK h
      refine ⟨fun ρ χ X Y K hd hK => ⟨_, rfl, ?_⟩, ?_⟩
      · exact ow_val rfl rfl (v_move rfl) (fdV hK)
      refine ⟨fun ρ χ X Y K hd hK => ⟨_, rfl, ?_⟩, ?_⟩
      · exact ow_call rfl rfl rfl rfl (sentC_c (n := 1) (fl := 1) (s := s) (k := k) Sub.here (Sub.there Sub.here) (Sub.there (Sub.there Sub.here)) (by show _ ∧ _; omega) (by show _ ∧ _; omega) (by show _ ∧ _; omega) (by show _ ∧ _; omega)) fun _ _ h => fdE hK h
      refine ⟨fun ρ χ X Y K hd hK => ⟨_, rfl, ?_⟩, ?_⟩
      · exact ow_val rfl rfl (v_move rfl) (fdV hK)
      refine ⟨fun ρ χ X Y K hd hK => ⟨_, rfl, ?_⟩, ?_⟩
      · exact ow_call rfl rfl rfl rfl (sentC_c (n := 2) (fl := 0) (s := s) (k := k) Sub.here (Sub.there Sub.here) (Sub.there (Sub.there Sub.here)) (by show _ ∧ _; omega) (by show _ ∧ _; omega) (by show _ ∧ _; omega) (by show _ ∧ _; omega)) fun _ _ h => fdE hK h
      refine ⟨fun ρ χ X Y K hd hK => ⟨_, rfl, ?_⟩, ?_⟩
      · exact ow_val rfl rfl (v_move rfl) (fdV hK)
      refine ⟨fun ρ χ X Y K hd hK => ⟨_, rfl, ?_⟩, ?_⟩
      · exact ow_call rfl rfl rfl rfl (sentC_c (n := 5) (fl := 1) (s := s) (k := k) Sub.here (Sub.there Sub.here) (Sub.there (Sub.there Sub.here)) (by show _ ∧ _; omega) (by show _ ∧ _; omega) (by show _ ∧ _; omega) (by show _ ∧ _; omega)) fun _ _ h => fdE hK h
      refine ⟨fun ρ χ X Y K hd hK => ⟨_, rfl, ?_⟩, ?_⟩
      · exact ow_val rfl rfl (v_load rfl (Var.sub1 Ty.sc86 Sub.here (.head _) (GetN.lit rfl))) (fdV hK)
      refine ⟨fun ρ χ X Y K hd hK => ⟨_, rfl, ?_⟩, ?_⟩
      · exact ow_val rfl rfl (v_load rfl (Var.sub1 Ty.sc22 (Sub.there Sub.here) (.head _) (GetN.lit rfl))) (fdV hK)
      refine ⟨fun ρ χ X Y K hd hK => ⟨_, rfl, ?_⟩, ?_⟩
      · refine ow_buildL (es := [(k : Int), 5]) rfl rfl Try.underlying60 Ty.em60 qTy rfl rfl (by repeat (first | exact List.forall_mem_nil _ | refine List.forall_mem_cons.2 ⟨?_, ?_⟩ | (show _ ∧ _; omega))) (by simp only [List.length_cons, List.length_nil]; decide) ?_
        exact fun ao c hL => fdQ hK hL
      refine ⟨fun ρ χ X Y K hd hK => ⟨_, rfl, ?_⟩, ?_⟩
      · have h44 : FB.spec ρ (ρ 44) (χ 14) (.q [(k : Int), 5]) := hd 14 (.tail _ (.head _))
        show OW _ _ _ _ _ _ (G0B k s b7 b10 b9 F ++ X) ((42, (.func (.func 34) #[] #[])) :: (44, ρ 44) :: (E08 wh b7 b10 b9 ++ Y)) [_]
        obtain ⟨ao, x, hx, hLx, -⟩ := h44
        dsimp only [List.length_cons, List.length_nil] at hx
        rw [hx]
        refine ow_val rfl rfl (v_call rfl rfl evC_c) ?_
        exact fd hK (evV (evB 4 [(k : Int), 5]) ao) [] ⟨ao, hx, rfl, rfl⟩ (by show _ = _ :: (42, (.func (.func 34) #[] #[])) :: (44, ρ 44) :: (E08 wh b7 b10 b9 ++ Y); rw [hx] <;> rfl) 
      refine ⟨fun ρ χ X Y K hd hK => ⟨_, rfl, ?_⟩, ?_⟩
      · have h33 : FB.spec ρ (ρ 33) (χ 3) (.evn (mB (6 * s) 0 0)) := hd 3 (.head _)
        have h35 : FB.spec ρ (ρ 35) (χ 5) (.evn (sB k s 0 1)) := hd 5 (.tail _ (.head _))
        have h37 : FB.spec ρ (ρ 37) (χ 7) (.evn (sB k s 1 1)) := hd 7 (.tail _ (.tail _ (.head _)))
        have h39 : FB.spec ρ (ρ 39) (χ 9) (.evn (sB k s 2 0)) := hd 9 (.tail _ (.tail _ (.tail _ (.head _))))
        have h41 : FB.spec ρ (ρ 41) (χ 11) (.evn (sB k s 5 1)) := hd 11 (.tail _ (.tail _ (.tail _ (.tail _ (.head _)))))
        have h45 : FB.spec ρ (ρ 45) (χ 15) (.ev (evB 4 [(k : Int), 5]) 44) := hd 15 (.tail _ (.tail _ (.tail _ (.tail _ (.tail _ (.head _))))))
        show OW _ _ _ _ _ _ (G0B k s b7 b10 b9 F ++ X) ((33, ρ 33) :: (35, ρ 35) :: (37, ρ 37) :: (39, ρ 39) :: (41, ρ 41) :: (45, ρ 45) :: (E08 wh b7 b10 b9 ++ Y)) [_]
        obtain ⟨a33, hx33⟩ := ev_val h33 (mB (6 * s) 0 0) rfl
        obtain ⟨a35, hx35⟩ := ev_val h35 (sB k s 0 1) rfl
        obtain ⟨a37, hx37⟩ := ev_val h37 (sB k s 1 1) rfl
        obtain ⟨a39, hx39⟩ := ev_val h39 (sB k s 2 0) rfl
        obtain ⟨a41, hx41⟩ := ev_val h41 (sB k s 5 1) rfl
        obtain ⟨a45, hx45⟩ := ev_val h45 (evB 4 [(k : Int), 5]) rfl
        rw [hx33, hx35, hx37, hx39, hx41, hx45]
        refine ow_buildL (es := [(mB (6 * s) 0 0).one a33, (sB k s 0 1).one a35, (sB k s 1 1).one a37, (sB k s 2 0).one a39, (sB k s 5 1).one a41, (evB 4 [(k : Int), 5]).one a45]) rfl rfl Try.underlying57 Ty.em57 evTy rfl rfl (by repeat (first | exact List.forall_mem_nil _ | refine List.forall_mem_cons.2 ⟨?_, ?_⟩ | exact evB_ok (by omega) (by simp) (by intro x hx; simp only [List.mem_cons, List.not_mem_nil, or_false] at hx; show _ ∧ _; omega))) (by simp only [List.length_cons, List.length_nil]; decide) ?_
        intro ao c hL
        exact fd hK _ [c] ⟨[(mB (6 * s) 0 0).one a33, (sB k s 0 1).one a35, (sB k s 1 1).one a37, (sB k s 2 0).one a39, (sB k s 5 1).one a41, (evB 4 [(k : Int), 5]).one a45], (by show _ = [ρ 33, ρ 35, ρ 37, ρ 39, ρ 41, ρ 45]; rw [hx33, hx35, hx37, hx39, hx41, hx45] <;> rfl), rfl, ao, c, rfl, hL, rfl⟩ (by show _ = _ :: (33, ρ 33) :: (35, ρ 35) :: (37, ρ 37) :: (39, ρ 39) :: (41, ρ 41) :: (45, ρ 45) :: (E08 wh b7 b10 b9 ++ Y); rw [hx33, hx35, hx37, hx39, hx41, hx45] <;> rfl) 
      refine ⟨fun ρ χ X Y K hd hK => ⟨_, rfl, ?_⟩, ?_⟩
      · have h46 : FB.spec ρ (ρ 46) (χ 16) (.evs [(33, (mB (6 * s) 0 0)), (35, (sB k s 0 1)), (37, (sB k s 1 1)), (39, (sB k s 2 0)), (41, (sB k s 5 1)), (45, (evB 4 [(k : Int), 5]))]) := hd 16 (.head _)
        show OW _ _ _ _ _ _ (G0B k s b7 b10 b9 F ++ X) ((46, ρ 46) :: (E08 wh b7 b10 b9 ++ Y)) [_]
        refine ow_val rfl rfl (v_assign rfl) ?_
        exact fd hK _ [] ⟨rfl, rfl⟩ rfl
      exact True.intro
    · intro ρ χ L hL hs
      refine xw_np ?_
      generalize hD : (L.flatMap χ).flatten = D
      have hLx : ∀ i, i < 18 → i ∈ L := hL
      have hsx : ∀ i, i < 18 → FB.spec ρ (ρ (d8 i)) (χ i) ((spL8 k s b7 b10 b9).getD i (.val (.bool false))) := hs
      have e33 : EvAt D (ρ 33) (mB (6 * s) 0 0) := evn_at (hsx 3 (by decide)) (hD ▸ flat_has (hLx 3 (by decide))) rfl
      have e35 : EvAt D (ρ 35) (sB k s 0 1) := evn_at (hsx 5 (by decide)) (hD ▸ flat_has (hLx 5 (by decide))) rfl
      have e37 : EvAt D (ρ 37) (sB k s 1 1) := evn_at (hsx 7 (by decide)) (hD ▸ flat_has (hLx 7 (by decide))) rfl
      have e39 : EvAt D (ρ 39) (sB k s 2 0) := evn_at (hsx 9 (by decide)) (hD ▸ flat_has (hLx 9 (by decide))) rfl
      have e41 : EvAt D (ρ 41) (sB k s 5 1) := evn_at (hsx 11 (by decide)) (hD ▸ flat_has (hLx 11 (by decide))) rfl
      have e45 : EvAt D (ρ 45) (evB 4 [(k : Int), 5]) := ev_at (j := 44) (cj := χ 14) (hsx 15 (by decide)) (hsx 14 (by decide)) (hD ▸ flat_has (hLx 14 (by decide))) rfl
      have r46 := row_of (D := D) (ρ := ρ) (l := [(33, (mB (6 * s) 0 0)), (35, (sB k s 0 1)), (37, (sB k s 1 1)), (39, (sB k s 2 0)), (41, (sB k s 5 1)), (45, (evB 4 [(k : Int), 5]))]) (hsx 16 (by decide)) (hD ▸ flat_has (hLx 16 (by decide))) (List.forall_mem_cons.2 ⟨e33, List.forall_mem_cons.2 ⟨e35, List.forall_mem_cons.2 ⟨e37, List.forall_mem_cons.2 ⟨e39, List.forall_mem_cons.2 ⟨e41, List.forall_mem_cons.2 ⟨e45, List.forall_mem_nil _⟩⟩⟩⟩⟩⟩)
      obtain ⟨ao, hv, hR⟩ : ∃ ao, ρ 46 = .slice ao 6 6 ∧ Row D ao 6 (baseB k s) := r46
      have hm : FB.spec ρ (ρ 12) (χ 17) (.mv 46) := hsx 17 (by decide)
      refine xw_joint ((ao, D) : Option Addr × Hp) hR ?_ ?_
      · show Cov (D :: G0B k s b7 b10 b9 F) (L.flatMap χ ++ G0B k s b7 b10 b9 F)
        rw [← hD]
        intro p
        simp only [List.flatten_cons, List.flatten_append, cnt_append]
        omega
      · refine ⟨?_, (by repeat (first | exact True.intro | refine And.intro rfl ?_))⟩
        show some (ρ 12) = some (.slice ao 6 6)
        rw [hm.1, hv] <;> rfl
  rintro ⟨ao12, D12⟩ hR12
  dsimp only at hR12 ⊢
  skip
  refine cw_seq_cut (ι := J9) (J9.Is k s) (fun x => x.D :: D12 :: G0B k s b7 b10 b9 F) (fun x => (13, .slice x.ao 13 13) :: E09 wh b7 b10 b9 ao12) ?_ ?_
  · refine cw_cov (G0B k s b7 b10 b9 (D12 :: F)) (by show Cov (evCell b7 :: qCell b10 k :: qCell b9 s :: D12 :: F) (D12 :: evCell b7 :: qCell b10 k :: qCell b9 s :: F); exact (by first | exact Cov.refl _ | (intro p; simp only [List.flatten_cons, List.flatten_nil, List.flatten_append, List.append_nil, List.nil_append, cnt_append, cnt_cons, cnt_nil, List.set_cons_zero, List.set_cons_succ, List.length_nil, List.length_cons, Nat.zero_add, List.append]; omega))) ?_
    refine cw_any Ty.mixed ?_
    refine aw_free (d := d9) (dep := dep9) (spec := fun i ρ v c => FB.spec ρ v c ((spL9 k s b7 b10 b9).getD i (.val (.bool false)))) (K := [96]) (by decide +kernel) (by decide +kernel) (by decide +kernel) (fun i hi => look_none (n := 97) (by rfl) i hi) (fun i hi ρ ρ' v c h hs => FB.loc (slots_loc (n := 97) (d := d9) (dep := dep9) rfl hi h) hs) (AllFrom.zero (n := 97) ?_) ?_ (by decide)
    · refine AllFrom.imp (p := FRunV _ _ _ _ _ _ d9 dep9 (spL9 k s b7 b10 b9) (E09 wh b7 b10 b9 ao12) (G0B k s b7 b10 b9 (D12 :: F))) (fun i h => h.run) ?_
      show AllFrom (FRunV _ _ _ _ _ _ d9 dep9 (spL9 k s b7 b10 b9) (E09 wh b7 b10 b9 ao12) (G0B k s b7 b10 b9 (D12 :: F))) 0 97
      refine ⟨fun ρ χ X Y K hd hK => ⟨_, rfl, ?_⟩, ?_⟩
      · exact ow_val rfl rfl (v_move rfl) (fdV hK)
      refine ⟨fun ρ χ X Y K hd hK => ⟨_, rfl, ?_⟩, ?_⟩
      · exact ow_call rfl rfl rfl rfl (sentC_c (n := 5) (fl := 0) (s := s) (k := k) Sub.here (Sub.there Sub.here) (Sub.there (Sub.there Sub.here)) (by show _ ∧ _; omega) (by show _ ∧ _; omega) (by show _ ∧ _; omega) (by show _ ∧ _; omega)) fun _ _ h => fdE hK h
      refine ⟨fun ρ χ X Y K hd hK => ⟨_, rfl, ?_⟩, ?_⟩
      · have h48 : FB.spec ρ (ρ 48) (χ 1) (.evn (sB k s 5 0)) := hd 1 (.head _)
        show OW _ _ _ _ _ _ (G0B k s b7 b10 b9 (D12 :: F) ++ X) ((48, ρ 48) :: (E09 wh b7 b10 b9 ao12 ++ Y)) [_]
        obtain ⟨a48, hx48⟩ := ev_val h48 (sB k s 5 0) rfl
        rw [hx48]
        refine ow_buildL (es := [(sB k s 5 0).one a48]) rfl rfl Try.underlying57 Ty.em57 evTy rfl rfl (by repeat (first | exact List.forall_mem_nil _ | refine List.forall_mem_cons.2 ⟨?_, ?_⟩ | exact evB_ok (by omega) (by simp) (by intro x hx; simp only [List.mem_cons, List.not_mem_nil, or_false] at hx; show _ ∧ _; omega))) (by simp only [List.length_cons, List.length_nil]; decide) ?_
        intro ao c hL
        exact fd hK _ [c] ⟨[(sB k s 5 0).one a48], (by show _ = [ρ 48]; rw [hx48] <;> rfl), rfl, ao, c, rfl, hL, rfl⟩ (by show _ = _ :: (48, ρ 48) :: (E09 wh b7 b10 b9 ao12 ++ Y); rw [hx48] <;> rfl) 
      refine ⟨fun ρ χ X Y K hd hK => ⟨_, rfl, ?_⟩, ?_⟩
      · have h49 : FB.spec ρ (ρ 49) (χ 2) (.evs [(48, (sB k s 5 0))]) := hd 2 (.head _)
        show OW _ _ _ _ _ _ (G0B k s b7 b10 b9 (D12 :: F) ++ X) ((49, ρ 49) :: (E09 wh b7 b10 b9 ao12 ++ Y)) [_]
        obtain ⟨es, -, -, ao, x, hx, -, -⟩ := h49
        rw [hx]
        refine ow_val rfl rfl (v_build rfl b_bent) ?_
        exact fd hK _ [] ⟨ao, es.length, hx, rfl, rfl⟩ (by show _ = _ :: (49, ρ 49) :: (E09 wh b7 b10 b9 ao12 ++ Y); rw [hx] <;> rfl) 
      refine ⟨fun ρ χ X Y K hd hK => ⟨_, rfl, ?_⟩, ?_⟩
      · exact ow_val rfl rfl (v_load rfl (Var.sub1 Ty.sc86 Sub.here (.head _) (GetN.lit rfl))) (fdV hK)
      refine ⟨fun ρ χ X Y K hd hK => ⟨_, rfl, ?_⟩, ?_⟩
      · exact ow_val rfl rfl (v_load rfl (Var.sub1 Ty.sc22 (Sub.there Sub.here) (.head _) (GetN.lit rfl))) (fdV hK)
      refine ⟨fun ρ χ X Y K hd hK => ⟨_, rfl, ?_⟩, ?_⟩
      · refine ow_buildL (es := [(k : Int), 5]) rfl rfl Try.underlying60 Ty.em60 qTy rfl rfl (by repeat (first | exact List.forall_mem_nil _ | refine List.forall_mem_cons.2 ⟨?_, ?_⟩ | (show _ ∧ _; omega))) (by simp only [List.length_cons, List.length_nil]; decide) ?_
        exact fun ao c hL => fdQ hK hL
      refine ⟨fun ρ χ X Y K hd hK => ⟨_, rfl, ?_⟩, ?_⟩
      · have h53 : FB.spec ρ (ρ 53) (χ 6) (.q [(k : Int), 5]) := hd 6 (.tail _ (.head _))
        show OW _ _ _ _ _ _ (G0B k s b7 b10 b9 (D12 :: F) ++ X) ((51, (.func (.func 34) #[] #[])) :: (53, ρ 53) :: (E09 wh b7 b10 b9 ao12 ++ Y)) [_]
        obtain ⟨ao, x, hx, hLx, -⟩ := h53
        dsimp only [List.length_cons, List.length_nil] at hx
        rw [hx]
        refine ow_val rfl rfl (v_call rfl rfl evC_c) ?_
        exact fd hK (evV (evB 4 [(k : Int), 5]) ao) [] ⟨ao, hx, rfl, rfl⟩ (by show _ = _ :: (51, (.func (.func 34) #[] #[])) :: (53, ρ 53) :: (E09 wh b7 b10 b9 ao12 ++ Y); rw [hx] <;> rfl) 
      refine ⟨fun ρ χ X Y K hd hK => ⟨_, rfl, ?_⟩, ?_⟩
      · have h54 : FB.spec ρ (ρ 54) (χ 7) (.ev (evB 4 [(k : Int), 5]) 53) := hd 7 (.head _)
        show OW _ _ _ _ _ _ (G0B k s b7 b10 b9 (D12 :: F) ++ X) ((54, ρ 54) :: (E09 wh b7 b10 b9 ao12 ++ Y)) [_]
        obtain ⟨a54, hx54⟩ := ev_val h54 (evB 4 [(k : Int), 5]) rfl
        rw [hx54]
        refine ow_buildL (es := [(evB 4 [(k : Int), 5]).one a54]) rfl rfl Try.underlying57 Ty.em57 evTy rfl rfl (by repeat (first | exact List.forall_mem_nil _ | refine List.forall_mem_cons.2 ⟨?_, ?_⟩ | exact evB_ok (by omega) (by simp) (by intro x hx; simp only [List.mem_cons, List.not_mem_nil, or_false] at hx; show _ ∧ _; omega))) (by simp only [List.length_cons, List.length_nil]; decide) ?_
        intro ao c hL
        exact fd hK _ [c] ⟨[(evB 4 [(k : Int), 5]).one a54], (by show _ = [ρ 54]; rw [hx54] <;> rfl), rfl, ao, c, rfl, hL, rfl⟩ (by show _ = _ :: (54, ρ 54) :: (E09 wh b7 b10 b9 ao12 ++ Y); rw [hx54] <;> rfl) 
      refine ⟨fun ρ χ X Y K hd hK => ⟨_, rfl, ?_⟩, ?_⟩
      · have h55 : FB.spec ρ (ρ 55) (χ 8) (.evs [(54, (evB 4 [(k : Int), 5]))]) := hd 8 (.head _)
        show OW _ _ _ _ _ _ (G0B k s b7 b10 b9 (D12 :: F) ++ X) ((55, ρ 55) :: (E09 wh b7 b10 b9 ao12 ++ Y)) [_]
        obtain ⟨es, -, -, ao, x, hx, -, -⟩ := h55
        rw [hx]
        refine ow_val rfl rfl (v_build rfl b_bent) ?_
        exact fd hK _ [] ⟨ao, es.length, hx, rfl, rfl⟩ (by show _ = _ :: (55, ρ 55) :: (E09 wh b7 b10 b9 ao12 ++ Y); rw [hx] <;> rfl) 
      refine ⟨fun ρ χ X Y K hd hK => ⟨_, rfl, ?_⟩, ?_⟩
      · exact ow_val rfl rfl (v_load rfl (Var.sub1 Ty.sc86 Sub.here (.head _) (GetN.lit rfl))) (fdV hK)
      refine ⟨fun ρ χ X Y K hd hK => ⟨_, rfl, ?_⟩, ?_⟩
      · exact ow_val rfl rfl (v_load rfl (Var.sub1 Ty.sc22 (Sub.there Sub.here) (.head _) (GetN.lit rfl))) (fdV hK)
      refine ⟨fun ρ χ X Y K hd hK => ⟨_, rfl, ?_⟩, ?_⟩
      · refine ow_buildL (es := [(k : Int), 1, 1]) rfl rfl Try.underlying60 Ty.em60 qTy rfl rfl (by repeat (first | exact List.forall_mem_nil _ | refine List.forall_mem_cons.2 ⟨?_, ?_⟩ | (show _ ∧ _; omega))) (by simp only [List.length_cons, List.length_nil]; decide) ?_
        exact fun ao c hL => fdQ hK hL
      refine ⟨fun ρ χ X Y K hd hK => ⟨_, rfl, ?_⟩, ?_⟩
      · have h59 : FB.spec ρ (ρ 59) (χ 12) (.q [(k : Int), 1, 1]) := hd 12 (.tail _ (.head _))
        show OW _ _ _ _ _ _ (G0B k s b7 b10 b9 (D12 :: F) ++ X) ((57, (.func (.func 34) #[] #[])) :: (59, ρ 59) :: (E09 wh b7 b10 b9 ao12 ++ Y)) [_]
        obtain ⟨ao, x, hx, hLx, -⟩ := h59
        dsimp only [List.length_cons, List.length_nil] at hx
        rw [hx]
        refine ow_val rfl rfl (v_call rfl rfl evC_c) ?_
        exact fd hK (evV (evB 5 [(k : Int), 1, 1]) ao) [] ⟨ao, hx, rfl, rfl⟩ (by show _ = _ :: (57, (.func (.func 34) #[] #[])) :: (59, ρ 59) :: (E09 wh b7 b10 b9 ao12 ++ Y); rw [hx] <;> rfl) 
      refine ⟨fun ρ χ X Y K hd hK => ⟨_, rfl, ?_⟩, ?_⟩
      · have h60 : FB.spec ρ (ρ 60) (χ 13) (.ev (evB 5 [(k : Int), 1, 1]) 59) := hd 13 (.head _)
        show OW _ _ _ _ _ _ (G0B k s b7 b10 b9 (D12 :: F) ++ X) ((60, ρ 60) :: (E09 wh b7 b10 b9 ao12 ++ Y)) [_]
        obtain ⟨a60, hx60⟩ := ev_val h60 (evB 5 [(k : Int), 1, 1]) rfl
        rw [hx60]
        refine ow_buildL (es := [(evB 5 [(k : Int), 1, 1]).one a60]) rfl rfl Try.underlying57 Ty.em57 evTy rfl rfl (by repeat (first | exact List.forall_mem_nil _ | refine List.forall_mem_cons.2 ⟨?_, ?_⟩ | exact evB_ok (by omega) (by simp) (by intro x hx; simp only [List.mem_cons, List.not_mem_nil, or_false] at hx; show _ ∧ _; omega))) (by simp only [List.length_cons, List.length_nil]; decide) ?_
        intro ao c hL
        exact fd hK _ [c] ⟨[(evB 5 [(k : Int), 1, 1]).one a60], (by show _ = [ρ 60]; rw [hx60] <;> rfl), rfl, ao, c, rfl, hL, rfl⟩ (by show _ = _ :: (60, ρ 60) :: (E09 wh b7 b10 b9 ao12 ++ Y); rw [hx60] <;> rfl) 
      refine ⟨fun ρ χ X Y K hd hK => ⟨_, rfl, ?_⟩, ?_⟩
      · have h61 : FB.spec ρ (ρ 61) (χ 14) (.evs [(60, (evB 5 [(k : Int), 1, 1]))]) := hd 14 (.head _)
        show OW _ _ _ _ _ _ (G0B k s b7 b10 b9 (D12 :: F) ++ X) ((61, ρ 61) :: (E09 wh b7 b10 b9 ao12 ++ Y)) [_]
        obtain ⟨es, -, -, ao, x, hx, -, -⟩ := h61
        rw [hx]
        refine ow_val rfl rfl (v_build rfl b_bent) ?_
        exact fd hK _ [] ⟨ao, es.length, hx, rfl, rfl⟩ (by show _ = _ :: (61, ρ 61) :: (E09 wh b7 b10 b9 ao12 ++ Y); rw [hx] <;> rfl) 
      refine ⟨fun ρ χ X Y K hd hK => ⟨_, rfl, ?_⟩, ?_⟩
      · exact ow_val rfl rfl (v_load rfl (Var.sub1 Ty.sc86 Sub.here (.head _) (GetN.lit rfl))) (fdV hK)
      refine ⟨fun ρ χ X Y K hd hK => ⟨_, rfl, ?_⟩, ?_⟩
      · exact ow_val rfl rfl (v_load rfl (Var.sub1 Ty.sc22 (Sub.there Sub.here) (.head _) (GetN.lit rfl))) (fdV hK)
      refine ⟨fun ρ χ X Y K hd hK => ⟨_, rfl, ?_⟩, ?_⟩
      · refine ow_buildL (es := [(k : Int), 6, 0]) rfl rfl Try.underlying60 Ty.em60 qTy rfl rfl (by repeat (first | exact List.forall_mem_nil _ | refine List.forall_mem_cons.2 ⟨?_, ?_⟩ | (show _ ∧ _; omega))) (by simp only [List.length_cons, List.length_nil]; decide) ?_
        exact fun ao c hL => fdQ hK hL
      refine ⟨fun ρ χ X Y K hd hK => ⟨_, rfl, ?_⟩, ?_⟩
      · have h65 : FB.spec ρ (ρ 65) (χ 18) (.q [(k : Int), 6, 0]) := hd 18 (.tail _ (.head _))
        show OW _ _ _ _ _ _ (G0B k s b7 b10 b9 (D12 :: F) ++ X) ((63, (.func (.func 34) #[] #[])) :: (65, ρ 65) :: (E09 wh b7 b10 b9 ao12 ++ Y)) [_]
        obtain ⟨ao, x, hx, hLx, -⟩ := h65
        dsimp only [List.length_cons, List.length_nil] at hx
        rw [hx]
        refine ow_val rfl rfl (v_call rfl rfl evC_c) ?_
        exact fd hK (evV (evB 5 [(k : Int), 6, 0]) ao) [] ⟨ao, hx, rfl, rfl⟩ (by show _ = _ :: (63, (.func (.func 34) #[] #[])) :: (65, ρ 65) :: (E09 wh b7 b10 b9 ao12 ++ Y); rw [hx] <;> rfl) 
      refine ⟨fun ρ χ X Y K hd hK => ⟨_, rfl, ?_⟩, ?_⟩
      · have h66 : FB.spec ρ (ρ 66) (χ 19) (.ev (evB 5 [(k : Int), 6, 0]) 65) := hd 19 (.head _)
        show OW _ _ _ _ _ _ (G0B k s b7 b10 b9 (D12 :: F) ++ X) ((66, ρ 66) :: (E09 wh b7 b10 b9 ao12 ++ Y)) [_]
        obtain ⟨a66, hx66⟩ := ev_val h66 (evB 5 [(k : Int), 6, 0]) rfl
        rw [hx66]
        refine ow_buildL (es := [(evB 5 [(k : Int), 6, 0]).one a66]) rfl rfl Try.underlying57 Ty.em57 evTy rfl rfl (by repeat (first | exact List.forall_mem_nil _ | refine List.forall_mem_cons.2 ⟨?_, ?_⟩ | exact evB_ok (by omega) (by simp) (by intro x hx; simp only [List.mem_cons, List.not_mem_nil, or_false] at hx; show _ ∧ _; omega))) (by simp only [List.length_cons, List.length_nil]; decide) ?_
        intro ao c hL
        exact fd hK _ [c] ⟨[(evB 5 [(k : Int), 6, 0]).one a66], (by show _ = [ρ 66]; rw [hx66] <;> rfl), rfl, ao, c, rfl, hL, rfl⟩ (by show _ = _ :: (66, ρ 66) :: (E09 wh b7 b10 b9 ao12 ++ Y); rw [hx66] <;> rfl) 
      refine ⟨fun ρ χ X Y K hd hK => ⟨_, rfl, ?_⟩, ?_⟩
      · have h67 : FB.spec ρ (ρ 67) (χ 20) (.evs [(66, (evB 5 [(k : Int), 6, 0]))]) := hd 20 (.head _)
        show OW _ _ _ _ _ _ (G0B k s b7 b10 b9 (D12 :: F) ++ X) ((67, ρ 67) :: (E09 wh b7 b10 b9 ao12 ++ Y)) [_]
        obtain ⟨es, -, -, ao, x, hx, -, -⟩ := h67
        rw [hx]
        refine ow_val rfl rfl (v_build rfl b_bent) ?_
        exact fd hK _ [] ⟨ao, es.length, hx, rfl, rfl⟩ (by show _ = _ :: (67, ρ 67) :: (E09 wh b7 b10 b9 ao12 ++ Y); rw [hx] <;> rfl) 
      refine ⟨fun ρ χ X Y K hd hK => ⟨_, rfl, ?_⟩, ?_⟩
      · exact ow_val rfl rfl (v_move rfl) (fdV hK)
      refine ⟨fun ρ χ X Y K hd hK => ⟨_, rfl, ?_⟩, ?_⟩
      · exact ow_val rfl rfl (v_load rfl (Var.sub1 Ty.sc22 (Sub.there (Sub.there Sub.here)) (.head _) (GetN.lit rfl))) (fdV hK)
      refine ⟨fun ρ χ X Y K hd hK => ⟨_, rfl, ?_⟩, ?_⟩
      · exact ow_call rfl rfl rfl rfl (mC_c (w := s) (f := 0) (p := 0) Sub.here (by show _ ∧ _; omega) (by show _ ∧ _; omega) (by show _ ∧ _; omega)) fun _ _ h => fdE hK h
      refine ⟨fun ρ χ X Y K hd hK => ⟨_, rfl, ?_⟩, ?_⟩
      · have h71 : FB.spec ρ (ρ 71) (χ 24) (.evn (mB s 0 0)) := hd 24 (.head _)
        show OW _ _ _ _ _ _ (G0B k s b7 b10 b9 (D12 :: F) ++ X) ((71, ρ 71) :: (E09 wh b7 b10 b9 ao12 ++ Y)) [_]
        obtain ⟨a71, hx71⟩ := ev_val h71 (mB s 0 0) rfl
        rw [hx71]
        refine ow_buildL (es := [(mB s 0 0).one a71]) rfl rfl Try.underlying57 Ty.em57 evTy rfl rfl (by repeat (first | exact List.forall_mem_nil _ | refine List.forall_mem_cons.2 ⟨?_, ?_⟩ | exact evB_ok (by omega) (by simp) (by intro x hx; simp only [List.mem_cons, List.not_mem_nil, or_false] at hx; show _ ∧ _; omega))) (by simp only [List.length_cons, List.length_nil]; decide) ?_
        intro ao c hL
        exact fd hK _ [c] ⟨[(mB s 0 0).one a71], (by show _ = [ρ 71]; rw [hx71] <;> rfl), rfl, ao, c, rfl, hL, rfl⟩ (by show _ = _ :: (71, ρ 71) :: (E09 wh b7 b10 b9 ao12 ++ Y); rw [hx71] <;> rfl) 
      refine ⟨fun ρ χ X Y K hd hK => ⟨_, rfl, ?_⟩, ?_⟩
      · have h72 : FB.spec ρ (ρ 72) (χ 25) (.evs [(71, (mB s 0 0))]) := hd 25 (.head _)
        show OW _ _ _ _ _ _ (G0B k s b7 b10 b9 (D12 :: F) ++ X) ((72, ρ 72) :: (E09 wh b7 b10 b9 ao12 ++ Y)) [_]
        obtain ⟨es, -, -, ao, x, hx, -, -⟩ := h72
        rw [hx]
        refine ow_val rfl rfl (v_build rfl b_bent) ?_
        exact fd hK _ [] ⟨ao, es.length, hx, rfl, rfl⟩ (by show _ = _ :: (72, ρ 72) :: (E09 wh b7 b10 b9 ao12 ++ Y); rw [hx] <;> rfl) 
      refine ⟨fun ρ χ X Y K hd hK => ⟨_, rfl, ?_⟩, ?_⟩
      · exact ow_val rfl rfl (v_move rfl) (fdV hK)
      refine ⟨fun ρ χ X Y K hd hK => ⟨_, rfl, ?_⟩, ?_⟩
      · exact ow_val rfl rfl (v_load rfl (Var.sub1 Ty.sc22 (Sub.there (Sub.there Sub.here)) (.head _) (GetN.lit rfl))) (fdV hK)
      refine ⟨fun ρ χ X Y K hd hK => ⟨_, rfl, ?_⟩, ?_⟩
      · exact ow_val rfl rfl (v_mul rfl rfl (nw_u64 (by omega) (by omega))) (fdV hK)
      refine ⟨fun ρ χ X Y K hd hK => ⟨_, rfl, ?_⟩, ?_⟩
      · exact ow_val rfl rfl (v_load rfl (Var.sub1 Ty.sc22 (Sub.there (Sub.there Sub.here)) (.head _) (GetN.lit rfl))) (fdV hK)
      refine ⟨fun ρ χ X Y K hd hK => ⟨_, rfl, ?_⟩, ?_⟩
      · exact ow_val rfl rfl (v_mul rfl rfl (nw_u64 (by omega) (by omega))) (fdV hK)
      refine ⟨fun ρ χ X Y K hd hK => ⟨_, rfl, ?_⟩, ?_⟩
      · exact ow_call rfl rfl rfl rfl (mC_c (w := (2 * s)) (f := (2 * s)) (p := 0) Sub.here (by show _ ∧ _; omega) (by show _ ∧ _; omega) (by show _ ∧ _; omega)) fun _ _ h => fdE hK h
      refine ⟨fun ρ χ X Y K hd hK => ⟨_, rfl, ?_⟩, ?_⟩
      · exact ow_val rfl rfl (v_move rfl) (fdV hK)
      refine ⟨fun ρ χ X Y K hd hK => ⟨_, rfl, ?_⟩, ?_⟩
      · exact ow_call rfl rfl rfl rfl (sentC_c (n := 6) (fl := 1) (s := s) (k := k) Sub.here (Sub.there Sub.here) (Sub.there (Sub.there Sub.here)) (by show _ ∧ _; omega) (by show _ ∧ _; omega) (by show _ ∧ _; omega) (by show _ ∧ _; omega)) fun _ _ h => fdE hK h
      refine ⟨fun ρ χ X Y K hd hK => ⟨_, rfl, ?_⟩, ?_⟩
      · have h79 : FB.spec ρ (ρ 79) (χ 32) (.evn (mB (2 * s) (2 * s) 0)) := hd 32 (.head _)
        have h81 : FB.spec ρ (ρ 81) (χ 34) (.evn (sB k s 6 1)) := hd 34 (.tail _ (.head _))
        show OW _ _ _ _ _ _ (G0B k s b7 b10 b9 (D12 :: F) ++ X) ((79, ρ 79) :: (81, ρ 81) :: (E09 wh b7 b10 b9 ao12 ++ Y)) [_]
        obtain ⟨a79, hx79⟩ := ev_val h79 (mB (2 * s) (2 * s) 0) rfl
        obtain ⟨a81, hx81⟩ := ev_val h81 (sB k s 6 1) rfl
        rw [hx79, hx81]
        refine ow_buildL (es := [(mB (2 * s) (2 * s) 0).one a79, (sB k s 6 1).one a81]) rfl rfl Try.underlying57 Ty.em57 evTy rfl rfl (by repeat (first | exact List.forall_mem_nil _ | refine List.forall_mem_cons.2 ⟨?_, ?_⟩ | exact evB_ok (by omega) (by simp) (by intro x hx; simp only [List.mem_cons, List.not_mem_nil, or_false] at hx; show _ ∧ _; omega))) (by simp only [List.length_cons, List.length_nil]; decide) ?_
        intro ao c hL
        exact fd hK _ [c] ⟨[(mB (2 * s) (2 * s) 0).one a79, (sB k s 6 1).one a81], (by show _ = [ρ 79, ρ 81]; rw [hx79, hx81] <;> rfl), rfl, ao, c, rfl, hL, rfl⟩ (by show _ = _ :: (79, ρ 79) :: (81, ρ 81) :: (E09 wh b7 b10 b9 ao12 ++ Y); rw [hx79, hx81] <;> rfl) 
      refine ⟨fun ρ χ X Y K hd hK => ⟨_, rfl, ?_⟩, ?_⟩
      · have h82 : FB.spec ρ (ρ 82) (χ 35) (.evs [(79, (mB (2 * s) (2 * s) 0)), (81, (sB k s 6 1))]) := hd 35 (.head _)
        show OW _ _ _ _ _ _ (G0B k s b7 b10 b9 (D12 :: F) ++ X) ((82, ρ 82) :: (E09 wh b7 b10 b9 ao12 ++ Y)) [_]
        obtain ⟨es, -, -, ao, x, hx, -, -⟩ := h82
        rw [hx]
        refine ow_val rfl rfl (v_build rfl b_bent) ?_
        exact fd hK _ [] ⟨ao, es.length, hx, rfl, rfl⟩ (by show _ = _ :: (82, ρ 82) :: (E09 wh b7 b10 b9 ao12 ++ Y); rw [hx] <;> rfl) 
      refine ⟨fun ρ χ X Y K hd hK => ⟨_, rfl, ?_⟩, ?_⟩
      · exact ow_val rfl rfl (v_move rfl) (fdV hK)
      refine ⟨fun ρ χ X Y K hd hK => ⟨_, rfl, ?_⟩, ?_⟩
      · exact ow_val rfl rfl (v_load rfl (Var.sub1 Ty.sc22 (Sub.there (Sub.there Sub.here)) (.head _) (GetN.lit rfl))) (fdV hK)
      refine ⟨fun ρ χ X Y K hd hK => ⟨_, rfl, ?_⟩, ?_⟩
      · exact ow_val rfl rfl (v_mul rfl rfl (nw_u64 (by omega) (by omega))) (fdV hK)
      refine ⟨fun ρ χ X Y K hd hK => ⟨_, rfl, ?_⟩, ?_⟩
      · exact ow_val rfl rfl (v_load rfl (Var.sub1 Ty.sc22 (Sub.there (Sub.there Sub.here)) (.head _) (GetN.lit rfl))) (fdV hK)
      refine ⟨fun ρ χ X Y K hd hK => ⟨_, rfl, ?_⟩, ?_⟩
      · exact ow_val rfl rfl (v_mul rfl rfl (nw_u64 (by omega) (by omega))) (fdV hK)
      refine ⟨fun ρ χ X Y K hd hK => ⟨_, rfl, ?_⟩, ?_⟩
      · exact ow_call rfl rfl rfl rfl (mC_c (w := (2 * s)) (f := (2 * s)) (p := 1) Sub.here (by show _ ∧ _; omega) (by show _ ∧ _; omega) (by show _ ∧ _; omega)) fun _ _ h => fdE hK h
      refine ⟨fun ρ χ X Y K hd hK => ⟨_, rfl, ?_⟩, ?_⟩
      · exact ow_val rfl rfl (v_move rfl) (fdV hK)
      refine ⟨fun ρ χ X Y K hd hK => ⟨_, rfl, ?_⟩, ?_⟩
      · exact ow_call rfl rfl rfl rfl (sentC_c (n := 6) (fl := 1) (s := s) (k := k) Sub.here (Sub.there Sub.here) (Sub.there (Sub.there Sub.here)) (by show _ ∧ _; omega) (by show _ ∧ _; omega) (by show _ ∧ _; omega) (by show _ ∧ _; omega)) fun _ _ h => fdE hK h
      refine ⟨fun ρ χ X Y K hd hK => ⟨_, rfl, ?_⟩, ?_⟩
      · exact ow_val rfl rfl (v_move rfl) (fdV hK)
      refine ⟨fun ρ χ X Y K hd hK => ⟨_, rfl, ?_⟩, ?_⟩
      · exact ow_call rfl rfl rfl rfl (sentC_c (n := 7) (fl := 1) (s := s) (k := k) Sub.here (Sub.there Sub.here) (Sub.there (Sub.there Sub.here)) (by show _ ∧ _; omega) (by show _ ∧ _; omega) (by show _ ∧ _; omega) (by show _ ∧ _; omega)) fun _ _ h => fdE hK h
      refine ⟨fun ρ χ X Y K hd hK => ⟨_, rfl, ?_⟩, ?_⟩
      · exact ow_val rfl rfl (v_move rfl) (fdV hK)
      refine ⟨fun ρ χ X Y K hd hK => ⟨_, rfl, ?_⟩, ?_⟩
      · exact ow_call rfl rfl rfl rfl (sentC_c (n := 8) (fl := 1) (s := s) (k := k) Sub.here (Sub.there Sub.here) (Sub.there (Sub.there Sub.here)) (by show _ ∧ _; omega) (by show _ ∧ _; omega) (by show _ ∧ _; omega) (by show _ ∧ _; omega)) fun _ _ h => fdE hK h
      refine ⟨fun ρ χ X Y K hd hK => ⟨_, rfl, ?_⟩, ?_⟩
      · have h89 : FB.spec ρ (ρ 89) (χ 42) (.evn (mB (2 * s) (2 * s) 1)) := hd 42 (.head _)
        have h91 : FB.spec ρ (ρ 91) (χ 44) (.evn (sB k s 6 1)) := hd 44 (.tail _ (.head _))
        have h93 : FB.spec ρ (ρ 93) (χ 46) (.evn (sB k s 7 1)) := hd 46 (.tail _ (.tail _ (.head _)))
        have h95 : FB.spec ρ (ρ 95) (χ 48) (.evn (sB k s 8 1)) := hd 48 (.tail _ (.tail _ (.tail _ (.head _))))
        show OW _ _ _ _ _ _ (G0B k s b7 b10 b9 (D12 :: F) ++ X) ((89, ρ 89) :: (91, ρ 91) :: (93, ρ 93) :: (95, ρ 95) :: (E09 wh b7 b10 b9 ao12 ++ Y)) [_]
        obtain ⟨a89, hx89⟩ := ev_val h89 (mB (2 * s) (2 * s) 1) rfl
        obtain ⟨a91, hx91⟩ := ev_val h91 (sB k s 6 1) rfl
        obtain ⟨a93, hx93⟩ := ev_val h93 (sB k s 7 1) rfl
        obtain ⟨a95, hx95⟩ := ev_val h95 (sB k s 8 1) rfl
        rw [hx89, hx91, hx93, hx95]
        refine ow_buildL (es := [(mB (2 * s) (2 * s) 1).one a89, (sB k s 6 1).one a91, (sB k s 7 1).one a93, (sB k s 8 1).one a95]) rfl rfl Try.underlying57 Ty.em57 evTy rfl rfl (by repeat (first | exact List.forall_mem_nil _ | refine List.forall_mem_cons.2 ⟨?_, ?_⟩ | exact evB_ok (by omega) (by simp) (by intro x hx; simp only [List.mem_cons, List.not_mem_nil, or_false] at hx; show _ ∧ _; omega))) (by simp only [List.length_cons, List.length_nil]; decide) ?_
        intro ao c hL
        exact fd hK _ [c] ⟨[(mB (2 * s) (2 * s) 1).one a89, (sB k s 6 1).one a91, (sB k s 7 1).one a93, (sB k s 8 1).one a95], (by show _ = [ρ 89, ρ 91, ρ 93, ρ 95]; rw [hx89, hx91, hx93, hx95] <;> rfl), rfl, ao, c, rfl, hL, rfl⟩ (by show _ = _ :: (89, ρ 89) :: (91, ρ 91) :: (93, ρ 93) :: (95, ρ 95) :: (E09 wh b7 b10 b9 ao12 ++ Y); rw [hx89, hx91, hx93, hx95] <;> rfl) 
      refine ⟨fun ρ χ X Y K hd hK => ⟨_, rfl, ?_⟩, ?_⟩
      · have h96 : FB.spec ρ (ρ 96) (χ 49) (.evs [(89, (mB (2 * s) (2 * s) 1)), (91, (sB k s 6 1)), (93, (sB k s 7 1)), (95, (sB k s 8 1))]) := hd 49 (.head _)
        show OW _ _ _ _ _ _ (G0B k s b7 b10 b9 (D12 :: F) ++ X) ((96, ρ 96) :: (E09 wh b7 b10 b9 ao12 ++ Y)) [_]
        obtain ⟨es, -, -, ao, x, hx, -, -⟩ := h96
        rw [hx]
        refine ow_val rfl rfl (v_build rfl b_bent) ?_
        exact fd hK _ [] ⟨ao, es.length, hx, rfl, rfl⟩ (by show _ = _ :: (96, ρ 96) :: (E09 wh b7 b10 b9 ao12 ++ Y); rw [hx] <;> rfl) 
      refine ⟨fun ρ χ X Y K hd hK => ⟨_, rfl, ?_⟩, ?_⟩
      · exact ow_val rfl rfl (v_load rfl (Var.sub1 Ty.sc86 Sub.here (.head _) (GetN.lit rfl))) (fdV hK)
      refine ⟨fun ρ χ X Y K hd hK => ⟨_, rfl, ?_⟩, ?_⟩
      · refine ow_buildL (es := [3]) rfl rfl Try.underlying60 Ty.em60 qTy rfl rfl (by repeat (first | exact List.forall_mem_nil _ | refine List.forall_mem_cons.2 ⟨?_, ?_⟩ | (show _ ∧ _; omega))) (by simp only [List.length_cons, List.length_nil]; decide) ?_
        exact fun ao c hL => fdQ hK hL
      refine ⟨fun ρ χ X Y K hd hK => ⟨_, rfl, ?_⟩, ?_⟩
      · have h99 : FB.spec ρ (ρ 99) (χ 52) (.q [3]) := hd 52 (.tail _ (.head _))
        show OW _ _ _ _ _ _ (G0B k s b7 b10 b9 (D12 :: F) ++ X) ((98, (.func (.func 34) #[] #[])) :: (99, ρ 99) :: (E09 wh b7 b10 b9 ao12 ++ Y)) [_]
        obtain ⟨ao, x, hx, hLx, -⟩ := h99
        dsimp only [List.length_cons, List.length_nil] at hx
        rw [hx]
        refine ow_val rfl rfl (v_call rfl rfl evC_c) ?_
        exact fd hK (evV (evB 1 [3]) ao) [] ⟨ao, hx, rfl, rfl⟩ (by show _ = _ :: (98, (.func (.func 34) #[] #[])) :: (99, ρ 99) :: (E09 wh b7 b10 b9 ao12 ++ Y); rw [hx] <;> rfl) 
      refine ⟨fun ρ χ X Y K hd hK => ⟨_, rfl, ?_⟩, ?_⟩
      · exact ow_val rfl rfl (v_move rfl) (fdV hK)
      refine ⟨fun ρ χ X Y K hd hK => ⟨_, rfl, ?_⟩, ?_⟩
      · exact ow_call rfl rfl rfl rfl (sentC_c (n := 6) (fl := 0) (s := s) (k := k) Sub.here (Sub.there Sub.here) (Sub.there (Sub.there Sub.here)) (by show _ ∧ _; omega) (by show _ ∧ _; omega) (by show _ ∧ _; omega) (by show _ ∧ _; omega)) fun _ _ h => fdE hK h
      refine ⟨fun ρ χ X Y K hd hK => ⟨_, rfl, ?_⟩, ?_⟩
      · exact ow_val rfl rfl (v_move rfl) (fdV hK)
      refine ⟨fun ρ χ X Y K hd hK => ⟨_, rfl, ?_⟩, ?_⟩
      · exact ow_call rfl rfl rfl rfl (sentC_c (n := 7) (fl := 1) (s := s) (k := k) Sub.here (Sub.there Sub.here) (Sub.there (Sub.there Sub.here)) (by show _ ∧ _; omega) (by show _ ∧ _; omega) (by show _ ∧ _; omega) (by show _ ∧ _; omega)) fun _ _ h => fdE hK h
      refine ⟨fun ρ χ X Y K hd hK => ⟨_, rfl, ?_⟩, ?_⟩
      · have h100 : FB.spec ρ (ρ 100) (χ 53) (.ev (evB 1 [3]) 99) := hd 53 (.head _)
        have h102 : FB.spec ρ (ρ 102) (χ 55) (.evn (sB k s 6 0)) := hd 55 (.tail _ (.head _))
        have h104 : FB.spec ρ (ρ 104) (χ 57) (.evn (sB k s 7 1)) := hd 57 (.tail _ (.tail _ (.head _)))
        show OW _ _ _ _ _ _ (G0B k s b7 b10 b9 (D12 :: F) ++ X) ((100, ρ 100) :: (102, ρ 102) :: (104, ρ 104) :: (E09 wh b7 b10 b9 ao12 ++ Y)) [_]
        obtain ⟨a100, hx100⟩ := ev_val h100 (evB 1 [3]) rfl
        obtain ⟨a102, hx102⟩ := ev_val h102 (sB k s 6 0) rfl
        obtain ⟨a104, hx104⟩ := ev_val h104 (sB k s 7 1) rfl
        rw [hx100, hx102, hx104]
        refine ow_buildL (es := [(evB 1 [3]).one a100, (sB k s 6 0).one a102, (sB k s 7 1).one a104]) rfl rfl Try.underlying57 Ty.em57 evTy rfl rfl (by repeat (first | exact List.forall_mem_nil _ | refine List.forall_mem_cons.2 ⟨?_, ?_⟩ | exact evB_ok (by omega) (by simp) (by intro x hx; simp only [List.mem_cons, List.not_mem_nil, or_false] at hx; show _ ∧ _; omega))) (by simp only [List.length_cons, List.length_nil]; decide) ?_
        intro ao c hL
        exact fd hK _ [c] ⟨[(evB 1 [3]).one a100, (sB k s 6 0).one a102, (sB k s 7 1).one a104], (by show _ = [ρ 100, ρ 102, ρ 104]; rw [hx100, hx102, hx104] <;> rfl), rfl, ao, c, rfl, hL, rfl⟩ (by show _ = _ :: (100, ρ 100) :: (102, ρ 102) :: (104, ρ 104) :: (E09 wh b7 b10 b9 ao12 ++ Y); rw [hx100, hx102, hx104] <;> rfl) 
      refine ⟨fun ρ χ X Y K hd hK => ⟨_, rfl, ?_⟩, ?_⟩
      · have h105 : FB.spec ρ (ρ 105) (χ 58) (.evs [(100, (evB 1 [3])), (102, (sB k s 6 0)), (104, (sB k s 7 1))]) := hd 58 (.head _)
        show OW _ _ _ _ _ _ (G0B k s b7 b10 b9 (D12 :: F) ++ X) ((105, ρ 105) :: (E09 wh b7 b10 b9 ao12 ++ Y)) [_]
        obtain ⟨es, -, -, ao, x, hx, -, -⟩ := h105
        rw [hx]
        refine ow_val rfl rfl (v_build rfl b_bent) ?_
        exact fd hK _ [] ⟨ao, es.length, hx, rfl, rfl⟩ (by show _ = _ :: (105, ρ 105) :: (E09 wh b7 b10 b9 ao12 ++ Y); rw [hx] <;> rfl) 
      refine ⟨fun ρ χ X Y K hd hK => ⟨_, rfl, ?_⟩, ?_⟩
      · exact ow_val rfl rfl (v_load rfl (Var.sub1 Ty.sc86 Sub.here (.head _) (GetN.lit rfl))) (fdV hK)
      refine ⟨fun ρ χ X Y K hd hK => ⟨_, rfl, ?_⟩, ?_⟩
      · refine ow_buildL (es := [4]) rfl rfl Try.underlying60 Ty.em60 qTy rfl rfl (by repeat (first | exact List.forall_mem_nil _ | refine List.forall_mem_cons.2 ⟨?_, ?_⟩ | (show _ ∧ _; omega))) (by simp only [List.length_cons, List.length_nil]; decide) ?_
        exact fun ao c hL => fdQ hK hL
      refine ⟨fun ρ χ X Y K hd hK => ⟨_, rfl, ?_⟩, ?_⟩
      · have h108 : FB.spec ρ (ρ 108) (χ 61) (.q [4]) := hd 61 (.tail _ (.head _))
        show OW _ _ _ _ _ _ (G0B k s b7 b10 b9 (D12 :: F) ++ X) ((107, (.func (.func 34) #[] #[])) :: (108, ρ 108) :: (E09 wh b7 b10 b9 ao12 ++ Y)) [_]
        obtain ⟨ao, x, hx, hLx, -⟩ := h108
        dsimp only [List.length_cons, List.length_nil] at hx
        rw [hx]
        refine ow_val rfl rfl (v_call rfl rfl evC_c) ?_
        exact fd hK (evV (evB 1 [4]) ao) [] ⟨ao, hx, rfl, rfl⟩ (by show _ = _ :: (107, (.func (.func 34) #[] #[])) :: (108, ρ 108) :: (E09 wh b7 b10 b9 ao12 ++ Y); rw [hx] <;> rfl) 
      refine ⟨fun ρ χ X Y K hd hK => ⟨_, rfl, ?_⟩, ?_⟩
      · exact ow_val rfl rfl (v_move rfl) (fdV hK)
      refine ⟨fun ρ χ X Y K hd hK => ⟨_, rfl, ?_⟩, ?_⟩
      · exact ow_call rfl rfl rfl rfl (sentC_c (n := 6) (fl := 0) (s := s) (k := k) Sub.here (Sub.there Sub.here) (Sub.there (Sub.there Sub.here)) (by show _ ∧ _; omega) (by show _ ∧ _; omega) (by show _ ∧ _; omega) (by show _ ∧ _; omega)) fun _ _ h => fdE hK h
      refine ⟨fun ρ χ X Y K hd hK => ⟨_, rfl, ?_⟩, ?_⟩
      · have h109 : FB.spec ρ (ρ 109) (χ 62) (.ev (evB 1 [4]) 108) := hd 62 (.head _)
        have h111 : FB.spec ρ (ρ 111) (χ 64) (.evn (sB k s 6 0)) := hd 64 (.tail _ (.head _))
        show OW _ _ _ _ _ _ (G0B k s b7 b10 b9 (D12 :: F) ++ X) ((109, ρ 109) :: (111, ρ 111) :: (E09 wh b7 b10 b9 ao12 ++ Y)) [_]
        obtain ⟨a109, hx109⟩ := ev_val h109 (evB 1 [4]) rfl
        obtain ⟨a111, hx111⟩ := ev_val h111 (sB k s 6 0) rfl
        rw [hx109, hx111]
        refine ow_buildL (es := [(evB 1 [4]).one a109, (sB k s 6 0).one a111]) rfl rfl Try.underlying57 Ty.em57 evTy rfl rfl (by repeat (first | exact List.forall_mem_nil _ | refine List.forall_mem_cons.2 ⟨?_, ?_⟩ | exact evB_ok (by omega) (by simp) (by intro x hx; simp only [List.mem_cons, List.not_mem_nil, or_false] at hx; show _ ∧ _; omega))) (by simp only [List.length_cons, List.length_nil]; decide) ?_
        intro ao c hL
        exact fd hK _ [c] ⟨[(evB 1 [4]).one a109, (sB k s 6 0).one a111], (by show _ = [ρ 109, ρ 111]; rw [hx109, hx111] <;> rfl), rfl, ao, c, rfl, hL, rfl⟩ (by show _ = _ :: (109, ρ 109) :: (111, ρ 111) :: (E09 wh b7 b10 b9 ao12 ++ Y); rw [hx109, hx111] <;> rfl) 
      refine ⟨fun ρ χ X Y K hd hK => ⟨_, rfl, ?_⟩, ?_⟩
      · have h112 : FB.spec ρ (ρ 112) (χ 65) (.evs [(109, (evB 1 [4])), (111, (sB k s 6 0))]) := hd 65 (.head _)
        show OW _ _ _ _ _ _ (G0B k s b7 b10 b9 (D12 :: F) ++ X) ((112, ρ 112) :: (E09 wh b7 b10 b9 ao12 ++ Y)) [_]
        obtain ⟨es, -, -, ao, x, hx, -, -⟩ := h112
        rw [hx]
        refine ow_val rfl rfl (v_build rfl b_bent) ?_
        exact fd hK _ [] ⟨ao, es.length, hx, rfl, rfl⟩ (by show _ = _ :: (112, ρ 112) :: (E09 wh b7 b10 b9 ao12 ++ Y); rw [hx] <;> rfl) 
      refine ⟨fun ρ χ X Y K hd hK => ⟨_, rfl, ?_⟩, ?_⟩
      · exact ow_val rfl rfl (v_load rfl (Var.sub1 Ty.sc86 Sub.here (.head _) (GetN.lit rfl))) (fdV hK)
      refine ⟨fun ρ χ X Y K hd hK => ⟨_, rfl, ?_⟩, ?_⟩
      · refine ow_buildL (es := [2]) rfl rfl Try.underlying60 Ty.em60 qTy rfl rfl (by repeat (first | exact List.forall_mem_nil _ | refine List.forall_mem_cons.2 ⟨?_, ?_⟩ | (show _ ∧ _; omega))) (by simp only [List.length_cons, List.length_nil]; decide) ?_
        exact fun ao c hL => fdQ hK hL
      refine ⟨fun ρ χ X Y K hd hK => ⟨_, rfl, ?_⟩, ?_⟩
      · have h115 : FB.spec ρ (ρ 115) (χ 68) (.q [2]) := hd 68 (.tail _ (.head _))
        show OW _ _ _ _ _ _ (G0B k s b7 b10 b9 (D12 :: F) ++ X) ((114, (.func (.func 34) #[] #[])) :: (115, ρ 115) :: (E09 wh b7 b10 b9 ao12 ++ Y)) [_]
        obtain ⟨ao, x, hx, hLx, -⟩ := h115
        dsimp only [List.length_cons, List.length_nil] at hx
        rw [hx]
        refine ow_val rfl rfl (v_call rfl rfl evC_c) ?_
        exact fd hK (evV (evB 1 [2]) ao) [] ⟨ao, hx, rfl, rfl⟩ (by show _ = _ :: (114, (.func (.func 34) #[] #[])) :: (115, ρ 115) :: (E09 wh b7 b10 b9 ao12 ++ Y); rw [hx] <;> rfl) 
      refine ⟨fun ρ χ X Y K hd hK => ⟨_, rfl, ?_⟩, ?_⟩
      · exact ow_val rfl rfl (v_load rfl (Var.sub1 Ty.sc86 Sub.here (.head _) (GetN.lit rfl))) (fdV hK)
      refine ⟨fun ρ χ X Y K hd hK => ⟨_, rfl, ?_⟩, ?_⟩
      · refine ow_buildL (es := [1]) rfl rfl Try.underlying60 Ty.em60 qTy rfl rfl (by repeat (first | exact List.forall_mem_nil _ | refine List.forall_mem_cons.2 ⟨?_, ?_⟩ | (show _ ∧ _; omega))) (by simp only [List.length_cons, List.length_nil]; decide) ?_
        exact fun ao c hL => fdQ hK hL
      refine ⟨fun ρ χ X Y K hd hK => ⟨_, rfl, ?_⟩, ?_⟩
      · have h118 : FB.spec ρ (ρ 118) (χ 71) (.q [1]) := hd 71 (.tail _ (.head _))
        show OW _ _ _ _ _ _ (G0B k s b7 b10 b9 (D12 :: F) ++ X) ((117, (.func (.func 34) #[] #[])) :: (118, ρ 118) :: (E09 wh b7 b10 b9 ao12 ++ Y)) [_]
        obtain ⟨ao, x, hx, hLx, -⟩ := h118
        dsimp only [List.length_cons, List.length_nil] at hx
        rw [hx]
        refine ow_val rfl rfl (v_call rfl rfl evC_c) ?_
        exact fd hK (evV (evB 1 [1]) ao) [] ⟨ao, hx, rfl, rfl⟩ (by show _ = _ :: (117, (.func (.func 34) #[] #[])) :: (118, ρ 118) :: (E09 wh b7 b10 b9 ao12 ++ Y); rw [hx] <;> rfl) 
      refine ⟨fun ρ χ X Y K hd hK => ⟨_, rfl, ?_⟩, ?_⟩
      · have h116 : FB.spec ρ (ρ 116) (χ 69) (.ev (evB 1 [2]) 115) := hd 69 (.head _)
        have h119 : FB.spec ρ (ρ 119) (χ 72) (.ev (evB 1 [1]) 118) := hd 72 (.tail _ (.head _))
        show OW _ _ _ _ _ _ (G0B k s b7 b10 b9 (D12 :: F) ++ X) ((116, ρ 116) :: (119, ρ 119) :: (E09 wh b7 b10 b9 ao12 ++ Y)) [_]
        obtain ⟨a116, hx116⟩ := ev_val h116 (evB 1 [2]) rfl
        obtain ⟨a119, hx119⟩ := ev_val h119 (evB 1 [1]) rfl
        rw [hx116, hx119]
        refine ow_buildL (es := [(evB 1 [2]).one a116, (evB 1 [1]).one a119]) rfl rfl Try.underlying57 Ty.em57 evTy rfl rfl (by repeat (first | exact List.forall_mem_nil _ | refine List.forall_mem_cons.2 ⟨?_, ?_⟩ | exact evB_ok (by omega) (by simp) (by intro x hx; simp only [List.mem_cons, List.not_mem_nil, or_false] at hx; show _ ∧ _; omega))) (by simp only [List.length_cons, List.length_nil]; decide) ?_
        intro ao c hL
        exact fd hK _ [c] ⟨[(evB 1 [2]).one a116, (evB 1 [1]).one a119], (by show _ = [ρ 116, ρ 119]; rw [hx116, hx119] <;> rfl), rfl, ao, c, rfl, hL, rfl⟩ (by show _ = _ :: (116, ρ 116) :: (119, ρ 119) :: (E09 wh b7 b10 b9 ao12 ++ Y); rw [hx116, hx119] <;> rfl) 
      refine ⟨fun ρ χ X Y K hd hK => ⟨_, rfl, ?_⟩, ?_⟩
      · have h120 : FB.spec ρ (ρ 120) (χ 73) (.evs [(116, (evB 1 [2])), (119, (evB 1 [1]))]) := hd 73 (.head _)
        show OW _ _ _ _ _ _ (G0B k s b7 b10 b9 (D12 :: F) ++ X) ((120, ρ 120) :: (E09 wh b7 b10 b9 ao12 ++ Y)) [_]
        obtain ⟨es, -, -, ao, x, hx, -, -⟩ := h120
        rw [hx]
        refine ow_val rfl rfl (v_build rfl b_bent) ?_
        exact fd hK _ [] ⟨ao, es.length, hx, rfl, rfl⟩ (by show _ = _ :: (120, ρ 120) :: (E09 wh b7 b10 b9 ao12 ++ Y); rw [hx] <;> rfl) 
      refine ⟨fun ρ χ X Y K hd hK => ⟨_, rfl, ?_⟩, ?_⟩
      · exact ow_val rfl rfl (v_load rfl (Var.sub1 Ty.sc86 Sub.here (.head _) (GetN.lit rfl))) (fdV hK)
      refine ⟨fun ρ χ X Y K hd hK => ⟨_, rfl, ?_⟩, ?_⟩
      · refine ow_buildL (es := [4, 10, 11, 5, 5]) rfl rfl Try.underlying60 Ty.em60 qTy rfl rfl (by repeat (first | exact List.forall_mem_nil _ | refine List.forall_mem_cons.2 ⟨?_, ?_⟩ | (show _ ∧ _; omega))) (by simp only [List.length_cons, List.length_nil]; decide) ?_
        exact fun ao c hL => fdQ hK hL
      refine ⟨fun ρ χ X Y K hd hK => ⟨_, rfl, ?_⟩, ?_⟩
      · have h123 : FB.spec ρ (ρ 123) (χ 76) (.q [4, 10, 11, 5, 5]) := hd 76 (.tail _ (.head _))
        show OW _ _ _ _ _ _ (G0B k s b7 b10 b9 (D12 :: F) ++ X) ((122, (.func (.func 34) #[] #[])) :: (123, ρ 123) :: (E09 wh b7 b10 b9 ao12 ++ Y)) [_]
        obtain ⟨ao, x, hx, hLx, -⟩ := h123
        dsimp only [List.length_cons, List.length_nil] at hx
        rw [hx]
        refine ow_val rfl rfl (v_call rfl rfl evC_c) ?_
        exact fd hK (evV (evB 9 [4, 10, 11, 5, 5]) ao) [] ⟨ao, hx, rfl, rfl⟩ (by show _ = _ :: (122, (.func (.func 34) #[] #[])) :: (123, ρ 123) :: (E09 wh b7 b10 b9 ao12 ++ Y); rw [hx] <;> rfl) 
      refine ⟨fun ρ χ X Y K hd hK => ⟨_, rfl, ?_⟩, ?_⟩
      · have h124 : FB.spec ρ (ρ 124) (χ 77) (.ev (evB 9 [4, 10, 11, 5, 5]) 123) := hd 77 (.head _)
        show OW _ _ _ _ _ _ (G0B k s b7 b10 b9 (D12 :: F) ++ X) ((124, ρ 124) :: (E09 wh b7 b10 b9 ao12 ++ Y)) [_]
        obtain ⟨a124, hx124⟩ := ev_val h124 (evB 9 [4, 10, 11, 5, 5]) rfl
        rw [hx124]
        refine ow_buildL (es := [(evB 9 [4, 10, 11, 5, 5]).one a124]) rfl rfl Try.underlying57 Ty.em57 evTy rfl rfl (by repeat (first | exact List.forall_mem_nil _ | refine List.forall_mem_cons.2 ⟨?_, ?_⟩ | exact evB_ok (by omega) (by simp) (by intro x hx; simp only [List.mem_cons, List.not_mem_nil, or_false] at hx; show _ ∧ _; omega))) (by simp only [List.length_cons, List.length_nil]; decide) ?_
        intro ao c hL
        exact fd hK _ [c] ⟨[(evB 9 [4, 10, 11, 5, 5]).one a124], (by show _ = [ρ 124]; rw [hx124] <;> rfl), rfl, ao, c, rfl, hL, rfl⟩ (by show _ = _ :: (124, ρ 124) :: (E09 wh b7 b10 b9 ao12 ++ Y); rw [hx124] <;> rfl) 
      refine ⟨fun ρ χ X Y K hd hK => ⟨_, rfl, ?_⟩, ?_⟩
      · have h125 : FB.spec ρ (ρ 125) (χ 78) (.evs [(124, (evB 9 [4, 10, 11, 5, 5]))]) := hd 78 (.head _)
        show OW _ _ _ _ _ _ (G0B k s b7 b10 b9 (D12 :: F) ++ X) ((125, ρ 125) :: (E09 wh b7 b10 b9 ao12 ++ Y)) [_]
        obtain ⟨es, -, -, ao, x, hx, -, -⟩ := h125
        rw [hx]
        refine ow_val rfl rfl (v_build rfl b_bent) ?_
        exact fd hK _ [] ⟨ao, es.length, hx, rfl, rfl⟩ (by show _ = _ :: (125, ρ 125) :: (E09 wh b7 b10 b9 ao12 ++ Y); rw [hx] <;> rfl) 
      refine ⟨fun ρ χ X Y K hd hK => ⟨_, rfl, ?_⟩, ?_⟩
      · exact ow_val rfl rfl (v_load rfl (Var.sub1 Ty.sc86 Sub.here (.head _) (GetN.lit rfl))) (fdV hK)
      refine ⟨fun ρ χ X Y K hd hK => ⟨_, rfl, ?_⟩, ?_⟩
      · refine ow_buildL (es := [4, 10, 10, 5, 6]) rfl rfl Try.underlying60 Ty.em60 qTy rfl rfl (by repeat (first | exact List.forall_mem_nil _ | refine List.forall_mem_cons.2 ⟨?_, ?_⟩ | (show _ ∧ _; omega))) (by simp only [List.length_cons, List.length_nil]; decide) ?_
        exact fun ao c hL => fdQ hK hL
      refine ⟨fun ρ χ X Y K hd hK => ⟨_, rfl, ?_⟩, ?_⟩
      · have h128 : FB.spec ρ (ρ 128) (χ 81) (.q [4, 10, 10, 5, 6]) := hd 81 (.tail _ (.head _))
        show OW _ _ _ _ _ _ (G0B k s b7 b10 b9 (D12 :: F) ++ X) ((127, (.func (.func 34) #[] #[])) :: (128, ρ 128) :: (E09 wh b7 b10 b9 ao12 ++ Y)) [_]
        obtain ⟨ao, x, hx, hLx, -⟩ := h128
        dsimp only [List.length_cons, List.length_nil] at hx
        rw [hx]
        refine ow_val rfl rfl (v_call rfl rfl evC_c) ?_
        exact fd hK (evV (evB 9 [4, 10, 10, 5, 6]) ao) [] ⟨ao, hx, rfl, rfl⟩ (by show _ = _ :: (127, (.func (.func 34) #[] #[])) :: (128, ρ 128) :: (E09 wh b7 b10 b9 ao12 ++ Y); rw [hx] <;> rfl) 
      refine ⟨fun ρ χ X Y K hd hK => ⟨_, rfl, ?_⟩, ?_⟩
      · have h129 : FB.spec ρ (ρ 129) (χ 82) (.ev (evB 9 [4, 10, 10, 5, 6]) 128) := hd 82 (.head _)
        show OW _ _ _ _ _ _ (G0B k s b7 b10 b9 (D12 :: F) ++ X) ((129, ρ 129) :: (E09 wh b7 b10 b9 ao12 ++ Y)) [_]
        obtain ⟨a129, hx129⟩ := ev_val h129 (evB 9 [4, 10, 10, 5, 6]) rfl
        rw [hx129]
        refine ow_buildL (es := [(evB 9 [4, 10, 10, 5, 6]).one a129]) rfl rfl Try.underlying57 Ty.em57 evTy rfl rfl (by repeat (first | exact List.forall_mem_nil _ | refine List.forall_mem_cons.2 ⟨?_, ?_⟩ | exact evB_ok (by omega) (by simp) (by intro x hx; simp only [List.mem_cons, List.not_mem_nil, or_false] at hx; show _ ∧ _; omega))) (by simp only [List.length_cons, List.length_nil]; decide) ?_
        intro ao c hL
        exact fd hK _ [c] ⟨[(evB 9 [4, 10, 10, 5, 6]).one a129], (by show _ = [ρ 129]; rw [hx129] <;> rfl), rfl, ao, c, rfl, hL, rfl⟩ (by show _ = _ :: (129, ρ 129) :: (E09 wh b7 b10 b9 ao12 ++ Y); rw [hx129] <;> rfl) 
      refine ⟨fun ρ χ X Y K hd hK => ⟨_, rfl, ?_⟩, ?_⟩
      · have h130 : FB.spec ρ (ρ 130) (χ 83) (.evs [(129, (evB 9 [4, 10, 10, 5, 6]))]) := hd 83 (.head _)
        show OW _ _ _ _ _ _ (G0B k s b7 b10 b9 (D12 :: F) ++ X) ((130, ρ 130) :: (E09 wh b7 b10 b9 ao12 ++ Y)) [_]
        obtain ⟨es, -, -, ao, x, hx, -, -⟩ := h130
        rw [hx]
        refine ow_val rfl rfl (v_build rfl b_bent) ?_
        exact fd hK _ [] ⟨ao, es.length, hx, rfl, rfl⟩ (by show _ = _ :: (130, ρ 130) :: (E09 wh b7 b10 b9 ao12 ++ Y); rw [hx] <;> rfl) 
      refine ⟨fun ρ χ X Y K hd hK => ⟨_, rfl, ?_⟩, ?_⟩
      · exact ow_val rfl rfl (v_load rfl (Var.sub1 Ty.sc86 Sub.here (.head _) (GetN.lit rfl))) (fdV hK)
      refine ⟨fun ρ χ X Y K hd hK => ⟨_, rfl, ?_⟩, ?_⟩
      · exact ow_val rfl rfl (v_load rfl (Var.sub1 Ty.sc22 (Sub.there Sub.here) (.head _) (GetN.lit rfl))) (fdV hK)
      refine ⟨fun ρ χ X Y K hd hK => ⟨_, rfl, ?_⟩, ?_⟩
      · refine ow_buildL (es := [(k : Int), 0, 0]) rfl rfl Try.underlying60 Ty.em60 qTy rfl rfl (by repeat (first | exact List.forall_mem_nil _ | refine List.forall_mem_cons.2 ⟨?_, ?_⟩ | (show _ ∧ _; omega))) (by simp only [List.length_cons, List.length_nil]; decide) ?_
        exact fun ao c hL => fdQ hK hL
      refine ⟨fun ρ χ X Y K hd hK => ⟨_, rfl, ?_⟩, ?_⟩
      · have h134 : FB.spec ρ (ρ 134) (χ 87) (.q [(k : Int), 0, 0]) := hd 87 (.tail _ (.head _))
        show OW _ _ _ _ _ _ (G0B k s b7 b10 b9 (D12 :: F) ++ X) ((132, (.func (.func 34) #[] #[])) :: (134, ρ 134) :: (E09 wh b7 b10 b9 ao12 ++ Y)) [_]
        obtain ⟨ao, x, hx, hLx, -⟩ := h134
        dsimp only [List.length_cons, List.length_nil] at hx
        rw [hx]
        refine ow_val rfl rfl (v_call rfl rfl evC_c) ?_
        exact fd hK (evV (evB 5 [(k : Int), 0, 0]) ao) [] ⟨ao, hx, rfl, rfl⟩ (by show _ = _ :: (132, (.func (.func 34) #[] #[])) :: (134, ρ 134) :: (E09 wh b7 b10 b9 ao12 ++ Y); rw [hx] <;> rfl) 
      refine ⟨fun ρ χ X Y K hd hK => ⟨_, rfl, ?_⟩, ?_⟩
      · exact ow_val rfl rfl (v_load rfl (Var.sub1 Ty.sc86 Sub.here (.head _) (GetN.lit rfl))) (fdV hK)
      refine ⟨fun ρ χ X Y K hd hK => ⟨_, rfl, ?_⟩, ?_⟩
      · exact ow_val rfl rfl (v_load rfl (Var.sub1 Ty.sc22 (Sub.there Sub.here) (.head _) (GetN.lit rfl))) (fdV hK)
      refine ⟨fun ρ χ X Y K hd hK => ⟨_, rfl, ?_⟩, ?_⟩
      · refine ow_buildL (es := [(k : Int), 0, 0]) rfl rfl Try.underlying60 Ty.em60 qTy rfl rfl (by repeat (first | exact List.forall_mem_nil _ | refine List.forall_mem_cons.2 ⟨?_, ?_⟩ | (show _ ∧ _; omega))) (by simp only [List.length_cons, List.length_nil]; decide) ?_
        exact fun ao c hL => fdQ hK hL
      refine ⟨fun ρ χ X Y K hd hK => ⟨_, rfl, ?_⟩, ?_⟩
      · have h138 : FB.spec ρ (ρ 138) (χ 91) (.q [(k : Int), 0, 0]) := hd 91 (.tail _ (.head _))
        show OW _ _ _ _ _ _ (G0B k s b7 b10 b9 (D12 :: F) ++ X) ((136, (.func (.func 34) #[] #[])) :: (138, ρ 138) :: (E09 wh b7 b10 b9 ao12 ++ Y)) [_]
        obtain ⟨ao, x, hx, hLx, -⟩ := h138
        dsimp only [List.length_cons, List.length_nil] at hx
        rw [hx]
        refine ow_val rfl rfl (v_call rfl rfl evC_c) ?_
        exact fd hK (evV (evB 5 [(k : Int), 0, 0]) ao) [] ⟨ao, hx, rfl, rfl⟩ (by show _ = _ :: (136, (.func (.func 34) #[] #[])) :: (138, ρ 138) :: (E09 wh b7 b10 b9 ao12 ++ Y); rw [hx] <;> rfl) 
      refine ⟨fun ρ χ X Y K hd hK => ⟨_, rfl, ?_⟩, ?_⟩
      · have h135 : FB.spec ρ (ρ 135) (χ 88) (.ev (evB 5 [(k : Int), 0, 0]) 134) := hd 88 (.head _)
        have h139 : FB.spec ρ (ρ 139) (χ 92) (.ev (evB 5 [(k : Int), 0, 0]) 138) := hd 92 (.tail _ (.head _))
        show OW _ _ _ _ _ _ (G0B k s b7 b10 b9 (D12 :: F) ++ X) ((135, ρ 135) :: (139, ρ 139) :: (E09 wh b7 b10 b9 ao12 ++ Y)) [_]
        obtain ⟨a135, hx135⟩ := ev_val h135 (evB 5 [(k : Int), 0, 0]) rfl
        obtain ⟨a139, hx139⟩ := ev_val h139 (evB 5 [(k : Int), 0, 0]) rfl
        rw [hx135, hx139]
        refine ow_buildL (es := [(evB 5 [(k : Int), 0, 0]).one a135, (evB 5 [(k : Int), 0, 0]).one a139]) rfl rfl Try.underlying57 Ty.em57 evTy rfl rfl (by repeat (first | exact List.forall_mem_nil _ | refine List.forall_mem_cons.2 ⟨?_, ?_⟩ | exact evB_ok (by omega) (by simp) (by intro x hx; simp only [List.mem_cons, List.not_mem_nil, or_false] at hx; show _ ∧ _; omega))) (by simp only [List.length_cons, List.length_nil]; decide) ?_
        intro ao c hL
        exact fd hK _ [c] ⟨[(evB 5 [(k : Int), 0, 0]).one a135, (evB 5 [(k : Int), 0, 0]).one a139], (by show _ = [ρ 135, ρ 139]; rw [hx135, hx139] <;> rfl), rfl, ao, c, rfl, hL, rfl⟩ (by show _ = _ :: (135, ρ 135) :: (139, ρ 139) :: (E09 wh b7 b10 b9 ao12 ++ Y); rw [hx135, hx139] <;> rfl) 
      refine ⟨fun ρ χ X Y K hd hK => ⟨_, rfl, ?_⟩, ?_⟩
      · have h140 : FB.spec ρ (ρ 140) (χ 93) (.evs [(135, (evB 5 [(k : Int), 0, 0])), (139, (evB 5 [(k : Int), 0, 0]))]) := hd 93 (.head _)
        show OW _ _ _ _ _ _ (G0B k s b7 b10 b9 (D12 :: F) ++ X) ((140, ρ 140) :: (E09 wh b7 b10 b9 ao12 ++ Y)) [_]
        obtain ⟨es, -, -, ao, x, hx, -, -⟩ := h140
        rw [hx]
        refine ow_val rfl rfl (v_build rfl b_bent) ?_
        exact fd hK _ [] ⟨ao, es.length, hx, rfl, rfl⟩ (by show _ = _ :: (140, ρ 140) :: (E09 wh b7 b10 b9 ao12 ++ Y); rw [hx] <;> rfl) 
      refine ⟨fun ρ χ X Y K hd hK => ⟨_, rfl, ?_⟩, ?_⟩
      · have h50 : FB.spec ρ (ρ 50) (χ 3) (.bent 49 1) := hd 3 (.head _)
        have h56 : FB.spec ρ (ρ 56) (χ 9) (.bent 55 1) := hd 9 (.tail _ (.head _))
        have h62 : FB.spec ρ (ρ 62) (χ 15) (.bent 61 2) := hd 15 (.tail _ (.tail _ (.head _)))
        have h68 : FB.spec ρ (ρ 68) (χ 21) (.bent 67 2) := hd 21 (.tail _ (.tail _ (.tail _ (.head _))))
        have h73 : FB.spec ρ (ρ 73) (χ 26) (.bent 72 3) := hd 26 (.tail _ (.tail _ (.tail _ (.tail _ (.head _)))))
        have h83 : FB.spec ρ (ρ 83) (χ 36) (.bent 82 4) := hd 36 (.tail _ (.tail _ (.tail _ (.tail _ (.tail _ (.head _))))))
        have h97 : FB.spec ρ (ρ 97) (χ 50) (.bent 96 4) := hd 50 (.tail _ (.tail _ (.tail _ (.tail _ (.tail _ (.tail _ (.head _)))))))
        have h106 : FB.spec ρ (ρ 106) (χ 59) (.bent 105 5) := hd 59 (.tail _ (.tail _ (.tail _ (.tail _ (.tail _ (.tail _ (.tail _ (.head _))))))))
        have h113 : FB.spec ρ (ρ 113) (χ 66) (.bent 112 5) := hd 66 (.tail _ (.tail _ (.tail _ (.tail _ (.tail _ (.tail _ (.tail _ (.tail _ (.head _)))))))))
        have h121 : FB.spec ρ (ρ 121) (χ 74) (.bent 120 5) := hd 74 (.tail _ (.tail _ (.tail _ (.tail _ (.tail _ (.tail _ (.tail _ (.tail _ (.tail _ (.head _))))))))))
        have h126 : FB.spec ρ (ρ 126) (χ 79) (.bent 125 6) := hd 79 (.tail _ (.tail _ (.tail _ (.tail _ (.tail _ (.tail _ (.tail _ (.tail _ (.tail _ (.tail _ (.head _)))))))))))
        have h131 : FB.spec ρ (ρ 131) (χ 84) (.bent 130 6) := hd 84 (.tail _ (.tail _ (.tail _ (.tail _ (.tail _ (.tail _ (.tail _ (.tail _ (.tail _ (.tail _ (.tail _ (.head _))))))))))))
        have h141 : FB.spec ρ (ρ 141) (χ 94) (.bent 140 1) := hd 94 (.tail _ (.tail _ (.tail _ (.tail _ (.tail _ (.tail _ (.tail _ (.tail _ (.tail _ (.tail _ (.tail _ (.tail _ (.head _)))))))))))))
        show OW _ _ _ _ _ _ (G0B k s b7 b10 b9 (D12 :: F) ++ X) ((50, ρ 50) :: (56, ρ 56) :: (62, ρ 62) :: (68, ρ 68) :: (73, ρ 73) :: (83, ρ 83) :: (97, ρ 97) :: (106, ρ 106) :: (113, ρ 113) :: (121, ρ 121) :: (126, ρ 126) :: (131, ρ 131) :: (141, ρ 141) :: (E09 wh b7 b10 b9 ao12 ++ Y)) [_]
        obtain ⟨a50, n50, -, hx50, -⟩ := h50
        obtain ⟨a56, n56, -, hx56, -⟩ := h56
        obtain ⟨a62, n62, -, hx62, -⟩ := h62
        obtain ⟨a68, n68, -, hx68, -⟩ := h68
        obtain ⟨a73, n73, -, hx73, -⟩ := h73
        obtain ⟨a83, n83, -, hx83, -⟩ := h83
        obtain ⟨a97, n97, -, hx97, -⟩ := h97
        obtain ⟨a106, n106, -, hx106, -⟩ := h106
        obtain ⟨a113, n113, -, hx113, -⟩ := h113
        obtain ⟨a121, n121, -, hx121, -⟩ := h121
        obtain ⟨a126, n126, -, hx126, -⟩ := h126
        obtain ⟨a131, n131, -, hx131, -⟩ := h131
        obtain ⟨a141, n141, -, hx141, -⟩ := h141
        rw [hx50, hx56, hx62, hx68, hx73, hx83, hx97, hx106, hx113, hx121, hx126, hx131, hx141]
        refine ow_buildL (es := [(⟨a50, n50, 1⟩ : Bt), (⟨a56, n56, 1⟩ : Bt), (⟨a62, n62, 2⟩ : Bt), (⟨a68, n68, 2⟩ : Bt), (⟨a73, n73, 3⟩ : Bt), (⟨a83, n83, 4⟩ : Bt), (⟨a97, n97, 4⟩ : Bt), (⟨a106, n106, 5⟩ : Bt), (⟨a113, n113, 5⟩ : Bt), (⟨a121, n121, 5⟩ : Bt), (⟨a126, n126, 6⟩ : Bt), (⟨a131, n131, 6⟩ : Bt), (⟨a141, n141, 1⟩ : Bt)]) rfl rfl Try.underlying92 Ty.em92 btTy rfl rfl (fun _ _ => trivial) (by simp only [List.length_cons, List.length_nil]; decide) ?_
        intro ao c hL
        exact fd hK _ [c] ⟨[(⟨a50, n50, 1⟩ : Bt), (⟨a56, n56, 1⟩ : Bt), (⟨a62, n62, 2⟩ : Bt), (⟨a68, n68, 2⟩ : Bt), (⟨a73, n73, 3⟩ : Bt), (⟨a83, n83, 4⟩ : Bt), (⟨a97, n97, 4⟩ : Bt), (⟨a106, n106, 5⟩ : Bt), (⟨a113, n113, 5⟩ : Bt), (⟨a121, n121, 5⟩ : Bt), (⟨a126, n126, 6⟩ : Bt), (⟨a131, n131, 6⟩ : Bt), (⟨a141, n141, 1⟩ : Bt)], (by show _ = [ρ 50, ρ 56, ρ 62, ρ 68, ρ 73, ρ 83, ρ 97, ρ 106, ρ 113, ρ 121, ρ 126, ρ 131, ρ 141]; rw [hx50, hx56, hx62, hx68, hx73, hx83, hx97, hx106, hx113, hx121, hx126, hx131, hx141] <;> rfl), ao, c, rfl, hL, rfl⟩ (by show _ = _ :: (50, ρ 50) :: (56, ρ 56) :: (62, ρ 62) :: (68, ρ 68) :: (73, ρ 73) :: (83, ρ 83) :: (97, ρ 97) :: (106, ρ 106) :: (113, ρ 113) :: (121, ρ 121) :: (126, ρ 126) :: (131, ρ 131) :: (141, ρ 141) :: (E09 wh b7 b10 b9 ao12 ++ Y); rw [hx50, hx56, hx62, hx68, hx73, hx83, hx97, hx106, hx113, hx121, hx126, hx131, hx141] <;> rfl) 
      refine ⟨fun ρ χ X Y K hd hK => ⟨_, rfl, ?_⟩, ?_⟩
      · have h142 : FB.spec ρ (ρ 142) (χ 95) (.fin [50, 56, 62, 68, 73, 83, 97, 106, 113, 121, 126, 131, 141]) := hd 95 (.head _)
        show OW _ _ _ _ _ _ (G0B k s b7 b10 b9 (D12 :: F) ++ X) ((142, ρ 142) :: (E09 wh b7 b10 b9 ao12 ++ Y)) [_]
        refine ow_val rfl rfl (v_assign rfl) ?_
        exact fd hK _ [] ⟨rfl, rfl⟩ rfl
      exact True.intro
    · intro ρ χ L hL hs
      refine xw_np ?_
      generalize hD : (L.flatMap χ).flatten = D
      have hLx : ∀ i, i < 97 → i ∈ L := hL
      have hsx : ∀ i, i < 97 → FB.spec ρ (ρ (d9 i)) (χ i) ((spL9 k s b7 b10 b9).getD i (.val (.bool false))) := hs
      have e48 : EvAt D (ρ 48) (sB k s 5 0) := evn_at (hsx 1 (by decide)) (hD ▸ flat_has (hLx 1 (by decide))) rfl
      have e54 : EvAt D (ρ 54) (evB 4 [(k : Int), 5]) := ev_at (j := 53) (cj := χ 6) (hsx 7 (by decide)) (hsx 6 (by decide)) (hD ▸ flat_has (hLx 6 (by decide))) rfl
      have e60 : EvAt D (ρ 60) (evB 5 [(k : Int), 1, 1]) := ev_at (j := 59) (cj := χ 12) (hsx 13 (by decide)) (hsx 12 (by decide)) (hD ▸ flat_has (hLx 12 (by decide))) rfl
      have e66 : EvAt D (ρ 66) (evB 5 [(k : Int), 6, 0]) := ev_at (j := 65) (cj := χ 18) (hsx 19 (by decide)) (hsx 18 (by decide)) (hD ▸ flat_has (hLx 18 (by decide))) rfl
      have e71 : EvAt D (ρ 71) (mB s 0 0) := evn_at (hsx 24 (by decide)) (hD ▸ flat_has (hLx 24 (by decide))) rfl
      have e79 : EvAt D (ρ 79) (mB (2 * s) (2 * s) 0) := evn_at (hsx 32 (by decide)) (hD ▸ flat_has (hLx 32 (by decide))) rfl
      have e81 : EvAt D (ρ 81) (sB k s 6 1) := evn_at (hsx 34 (by decide)) (hD ▸ flat_has (hLx 34 (by decide))) rfl
      have e89 : EvAt D (ρ 89) (mB (2 * s) (2 * s) 1) := evn_at (hsx 42 (by decide)) (hD ▸ flat_has (hLx 42 (by decide))) rfl
      have e91 : EvAt D (ρ 91) (sB k s 6 1) := evn_at (hsx 44 (by decide)) (hD ▸ flat_has (hLx 44 (by decide))) rfl
      have e93 : EvAt D (ρ 93) (sB k s 7 1) := evn_at (hsx 46 (by decide)) (hD ▸ flat_has (hLx 46 (by decide))) rfl
      have e95 : EvAt D (ρ 95) (sB k s 8 1) := evn_at (hsx 48 (by decide)) (hD ▸ flat_has (hLx 48 (by decide))) rfl
      have e100 : EvAt D (ρ 100) (evB 1 [3]) := ev_at (j := 99) (cj := χ 52) (hsx 53 (by decide)) (hsx 52 (by decide)) (hD ▸ flat_has (hLx 52 (by decide))) rfl
      have e102 : EvAt D (ρ 102) (sB k s 6 0) := evn_at (hsx 55 (by decide)) (hD ▸ flat_has (hLx 55 (by decide))) rfl
      have e104 : EvAt D (ρ 104) (sB k s 7 1) := evn_at (hsx 57 (by decide)) (hD ▸ flat_has (hLx 57 (by decide))) rfl
      have e109 : EvAt D (ρ 109) (evB 1 [4]) := ev_at (j := 108) (cj := χ 61) (hsx 62 (by decide)) (hsx 61 (by decide)) (hD ▸ flat_has (hLx 61 (by decide))) rfl
      have e111 : EvAt D (ρ 111) (sB k s 6 0) := evn_at (hsx 64 (by decide)) (hD ▸ flat_has (hLx 64 (by decide))) rfl
      have e116 : EvAt D (ρ 116) (evB 1 [2]) := ev_at (j := 115) (cj := χ 68) (hsx 69 (by decide)) (hsx 68 (by decide)) (hD ▸ flat_has (hLx 68 (by decide))) rfl
      have e119 : EvAt D (ρ 119) (evB 1 [1]) := ev_at (j := 118) (cj := χ 71) (hsx 72 (by decide)) (hsx 71 (by decide)) (hD ▸ flat_has (hLx 71 (by decide))) rfl
      have e124 : EvAt D (ρ 124) (evB 9 [4, 10, 11, 5, 5]) := ev_at (j := 123) (cj := χ 76) (hsx 77 (by decide)) (hsx 76 (by decide)) (hD ▸ flat_has (hLx 76 (by decide))) rfl
      have e129 : EvAt D (ρ 129) (evB 9 [4, 10, 10, 5, 6]) := ev_at (j := 128) (cj := χ 81) (hsx 82 (by decide)) (hsx 81 (by decide)) (hD ▸ flat_has (hLx 81 (by decide))) rfl
      have e135 : EvAt D (ρ 135) (evB 5 [(k : Int), 0, 0]) := ev_at (j := 134) (cj := χ 87) (hsx 88 (by decide)) (hsx 87 (by decide)) (hD ▸ flat_has (hLx 87 (by decide))) rfl
      have e139 : EvAt D (ρ 139) (evB 5 [(k : Int), 0, 0]) := ev_at (j := 138) (cj := χ 91) (hsx 92 (by decide)) (hsx 91 (by decide)) (hD ▸ flat_has (hLx 91 (by decide))) rfl
      have r49 := row_of (D := D) (ρ := ρ) (l := [(48, (sB k s 5 0))]) (hsx 2 (by decide)) (hD ▸ flat_has (hLx 2 (by decide))) (List.forall_mem_cons.2 ⟨e48, List.forall_mem_nil _⟩)
      have r55 := row_of (D := D) (ρ := ρ) (l := [(54, (evB 4 [(k : Int), 5]))]) (hsx 8 (by decide)) (hD ▸ flat_has (hLx 8 (by decide))) (List.forall_mem_cons.2 ⟨e54, List.forall_mem_nil _⟩)
      have r61 := row_of (D := D) (ρ := ρ) (l := [(60, (evB 5 [(k : Int), 1, 1]))]) (hsx 14 (by decide)) (hD ▸ flat_has (hLx 14 (by decide))) (List.forall_mem_cons.2 ⟨e60, List.forall_mem_nil _⟩)
      have r67 := row_of (D := D) (ρ := ρ) (l := [(66, (evB 5 [(k : Int), 6, 0]))]) (hsx 20 (by decide)) (hD ▸ flat_has (hLx 20 (by decide))) (List.forall_mem_cons.2 ⟨e66, List.forall_mem_nil _⟩)
      have r72 := row_of (D := D) (ρ := ρ) (l := [(71, (mB s 0 0))]) (hsx 25 (by decide)) (hD ▸ flat_has (hLx 25 (by decide))) (List.forall_mem_cons.2 ⟨e71, List.forall_mem_nil _⟩)
      have r82 := row_of (D := D) (ρ := ρ) (l := [(79, (mB (2 * s) (2 * s) 0)), (81, (sB k s 6 1))]) (hsx 35 (by decide)) (hD ▸ flat_has (hLx 35 (by decide))) (List.forall_mem_cons.2 ⟨e79, List.forall_mem_cons.2 ⟨e81, List.forall_mem_nil _⟩⟩)
      have r96 := row_of (D := D) (ρ := ρ) (l := [(89, (mB (2 * s) (2 * s) 1)), (91, (sB k s 6 1)), (93, (sB k s 7 1)), (95, (sB k s 8 1))]) (hsx 49 (by decide)) (hD ▸ flat_has (hLx 49 (by decide))) (List.forall_mem_cons.2 ⟨e89, List.forall_mem_cons.2 ⟨e91, List.forall_mem_cons.2 ⟨e93, List.forall_mem_cons.2 ⟨e95, List.forall_mem_nil _⟩⟩⟩⟩)
      have r105 := row_of (D := D) (ρ := ρ) (l := [(100, (evB 1 [3])), (102, (sB k s 6 0)), (104, (sB k s 7 1))]) (hsx 58 (by decide)) (hD ▸ flat_has (hLx 58 (by decide))) (List.forall_mem_cons.2 ⟨e100, List.forall_mem_cons.2 ⟨e102, List.forall_mem_cons.2 ⟨e104, List.forall_mem_nil _⟩⟩⟩)
      have r112 := row_of (D := D) (ρ := ρ) (l := [(109, (evB 1 [4])), (111, (sB k s 6 0))]) (hsx 65 (by decide)) (hD ▸ flat_has (hLx 65 (by decide))) (List.forall_mem_cons.2 ⟨e109, List.forall_mem_cons.2 ⟨e111, List.forall_mem_nil _⟩⟩)
      have r120 := row_of (D := D) (ρ := ρ) (l := [(116, (evB 1 [2])), (119, (evB 1 [1]))]) (hsx 73 (by decide)) (hD ▸ flat_has (hLx 73 (by decide))) (List.forall_mem_cons.2 ⟨e116, List.forall_mem_cons.2 ⟨e119, List.forall_mem_nil _⟩⟩)
      have r125 := row_of (D := D) (ρ := ρ) (l := [(124, (evB 9 [4, 10, 11, 5, 5]))]) (hsx 78 (by decide)) (hD ▸ flat_has (hLx 78 (by decide))) (List.forall_mem_cons.2 ⟨e124, List.forall_mem_nil _⟩)
      have r130 := row_of (D := D) (ρ := ρ) (l := [(129, (evB 9 [4, 10, 10, 5, 6]))]) (hsx 83 (by decide)) (hD ▸ flat_has (hLx 83 (by decide))) (List.forall_mem_cons.2 ⟨e129, List.forall_mem_nil _⟩)
      have r140 := row_of (D := D) (ρ := ρ) (l := [(135, (evB 5 [(k : Int), 0, 0])), (139, (evB 5 [(k : Int), 0, 0]))]) (hsx 93 (by decide)) (hD ▸ flat_has (hLx 93 (by decide))) (List.forall_mem_cons.2 ⟨e135, List.forall_mem_cons.2 ⟨e139, List.forall_mem_nil _⟩⟩)
      have hf : FB.spec ρ (ρ 142) (χ 95) (.fin [50, 56, 62, 68, 73, 83, 97, 106, 113, 121, 126, 131, 141]) := hsx 95 (by decide)
      obtain ⟨bs, hb1, ao, x, hb2, hb3, hb4⟩ := hf
      have hbl : bs.length = 13 := by simpa using congrArg List.length hb1
      have t50 : ∃ b, ρ 50 = enBt.val b ∧ BentAt D b ([(sB k s 5 0)], 1) := bent_at (j := 49) (hsx 3 (by decide)) r49
      have t56 : ∃ b, ρ 56 = enBt.val b ∧ BentAt D b ([(evB 4 [(k : Int), 5])], 1) := bent_at (j := 55) (hsx 9 (by decide)) r55
      have t62 : ∃ b, ρ 62 = enBt.val b ∧ BentAt D b ([(evB 5 [(k : Int), 1, 1])], 2) := bent_at (j := 61) (hsx 15 (by decide)) r61
      have t68 : ∃ b, ρ 68 = enBt.val b ∧ BentAt D b ([(evB 5 [(k : Int), 6, 0])], 2) := bent_at (j := 67) (hsx 21 (by decide)) r67
      have t73 : ∃ b, ρ 73 = enBt.val b ∧ BentAt D b ([(mB s 0 0)], 3) := bent_at (j := 72) (hsx 26 (by decide)) r72
      have t83 : ∃ b, ρ 83 = enBt.val b ∧ BentAt D b ([(mB (2 * s) (2 * s) 0), (sB k s 6 1)], 4) := bent_at (j := 82) (hsx 36 (by decide)) r82
      have t97 : ∃ b, ρ 97 = enBt.val b ∧ BentAt D b ([(mB (2 * s) (2 * s) 1), (sB k s 6 1), (sB k s 7 1), (sB k s 8 1)], 4) := bent_at (j := 96) (hsx 50 (by decide)) r96
      have t106 : ∃ b, ρ 106 = enBt.val b ∧ BentAt D b ([(evB 1 [3]), (sB k s 6 0), (sB k s 7 1)], 5) := bent_at (j := 105) (hsx 59 (by decide)) r105
      have t113 : ∃ b, ρ 113 = enBt.val b ∧ BentAt D b ([(evB 1 [4]), (sB k s 6 0)], 5) := bent_at (j := 112) (hsx 66 (by decide)) r112
      have t121 : ∃ b, ρ 121 = enBt.val b ∧ BentAt D b ([(evB 1 [2]), (evB 1 [1])], 5) := bent_at (j := 120) (hsx 74 (by decide)) r120
      have t126 : ∃ b, ρ 126 = enBt.val b ∧ BentAt D b ([(evB 9 [4, 10, 11, 5, 5])], 6) := bent_at (j := 125) (hsx 79 (by decide)) r125
      have t131 : ∃ b, ρ 131 = enBt.val b ∧ BentAt D b ([(evB 9 [4, 10, 10, 5, 6])], 6) := bent_at (j := 130) (hsx 84 (by decide)) r130
      have t141 : ∃ b, ρ 141 = enBt.val b ∧ BentAt D b ([(evB 5 [(k : Int), 0, 0]), (evB 5 [(k : Int), 0, 0])], 1) := bent_at (j := 140) (hsx 94 (by decide)) r140
      have hm : FB.spec ρ (ρ 13) (χ 96) (.mv 142) := hsx 96 (by decide)
      rw [hbl] at hb2 hb3
      refine xw_joint (⟨ao, bs, D⟩ : J9) ⟨hbl, fun B w0 G hG => hb3.vw fun p hp => hG p (hD ▸ flat_has (hLx 95 (by decide)) x (by rw [hb4]; exact List.mem_singleton.2 rfl) p hp), ?_⟩ ?_ ?_
      · refine bents_all (r := bentB k s) hb1 ?_
        exact ⟨t50, t56, t62, t68, t73, t83, t97, t106, t113, t121, t126, t131, t141, True.intro⟩
      · show Cov (D :: D12 :: G0B k s b7 b10 b9 F) (L.flatMap χ ++ G0B k s b7 b10 b9 (D12 :: F))
        rw [← hD]
        unfold G0B
        intro p
        simp only [List.flatten_cons, List.flatten_append, cnt_append]
        omega
      · refine ⟨?_, (by repeat (first | exact True.intro | refine And.intro rfl ?_))⟩
        show some (ρ 13) = some (.slice ao 13 13)
        rw [hm.1, hb2]
  rintro ⟨ao13, bs, D13⟩ ⟨hbl, hbv, hbe⟩
  dsimp only at hbl hbv hbe ⊢
  obtain ⟨es12, hn12, hm12, hv12, hd12⟩ := hR12
  skip
  refine cw_env ((0, .int .u8 wh) :: (7, .pointer (some ⟨b7, 0, none⟩)) :: (12, .slice ao12 6 6) :: (13, .slice ao13 13 13) :: []) (by repeat (first | exact True.intro | refine And.intro rfl ?_)) ?_
  refine cw_cov (evCell b7 :: D13 :: D12 :: F) (by unfold G0B; exact (by first | exact Cov.refl _ | (intro p; simp only [List.flatten_cons, List.flatten_nil, List.flatten_append, List.append_nil, List.nil_append, cnt_append, cnt_cons, cnt_nil, List.set_cons_zero, List.set_cons_succ, List.length_nil, List.length_cons, Nat.zero_add, List.append]; omega))) ?_
  unfold evCell
  have hsl : 13 ≤ bs.length := by omega
  have htm : wh.tmod ((13 : Nat) : Int) = wh % 13 := Int.tmod_eq_emod_of_nonneg h0.1
  obtain ⟨j, hj, hwj⟩ : ∃ j : Nat, j < 13 ∧ wh.tmod ((13 : Nat) : Int) = (j : Int) := ⟨(wh % 13).toNat, by omega, by rw [htm]; omega⟩
  clear htm
  have hjb : j < bs.length := by omega
  have hbj := hbe j hjb
  refine cw_seq ?_
  refine cw_region ?_
  refine ow_val rfl rfl (v_move rfl) ?_
  refine ow_val rfl rfl (v_move rfl) ?_
  refine ow_val rfl rfl (v_convert Try.underlying5 Try.underlying3 rfl (nw_i64 (by omega) (by omega))) ?_
  refine ow_val rfl rfl (v_move rfl) ?_
  refine ow_val rfl rfl (v_len rfl Try.underlying92 rfl) ?_
  refine ow_val rfl rfl (v_rem rfl rfl (by decide)) ?_
  rw [hwj]
  have hok2 : enBt.ok bs[j] := True.intro
  have hV13 := hbv B w0 (D13 :: []) Sub.here
  refine ow_val rfl rfl (v_indexAddr_vw Try.underlying92 (btTy) rfl rfl (by assumption) rfl (by omega)) ?_
  refine ow_val rfl rfl (v_load rfl (Go.Sl.Vw.var (btTy) (hV13.cov (by first | exact Cov.refl _ | (intro p; simp only [List.flatten_cons, List.flatten_nil, List.flatten_append, List.append_nil, List.nil_append, cnt_append, cnt_cons, cnt_nil, List.set_cons_zero, List.set_cons_succ, List.length_nil, List.length_cons, Nat.zero_add, List.append]; omega))) (by omega))) ?_
  (refine ow_alloc rfl rfl Ty.ze91 ?_; intro b14)
  refine ow_storeE rfl (btTy) rfl rfl .here (by first | rfl | assumption) (by assumption) ?_
  refine ow_nil ?_
  refine xw_then ?_
  clear hV13 hok2
  obtain ⟨hwy, es, hne, hme, hve, hde⟩ := hbj
  generalize hbt : bs[j] = b at *
  have hl12 : es12.length ≤ 100000 := by omega
  have hV12 := ckCheck_c (G := [(b14, .cells (enBt.f b).toArray 91 (0, 0))] :: [(b7, .cells [Value.func (.func 34) #[] #[]].toArray 86 (0, 0))] :: D13 :: D12 :: F) (De := D12) (hv12 B w0 _ (by repeat (first | exact Sub.here | exact Sub.nil | assumption | refine Sub.there ?_))) hl12 (fun x hx => hd12 x hx B w0) (by repeat (first | exact Sub.here | exact Sub.nil | assumption | refine Sub.there ?_))
  have hrb : runCk CkM.zero (baseB k s) = (6, 0) := by
    have h := run_base (l := []) (n := 0) (v := 0) hk3 hs rfl
    rwa [List.append_nil] at h
  rw [hm12, hrb] at hV12
  dsimp only at hV12
  refine cw_seq ?_
  refine cw_seq ?_
  refine cw_region ?_
  refine ow_val rfl rfl (v_move rfl) ?_
  refine ow_val rfl rfl (v_call rfl rfl (hV12)) ?_
  refine ow_val rfl rfl (v_move rfl) ?_
  refine ow_val rfl rfl (v_extract rfl rfl) ?_
  refine ow_val rfl rfl (v_extract rfl rfl) ?_
  refine ow_val rfl rfl (v_assign rfl) ?_
  refine ow_val rfl rfl (v_assign rfl) ?_
  refine ow_nil ?_
  refine xw_then ?_
  clear hV12
  obtain ⟨bao, bn, bw⟩ := b
  dsimp only at hwy hne hve
  subst hne
  refine cw_env ((14, .pointer (some ⟨b14, 0, none⟩)) :: (7, .pointer (some ⟨b7, 0, none⟩)) :: (12, .slice ao12 6 6) :: (15, .int .i64 6) :: (16, .int .u8 0) :: []) (by repeat (first | exact True.intro | refine And.intro rfl ?_)) ?_
  refine cw_cov ([(b14, .cells [Value.slice bao es.length es.length, .int .u8 bw].toArray 91 (0, 0))] :: [(b7, .cells [Value.func (.func 34) #[] #[]].toArray 86 (0, 0))] :: D13 :: D12 :: F) (Cov.refl _) ?_
  have hle : es.length ≤ 4 := by
    have h := congrArg List.length hme
    rw [List.length_map] at h
    rw [h]
    exact bentB_len
  have hV12 := hv12 B w0 (D12 :: []) Sub.here
  have hV13 := hve B w0 (D13 :: []) Sub.here
  refine cw_seq ?_
  refine cw_region ?_
  refine ow_val rfl rfl (v_move rfl) ?_
  refine ow_val rfl rfl (v_move rfl) ?_
  refine ow_val rfl rfl (v_len rfl Try.underlying57 rfl) ?_
  refine ow_val rfl rfl (v_neq rfl rfl) ?_
  refine ow_val rfl rfl (v_move rfl) ?_
  refine ow_dec 160 rfl (fun hc160 => ?_) (fun hc160 => ?_)
  (exfalso; omega)
  refine ow_val rfl rfl (v_move rfl) ?_
  refine ow_val rfl rfl (v_neq rfl rfl) ?_
  refine ow_val rfl rfl (v_pick_false rfl rfl) ?_
  refine ow_nil ?_
  refine xw_then ?_
  refine cw_false rfl ?_
  refine cw_skip ?_
  refine xw_then ?_
  refine cw_cut2 (ι := ((Option Addr × Nat × Hp))) [(7, _), (14, _)] ⟨rfl, rfl, trivial⟩ ((fun x => [(17, .slice x.1 (es12 ++ es).length x.2.1)])) ((fun x : Option Addr × Nat × Hp => Ls enEv 62 (.slice x.1 (es12 ++ es).length x.2.1) x.2.2 (es12 ++ es))) ((fun x => x.2.2 :: [(b14, .cells [Value.slice bao es.length es.length, .int .u8 bw].toArray 91 (0, 0))] :: [(b7, .cells [Value.func (.func 34) #[] #[]].toArray 86 (0, 0))] :: D13 :: D12 :: F)) ?_ ?_
  · refine cw_any Ty.mixed ?_
    refine aw_pure 1 rfl (by decide +kernel) rfl rfl (v_move rfl) rfl ?_
    refine aw_pure 3 rfl (by decide +kernel) rfl rfl (v_fieldAddr0 Ty.fd91_0 rfl) rfl ?_
    refine aw_step2 0 4 (by decide +kernel) rfl rfl ?_ ?_
    (refine ow_buildL (es := []) rfl rfl Try.underlying57 Ty.em57 (evTy) rfl rfl (by first | (simp [*]; done) | (repeat (first | exact List.forall_mem_nil _ | refine List.forall_mem_cons.2 ⟨?_, ?_⟩ | assumption | (show _ ∧ _; omega)))) (by simp only [List.length_cons, List.length_nil]; decide) ?_; intro ao164 c164 hL164)
    refine ow_nil ?_
    refine xw_nx ?_
    refine aw_step2 2 4 (by decide +kernel) rfl rfl ?_ ?_
    (refine ow_appendL rfl rfl Try.underlying57 Try.underlying57 Ty.em57 (evTy) rfl rfl (by assumption) (by repeat (first | exact Sel.here | apply Sel.there)) (hV12.cov (by first | exact Cov.refl _ | (intro p; simp only [List.flatten_cons, List.flatten_nil, List.flatten_append, List.append_nil, List.nil_append, cnt_append, cnt_cons, cnt_nil, List.set_cons_zero, List.set_cons_succ, List.length_nil, List.length_cons, Nat.zero_add, List.append]; omega))) (by first | omega | (simp only [List.length_append, List.length_take, List.length_drop, List.length_nil, List.length_cons]; omega)) (by first | omega | (simp only [List.length_append, List.length_take, List.length_drop, List.length_nil, List.length_cons]; omega)) ?_; intro ao166 cap166 c166 hL166)
    refine ow_nil ?_
    refine xw_nx ?_
    refine aw_step1 4 (by decide +kernel) rfl ?_
    refine ow_val rfl rfl (v_load rfl (Var.at1 Ty.sc57 (.there .here) (GetN.lit rfl))) ?_
    refine ow_nil ?_
    refine xw_nx ?_
    refine aw_step1 5 (by decide +kernel) rfl ?_
    (refine ow_appendL rfl rfl Try.underlying57 Try.underlying57 Ty.em57 (evTy) rfl rfl (by assumption) (by repeat (first | exact Sel.here | apply Sel.there)) (hV13.cov (by first | exact Cov.refl _ | (intro p; simp only [List.flatten_cons, List.flatten_nil, List.flatten_append, List.append_nil, List.nil_append, cnt_append, cnt_cons, cnt_nil, List.set_cons_zero, List.set_cons_succ, List.length_nil, List.length_cons, Nat.zero_add, List.append]; omega))) (by first | omega | (simp only [List.length_append, List.length_take, List.length_drop, List.length_nil, List.length_cons]; omega)) (by first | omega | (simp only [List.length_append, List.length_take, List.length_drop, List.length_nil, List.length_cons]; omega)) ?_; intro ao169 cap169 c169 hL169)
    refine ow_nil ?_
    refine xw_nx ?_
    refine aw_pure 6 rfl (by decide +kernel) rfl rfl (v_assign rfl) rfl ?_
    refine aw_end (by decide +kernel) ?_
    refine xw_np ?_
    rotate_left
    refine ow_val rfl rfl (v_load rfl (Var.at1 Ty.sc57 (.there .here) (GetN.lit rfl))) ?_
    refine ow_nil ?_
    refine xw_nx ?_
    refine aw_step1 2 (by decide +kernel) rfl ?_
    (refine ow_appendL rfl rfl Try.underlying57 Try.underlying57 Ty.em57 (evTy) rfl rfl (by assumption) (by repeat (first | exact Sel.here | apply Sel.there)) (hV12.cov (by first | exact Cov.refl _ | (intro p; simp only [List.flatten_cons, List.flatten_nil, List.flatten_append, List.append_nil, List.nil_append, cnt_append, cnt_cons, cnt_nil, List.set_cons_zero, List.set_cons_succ, List.length_nil, List.length_cons, Nat.zero_add, List.append]; omega))) (by first | omega | (simp only [List.length_append, List.length_take, List.length_drop, List.length_nil, List.length_cons]; omega)) (by first | omega | (simp only [List.length_append, List.length_take, List.length_drop, List.length_nil, List.length_cons]; omega)) ?_; intro ao166 cap166 c166 hL166)
    refine ow_nil ?_
    refine xw_nx ?_
    refine aw_step1 5 (by decide +kernel) rfl ?_
    (refine ow_appendL rfl rfl Try.underlying57 Try.underlying57 Ty.em57 (evTy) rfl rfl (by assumption) (by repeat (first | exact Sel.here | apply Sel.there)) (hV13.cov (by first | exact Cov.refl _ | (intro p; simp only [List.flatten_cons, List.flatten_nil, List.flatten_append, List.append_nil, List.nil_append, cnt_append, cnt_cons, cnt_nil, List.set_cons_zero, List.set_cons_succ, List.length_nil, List.length_cons, Nat.zero_add, List.append]; omega))) (by first | omega | (simp only [List.length_append, List.length_take, List.length_drop, List.length_nil, List.length_cons]; omega)) (by first | omega | (simp only [List.length_append, List.length_take, List.length_drop, List.length_nil, List.length_cons]; omega)) ?_; intro ao169 cap169 c169 hL169)
    refine ow_nil ?_
    refine xw_nx ?_
    refine aw_pure 6 rfl (by decide +kernel) rfl rfl (v_assign rfl) rfl ?_
    refine aw_end (by decide +kernel) ?_
    refine xw_np ?_
    rotate_left
    refine ow_val rfl rfl (v_load rfl (Var.at1 Ty.sc57 .here (GetN.lit rfl))) ?_
    refine ow_nil ?_
    refine xw_nx ?_
    refine aw_step1 0 (by decide +kernel) rfl ?_
    (refine ow_buildL (es := []) rfl rfl Try.underlying57 Ty.em57 (evTy) rfl rfl (by first | (simp [*]; done) | (repeat (first | exact List.forall_mem_nil _ | refine List.forall_mem_cons.2 ⟨?_, ?_⟩ | assumption | (show _ ∧ _; omega)))) (by simp only [List.length_cons, List.length_nil]; decide) ?_; intro ao164 c164 hL164)
    refine ow_nil ?_
    refine xw_nx ?_
    refine aw_step1 2 (by decide +kernel) rfl ?_
    (refine ow_appendL rfl rfl Try.underlying57 Try.underlying57 Ty.em57 (evTy) rfl rfl (by assumption) (by repeat (first | exact Sel.here | apply Sel.there)) (hV12.cov (by first | exact Cov.refl _ | (intro p; simp only [List.flatten_cons, List.flatten_nil, List.flatten_append, List.append_nil, List.nil_append, cnt_append, cnt_cons, cnt_nil, List.set_cons_zero, List.set_cons_succ, List.length_nil, List.length_cons, Nat.zero_add, List.append]; omega))) (by first | omega | (simp only [List.length_append, List.length_take, List.length_drop, List.length_nil, List.length_cons]; omega)) (by first | omega | (simp only [List.length_append, List.length_take, List.length_drop, List.length_nil, List.length_cons]; omega)) ?_; intro ao166 cap166 c166 hL166)
    refine ow_nil ?_
    refine xw_nx ?_
    refine aw_step1 5 (by decide +kernel) rfl ?_
    (refine ow_appendL rfl rfl Try.underlying57 Try.underlying57 Ty.em57 (evTy) rfl rfl (by assumption) (by repeat (first | exact Sel.here | apply Sel.there)) (hV13.cov (by first | exact Cov.refl _ | (intro p; simp only [List.flatten_cons, List.flatten_nil, List.flatten_append, List.append_nil, List.nil_append, cnt_append, cnt_cons, cnt_nil, List.set_cons_zero, List.set_cons_succ, List.length_nil, List.length_cons, Nat.zero_add, List.append]; omega))) (by first | omega | (simp only [List.length_append, List.length_take, List.length_drop, List.length_nil, List.length_cons]; omega)) (by first | omega | (simp only [List.length_append, List.length_take, List.length_drop, List.length_nil, List.length_cons]; omega)) ?_; intro ao169 cap169 c169 hL169)
    refine ow_nil ?_
    refine xw_nx ?_
    refine aw_pure 6 rfl (by decide +kernel) rfl rfl (v_assign rfl) rfl ?_
    refine aw_end (by decide +kernel) ?_
    refine xw_np ?_
    rotate_left
    · exact xw_joint ((ao169, cap169, c169) : Option Addr × Nat × Hp) hL169 (by first | exact Cov.refl _ | (intro p; simp only [List.flatten_cons, List.flatten_nil, List.flatten_append, List.append_nil, List.nil_append, cnt_append, cnt_cons, cnt_nil, List.set_cons_zero, List.set_cons_succ, List.length_nil, List.length_cons, Nat.zero_add, List.append]; omega)) (by repeat (first | exact True.intro | refine And.intro rfl ?_))
    · exact xw_joint ((ao169, cap169, c169) : Option Addr × Nat × Hp) hL169 (by first | exact Cov.refl _ | (intro p; simp only [List.flatten_cons, List.flatten_nil, List.flatten_append, List.append_nil, List.nil_append, cnt_append, cnt_cons, cnt_nil, List.set_cons_zero, List.set_cons_succ, List.length_nil, List.length_cons, Nat.zero_add, List.append]; omega)) (by repeat (first | exact True.intro | refine And.intro rfl ?_))
    · exact xw_joint ((ao169, cap169, c169) : Option Addr × Nat × Hp) hL169 (by first | exact Cov.refl _ | (intro p; simp only [List.flatten_cons, List.flatten_nil, List.flatten_append, List.append_nil, List.nil_append, cnt_append, cnt_cons, cnt_nil, List.set_cons_zero, List.set_cons_succ, List.length_nil, List.length_cons, Nat.zero_add, List.append]; omega)) (by repeat (first | exact True.intro | refine And.intro rfl ?_))
  rintro ⟨ao, cap, c⟩ hLA
  dsimp only at hLA ⊢
  have hokp : (evB 1 [5]).ok := evB_ok (by omega) (by simp) (by intro x hx; simp only [List.mem_singleton] at hx; subst hx; exact ⟨by decide, by decide⟩)
  refine cw_seq ?_
  refine cw_region ?_
  refine ow_val rfl rfl (v_move rfl) ?_
  refine ow_val rfl rfl (v_load rfl (Var.at1 Ty.sc86 (.there (.there .here)) (GetN.lit rfl))) ?_
  (refine ow_buildL (es := ([5])) rfl rfl Try.underlying60 Ty.em60 (qTy) rfl rfl (by first | (simp [*]; done) | (repeat (first | exact List.forall_mem_nil _ | refine List.forall_mem_cons.2 ⟨?_, ?_⟩ | assumption | (show _ ∧ _; omega)))) (by simp only [List.length_cons, List.length_nil]; decide) ?_; intro ao173 c173 hL173)
  refine ow_val rfl rfl (v_call rfl rfl (evC_c)) ?_
  have hok3 : enEv.ok ((evB 1 [5]).one ao173) := hokp
  (refine ow_buildL (es := ([(evB 1 [5]).one ao173])) rfl rfl Try.underlying57 Ty.em57 (evTy) rfl rfl (by first | (simp [*]; done) | (repeat (first | exact List.forall_mem_nil _ | refine List.forall_mem_cons.2 ⟨?_, ?_⟩ | assumption | (show _ ∧ _; omega)))) (by simp only [List.length_cons, List.length_nil]; decide) ?_; intro ao175 c175 hL175)
  (refine ow_appendL rfl rfl Try.underlying57 Try.underlying57 Ty.em57 (evTy) rfl rfl (by assumption) (by repeat (first | exact Sel.here | apply Sel.there)) ((Go.Sl.Ls.vw (by assumption) (by repeat (first | exact Sub.here | exact Sub.nil | assumption | refine Sub.there ?_)))) (by first | omega | (simp only [List.length_append, List.length_take, List.length_drop, List.length_nil, List.length_cons]; omega)) (by first | omega | (simp only [List.length_append, List.length_take, List.length_drop, List.length_nil, List.length_cons]; omega)) ?_; intro ao176 cap176 c176 hL176)
  have hle1 : es.length = (bentB k s j).1.length := by rw [← hme, List.length_map]
  have hle2 : 1 ≤ (bentB k s j).1.length := bentB_pos
  have hlA : (es12 ++ es).length = 6 + es.length := by rw [List.length_append, ← hn12]
  have hlB : (es12 ++ es ++ [(evB 1 [5]).one ao173]).length ≤ 100000 := by
    rw [List.length_append, hlA]
    show 6 + es.length + 1 ≤ 100000
    omega
  have hru : runCk CkM.zero ((es12 ++ es ++ [(evB 1 [5]).one ao173]).map (·.m)) = (es.length - 1 + 6, bw) := by
    rw [List.map_append, List.map_append, hm12, hme, hwy, hle1, List.append_assoc]
    exact run_base hk3 hs (run_bent hk3 hs j)
  have hdp : ∀ x ∈ es12 ++ es ++ [(evB 1 [5]).one ao173], EvDeep B w0 x.m x.p (D12 ++ (D13 ++ c173)) := by
    intro x hx
    rcases List.mem_append.1 hx with hx | hx
    · rcases List.mem_append.1 hx with hx | hx
      · exact fun G hG => hd12 x hx B w0 G hG.left
      · exact fun G hG => hde x hx B w0 G hG.right.left
    · obtain rfl := List.mem_singleton.1 hx
      exact fun G hG => ⟨hL173.vw hG.right.right, Ls.nil.vw (e := 5) Sub.nil⟩
  have hA := ckCheck_c (B := B) (w0 := w0) (G := c175 :: c173 :: c176 :: [(b14, .cells [Value.slice bao es.length es.length, .int .u8 bw].toArray 91 (0, 0))] :: [(b7, .cells [Value.func (.func 34) #[] #[]].toArray 86 (0, 0))] :: D13 :: D12 :: F) (De := D12 ++ (D13 ++ c173)) (hL176.vw (by repeat (first | exact Sub.here | exact Sub.nil | assumption | refine Sub.there ?_))) hlB hdp (Sub.app (by repeat (first | exact Sub.here | exact Sub.nil | assumption | refine Sub.there ?_)) (Sub.app (by repeat (first | exact Sub.here | exact Sub.nil | assumption | refine Sub.there ?_)) (by repeat (first | exact Sub.here | exact Sub.nil | assumption | refine Sub.there ?_))))
  rw [hru] at hA
  dsimp only at hA
  refine ow_val rfl rfl (v_call rfl rfl (hA)) ?_
  refine ow_val rfl rfl (v_move rfl) ?_
  refine ow_val rfl rfl (v_extract rfl rfl) ?_
  refine ow_val rfl rfl (v_extract rfl rfl) ?_
  refine ow_val rfl rfl (v_assign rfl) ?_
  refine ow_val rfl rfl (v_assign rfl) ?_
  refine ow_nil ?_
  refine xw_then ?_
  refine cw_seq ?_
  refine cw_region ?_
  refine ow_val rfl rfl (v_move rfl) ?_
  refine ow_val rfl rfl (v_move rfl) ?_
  refine ow_val rfl rfl (v_len rfl Try.underlying57 rfl) ?_
  refine ow_val rfl rfl (v_sub rfl rfl (nw_i64 (by omega) (by omega))) ?_
  refine ow_val rfl rfl (v_eql rfl rfl) ?_
  refine ow_val rfl rfl (v_move rfl) ?_
  refine ow_dec 185 rfl (fun hc185 => ?_) (fun hc185 => ?_)
  rotate_left; (exfalso; omega); rotate_right
  refine ow_val rfl rfl (v_move rfl) ?_
  refine ow_val rfl rfl (v_fieldAddr0 Ty.fd91_1 rfl) ?_
  refine ow_val rfl rfl (v_load rfl (Var.at1 Ty.sc89 (.there (.there (.there .here))) (GetN.lit rfl))) ?_
  refine ow_val rfl rfl (v_eql rfl rfl) ?_
  refine ow_val rfl rfl (v_pick_true rfl rfl) ?_
  refine ow_val rfl rfl (v_assign rfl) ?_
  refine ow_nil ?_
  refine xw_then ?_
  refine cw_ret ?_
  refine ret1 rfl (res_tmp rfl) ?_
  rw [decide_eq_true (rfl : bw = bw)]
  exact done0 rfl (by first | exact Cov.refl _ | (intro p; simp only [List.flatten_cons, List.flatten_nil, List.flatten_append, List.append_nil, List.nil_append, cnt_append, cnt_cons, cnt_nil, List.set_cons_zero, List.set_cons_succ, List.length_nil, List.length_cons, Nat.zero_add, List.append]; omega))

theorem open_u16 {H : Type} {enc : TypeId × Value → H} {W : World} {base : Nat} {v : Value} {d : DataW H} {p : List MemPlace} (hv : Value.okWide Try.prog W .any base 85 v) (h : DataW.Trod enc Try.prog W 0 (fun _ => true) true 85 v d p) : ∃ n : Int, v = .int .u16 n ∧ 0 ≤ n ∧ n ≤ 65535 := by
  obtain ⟨n, rfl⟩ := okWide_int Try.underlying85 hv
  obtain ⟨fu, h2⟩ := h
  obtain ⟨m, e, hw⟩ := form_int Try.underlying85 h2
  have e2 : [Value.int .u16 n] = [Value.int .u16 m] := e
  injection e2 with e3
  injection e3 with _ e4
  subst e4
  simp [Lit.wf, IntKind.min, IntKind.max, IntKind.signed, IntKind.bits] at hw
  exact ⟨n, rfl, by omega⟩
theorem walk {H : Type} {enc : TypeId × Value → H} (W : World) (base : Nat) (args : Array Value) (ds : List (DataW H)) (p : List MemPlace)
    (hval : ∀ (j : Nat) t v, Try.f8.params[j]? = some t → args[j]? = some v → Value.okWide Try.prog W .any base t v)
    (hA : DataW.TrodAll enc Try.prog W 0 (fun _ => true) true Try.f8.params.toList args.toList ds p) :
    Calls Try.prog 8 args W fun e w' => e = .returned (.bool true) ∧ Below W.heap.size W w' := by
  rw [Try.params8] at hA hval
  obtain ⟨v0, vs0, d0, ds0, p0, q0, hargs, rfl, rfl, h0, r0⟩ := trodAll_cons hA
  obtain ⟨v1, vs1, d1, ds1, p1, q1, rfl, rfl, rfl, h1, r1⟩ := trodAll_cons r0
  obtain ⟨v2, vs2, d2, ds2, p2, q2, rfl, rfl, rfl, h2, r2⟩ := trodAll_cons r1
  obtain ⟨rfl, rfl, rfl⟩ := trodAll_nil r2
  obtain rfl : args = #[v0, v1, v2] := by cases args; simp_all
  obtain ⟨n0, rfl, w0⟩ := open_u8 (hval 0 5 v0 rfl rfl) h0
  obtain ⟨n1, rfl, w1⟩ := open_u8 (hval 1 5 v1 rfl rfl) h1
  obtain ⟨n2, rfl, w2⟩ := open_u16 (hval 2 85 v2 rfl rfl) h2
  exact (law w0 w1 w2 []).call

theorem own : ownKnob Try.prog.godebug = none := by kernel_rfl
theorem laidOut : laidOutB Try.prog = true := by kernel_rfl
theorem reads : ∀ t ∈ Try.f8.params.toList, Try.prog.readableRec t = true ∧ t < Try.prog.types.size := by
  rw [Try.params8]
  intro t ht
  simp only [List.mem_cons, List.not_mem_nil, or_false] at ht
  rcases ht with rfl | rfl | rfl
  · exact ⟨by kernel_rfl, of_decide_eq_true (by kernel_rfl)⟩
  · exact ⟨by kernel_rfl, of_decide_eq_true (by kernel_rfl)⟩
  · exact ⟨by kernel_rfl, of_decide_eq_true (by kernel_rfl)⟩

set_option maxRecDepth 100000 in
theorem lifted (os : Os) (started : os.Started) (H : Type) (enc : TypeId × Value → H) :
    ReturnsInHanded {} Try.checked os 8 .any (Rows.rulesBentSpec.pre6 enc Try.prog Try.f8 Rows.rulesBentRow.domain false) (Rows.rulesBentSpec.post enc Try.prog Try.f8 false true false false) := by
  refine returnsInHanded_of_change (C := Try.checked) own started (by kernel_rfl) Try.func8
    (ChangeSpec.witness6 (enc := enc) (C := Try.checked) false ⟨#[], #[.int .u8 0, .int .u8 0, .int .u16 0], []⟩ 8 (by kernel_rfl) (by kernel_rfl) (by kernel_rfl) (by kernel_rfl)) ?_
  intro W base args ds gs before hval hW _ _
  have hW' := hW
  obtain ⟨p, q, hA0, hV, rfl, _, _⟩ := hW
  obtain ⟨rfl, rfl⟩ := trodVars_none hV
  have hA : DataW.TrodAll enc Try.prog W 0 (fun _ => true) true Try.f8.params.toList args.toList ds p := hA0
  have hlen := trodAll_len hA
  refine (walk W base args ds p hval hA).mono fun e W' ⟨he, bel⟩ => ?_
  subst he
  rw [Try.params8] at hlen
  match ds, hlen.2, hA, hW' with
  | [d0, d1, d2], _, hA, hW' => exact ⟨_, rfl, _, _, _, [], _, [], hW', trodAll_mk1 (shut_bool Try.underlying4 _), trodAll_stays laidOut bel reads hA, rfl, bel.frame _, fun h => by cases h⟩

theorem over : Rows.rulesBentRow.holds Try.pinned (OpenSpec.ofChange Rows.rulesBentSpec) :=
  OpenClaim.holds_of_wide 8 Try.f8 rfl rfl rfl rfl rfl rfl rfl ⟨rfl, rfl, rfl, rfl, rfl⟩ rfl rfl rfl rfl rfl (by kernel_rfl) Try.func8 (by kernel_rfl)
    (of_decide_eq_true (by kernel_rfl)) (by unfold Func.isWrapper; first | (rw [if_pos (by decide +kernel)]; kernel_rfl) | (rw [if_neg (by decide +kernel)]; exact ⟨rfl, rfl⟩))
    (fun os started H enc _ => lifted os started H enc)

theorem proved : Rows.RulesBentSaid := over

end Go.Proofs.Ytckdhelnafjddaa.lawRulesBent
