/- RulesBent: the law's closures. Conditions: none. -/
import Derived.Test.YtckdhelnafjddaaRuB
import Derived.Test.YtckdhelnafjddaaFree
namespace Go.Proofs.Ytckdhelnafjddaa
open Go Go.Sl Go.Proofs Go.RowKit Go.ChangeShapes Go.WideShapes Go.ChangeAt
set_option maxRecDepth 20000
set_option linter.unusedVariables false
set_option linter.unusedSimpArgs false

set_option maxHeartbeats 4000000 in
theorem evC_c {B : Nat} {w0 : World} {G : List Hp} {k : Int} {ao : Option Addr} {n cap : Nat} :
    Go.Sl.Fn Try.prog 34 #[.int .u8 k, .slice ao n cap] B w0 G fun u G' => u = .agg #[.int .u8 k, .int .u64 0, .slice ao n cap, .slice none 0 0] ∧ G' = G := by
  refine Fn.pure ?_
  refine fn_enter Try.func34 rfl (by kernel_rfl) Try.ntmps34 (by simp) ?_
  refine Go.Sl.cw_seq ?_
  refine Go.Sl.cw_region ?_
  (refine Go.Sl.ow_alloc rfl rfl Ty.ze62 ?_; intro b4)
  refine Go.Sl.ow_nil ?_
  refine Go.Sl.xw_then ?_
  refine Go.Sl.cw_seq ?_
  refine Go.Sl.cw_region ?_
  refine Go.Sl.ow_val rfl rfl (Go.Sl.v_move rfl) ?_
  refine Go.Sl.ow_val rfl rfl (Go.Sl.v_move rfl) ?_
  refine Go.Sl.ow_val rfl rfl (Go.Sl.v_build rfl (b_ev)) ?_
  refine Go.Sl.ow_storeN rfl rfl rfl Ty.ag62 (by first | rfl | assumption) (by first | assumption | simp) .here (Go.Sl.SetN.all (by first | rfl | assumption | simp_all)) ?_
  refine Go.Sl.ow_nil ?_
  refine Go.Sl.xw_then ?_
  refine Go.Sl.cw_ret ?_
  refine Go.Sl.ret1 rfl (Go.Sl.res_cell rfl (Go.Sl.Var.atN Ty.ag62 .here Go.Sl.GetN.all (by first | rfl | assumption))) ?_
  exact ⟨rfl, (by first | exact Go.Sl.Cov.refl _ | (intro p; simp only [List.flatten_cons, List.flatten_nil, List.flatten_append, List.append_nil, List.nil_append, Go.Sl.cnt_append, Go.Sl.cnt_cons, Go.Sl.cnt_nil, List.set_cons_zero, List.set_cons_succ, List.length_nil, List.length_cons, Nat.zero_add, List.append]; omega))⟩
def evCell (b : Nat) : Hp := [(b, .cells [Value.func (.func 34) #[] #[]].toArray 86 (0, 0))]
def qCell (b : Nat) (n : Int) : Hp := [(b, .cells [Value.int .u64 n].toArray 22 (0, 0))]
set_option maxHeartbeats 4000000 in
theorem mC_c {B : Nat} {w0 : World} {G : List Hp} {w f p : Int} {b : Nat} (hs : Sub (evCell b) G) (hw : enQ.ok w) (hf : enQ.ok f) (hp : enQ.ok p) :
    Go.Sl.Fn Try.prog 35 #[.int .u64 w, .int .u64 f, .int .u64 p, .pointer (some ⟨b, 0, none⟩)] B w0 G fun u G' => ∃ x : Option Addr × Hp, u = .agg ((mB w f p).cells ⟨x.1, 8, none, 0⟩).toArray ∧ Ls enQ 22 (.slice x.1 8 8) x.2 (mB w f p).n ∧ G' = [x.2] ++ G := by
  refine Fn.new ?_
  unfold evCell at hs
  refine fn_enter Try.func35 rfl (by kernel_rfl) Try.ntmps35 (by simp) ?_
  refine Go.Sl.cw_seq ?_
  refine Go.Sl.cw_region ?_
  (refine Go.Sl.ow_alloc rfl rfl Ty.ze62 ?_; intro b7)
  refine Go.Sl.ow_nil ?_
  refine Go.Sl.xw_then ?_
  refine Go.Sl.cw_seq ?_
  refine Go.Sl.cw_region ?_
  refine Go.Sl.ow_val rfl rfl (Go.Sl.v_load rfl (Go.Sl.Var.sub1 Ty.sc86 (by repeat (first | assumption | refine Go.Sl.Sub.there ?_)) (.head _) (Go.Sl.GetN.lit rfl))) ?_
  refine Go.Sl.ow_val rfl rfl (Go.Sl.v_move rfl) ?_
  refine Go.Sl.ow_val rfl rfl (Go.Sl.v_move rfl) ?_
  refine Go.Sl.ow_val rfl rfl (Go.Sl.v_move rfl) ?_
  (refine Go.Sl.ow_buildL (es := ([1, 1, 1, 1, w, f, 1048576, p])) rfl rfl Try.underlying60 Ty.em60 (qTy) rfl rfl (by first | (simp [*]; done) | (repeat (first | exact List.forall_mem_nil _ | refine List.forall_mem_cons.2 ⟨?_, ?_⟩ | assumption | (show _ ∧ _; omega)))) (by simp only [List.length_cons, List.length_nil]; decide) ?_; intro ao12 c12 hL12)
  refine Go.Sl.ow_val rfl rfl (Go.Sl.v_call rfl rfl (evC_c)) ?_
  refine Go.Sl.ow_storeN rfl rfl rfl Ty.ag62 (by first | rfl | assumption) (by first | assumption | simp) (.there .here) (Go.Sl.SetN.all (by first | rfl | assumption | simp_all)) ?_
  refine Go.Sl.ow_nil ?_
  refine Go.Sl.xw_then ?_
  refine Go.Sl.cw_ret ?_
  refine Go.Sl.ret1 rfl (Go.Sl.res_cell rfl (Go.Sl.Var.atN Ty.ag62 (.there .here) Go.Sl.GetN.all (by first | rfl | assumption))) ?_
  exact ⟨(ao12, c12), rfl, hL12, (by first | exact Go.Sl.Cov.refl _ | (intro p; simp only [List.flatten_cons, List.flatten_nil, List.flatten_append, List.append_nil, List.nil_append, Go.Sl.cnt_append, Go.Sl.cnt_cons, Go.Sl.cnt_nil, List.set_cons_zero, List.set_cons_succ, List.length_nil, List.length_cons, Nat.zero_add, List.append]; omega))⟩
set_option maxHeartbeats 4000000 in
theorem sentC_c {B : Nat} {w0 : World} {G : List Hp} {n fl s : Int} {k b b10 b9 : Nat} (hs : Sub (evCell b) G) (h10 : Sub (qCell b10 k) G) (h9 : Sub (qCell b9 s) G) (hk : enQ.ok k) (hn : enQ.ok n) (hf : enQ.ok fl) (hss : enQ.ok s) :
    Go.Sl.Fn Try.prog 36 #[.int .u64 n, .int .u64 fl, .pointer (some ⟨b, 0, none⟩), .pointer (some ⟨b10, 0, none⟩), .pointer (some ⟨b9, 0, none⟩)] B w0 G fun u G' => ∃ x : Option Addr × Hp, u = .agg ((sB k s n fl).cells ⟨x.1, 5, none, 0⟩).toArray ∧ Ls enQ 22 (.slice x.1 5 5) x.2 (sB k s n fl).n ∧ G' = [x.2] ++ G := by
  refine Fn.new ?_
  unfold evCell at hs
  unfold qCell at h10 h9
  refine fn_enter Try.func36 rfl (by kernel_rfl) Try.ntmps36 (by simp) ?_
  refine Go.Sl.cw_seq ?_
  refine Go.Sl.cw_region ?_
  (refine Go.Sl.ow_alloc rfl rfl Ty.ze62 ?_; intro b7)
  refine Go.Sl.ow_nil ?_
  refine Go.Sl.xw_then ?_
  refine Go.Sl.cw_seq ?_
  refine Go.Sl.cw_region ?_
  refine Go.Sl.ow_val rfl rfl (Go.Sl.v_load rfl (Go.Sl.Var.sub1 Ty.sc86 (by repeat (first | assumption | refine Go.Sl.Sub.there ?_)) (.head _) (Go.Sl.GetN.lit rfl))) ?_
  refine Go.Sl.ow_val rfl rfl (Go.Sl.v_load rfl (Go.Sl.Var.sub1 Ty.sc22 (by repeat (first | assumption | refine Go.Sl.Sub.there ?_)) (.head _) (Go.Sl.GetN.lit rfl))) ?_
  refine Go.Sl.ow_val rfl rfl (Go.Sl.v_move rfl) ?_
  refine Go.Sl.ow_val rfl rfl (Go.Sl.v_load rfl (Go.Sl.Var.sub1 Ty.sc22 (by repeat (first | assumption | refine Go.Sl.Sub.there ?_)) (.head _) (Go.Sl.GetN.lit rfl))) ?_
  refine Go.Sl.ow_val rfl rfl (Go.Sl.v_move rfl) ?_
  refine Go.Sl.ow_val rfl rfl (Go.Sl.v_move rfl) ?_
  (refine Go.Sl.ow_buildL (es := ([(k : Int), n, s, fl, fl])) rfl rfl Try.underlying60 Ty.em60 (qTy) rfl rfl (by first | (simp [*]; done) | (repeat (first | exact List.forall_mem_nil _ | refine List.forall_mem_cons.2 ⟨?_, ?_⟩ | assumption | (show _ ∧ _; omega)))) (by simp only [List.length_cons, List.length_nil]; decide) ?_; intro ao14 c14 hL14)
  refine Go.Sl.ow_val rfl rfl (Go.Sl.v_call rfl rfl (evC_c)) ?_
  refine Go.Sl.ow_storeN rfl rfl rfl Ty.ag62 (by first | rfl | assumption) (by first | assumption | simp) (.there .here) (Go.Sl.SetN.all (by first | rfl | assumption | simp_all)) ?_
  refine Go.Sl.ow_nil ?_
  refine Go.Sl.xw_then ?_
  refine Go.Sl.cw_ret ?_
  refine Go.Sl.ret1 rfl (Go.Sl.res_cell rfl (Go.Sl.Var.atN Ty.ag62 (.there .here) Go.Sl.GetN.all (by first | rfl | assumption))) ?_
  exact ⟨(ao14, c14), rfl, hL14, (by first | exact Go.Sl.Cov.refl _ | (intro p; simp only [List.flatten_cons, List.flatten_nil, List.flatten_append, List.append_nil, List.nil_append, Go.Sl.cnt_append, Go.Sl.cnt_cons, Go.Sl.cnt_nil, List.set_cons_zero, List.set_cons_succ, List.length_nil, List.length_cons, Nat.zero_add, List.append]; omega))⟩
end Go.Proofs.Ytckdhelnafjddaa
