/- Credit, as contracts. Conditions: numbers fit. One stream in memory; its methods. Conditions: numbers fit. Maps with whole numbers as keys that are ranged over: what a map object holds with its entries' ages, how it is read, written, made, counted, ranged over. Conditions: none; nothing here speaks of a given program. All streams of an endpoint in memory; numbers of streams. Conditions: numbers fit. Streams: a new one; one by its number. Conditions: numbers fit. All streams of an endpoint: what each call makes of them, plainly. Conditions: none; no program is spoken of. Streams: one by its number, made when it is asked for. Conditions: numbers fit. Streams: settle, credit. Conditions: numbers fit. Streams: open, reach. Conditions: numbers fit. Streams: what comes from the other side: bytes. Conditions: numbers fit; there is room. -/
import Derived.Test.YtnlaffkihohfkaaGreatStreamComesPk3
import Derived.Maps.RangeRun
set_option maxRecDepth 20000
set_option linter.unusedVariables false
set_option linter.unusedSimpArgs false
namespace Go.Proofs.YtnlaffkihohfkaaGreat
open Go Go.Sl Go.Proofs
variable {B:Nat}{w0:World}{G:List Hp}{R:Hp→List Hp}
theorem GivM.one {g:GivM}:∀u∈g.cells,u.oneCell'=true:=by
 intro u hu
 simp only[GivM.cells,List.mem_cons,List.not_mem_nil,or_false]at hu
 rcases hu with rfl|rfl|rfl|rfl|rfl<;>rfl
theorem GotM.one {g:GotM}:∀u∈g.cells,u.oneCell'=true:=by
 intro u hu
 simp only[GotM.cells,List.mem_cons,List.not_mem_nil,or_false]at hu
 rcases hu with rfl|rfl|rfl<;>rfl
theorem b_giv {a b c d e:Int}:Build Tryz.prog 51 #[(0,.int .u64 a),(3,.int .u64 d),(4,.int .u64 e)] (.agg (GivM.cells ⟨a,0,0,d,e⟩).toArray):=fun w=>by kernel_rfl
theorem room_c {l u:Int}(hl:0≤l∧l≤18446744073709551615)(hu:0≤u∧u≤18446744073709551615):
  Go.Sl.Fn Tryz.prog 50 #[.int .u64 l,.int .u64 u] B w0 G fun v G'=>v=.int .u64 (roomM l u)∧G'=G:=by
 refine Fn.pure ?_
 refine fn_enter Tryz.func50 rfl (by kernel_rfl) Tryz.ntmps50 (by simp) ?_
 refine qs<|qa<|qt<|qs<|qm<|qm<|qm ?_
 refine qv (v_min rfl rfl) ?_
 refine qv (v_sub rfl rfl (nw_u64 zom zom))<|qa<|qt ?_
 refine cw_ret ?_
 refine ret1 rfl (res_tmp rfl) ?_
 exact⟨rfl,zcov⟩
theorem givNew_c {a:Int}(ha:0≤a∧a≤18446744073709551615):
  Go.Sl.Fn Tryz.prog 45 #[.int .u64 a] B w0 G fun v G'=>v=.agg (GivM.new a).cells.toArray∧G'=G:=by
 refine Fn.pure ?_
 refine fn_enter Tryz.func45 rfl (by kernel_rfl) Tryz.ntmps45 (by simp) ?_
 refine qs<|ow_alloc rfl rfl Ty.ze51 fun b2=>qt<|qs<|qm<|qv (v_min rfl rfl)<|qa<|qt<|qs<|qm<|qm<|qm ?_
 refine ow_val rfl rfl (v_build rfl (b_giv (b:=0) (c:=0))) ?_
 refine ow_storeN rfl rfl rfl Ty.ag51 zra zao .here (SetN.all zsa) ?_
 refine qt<|cw_ret<|ret1 rfl (res_cell rfl (Var.atN Ty.ag51 .here GetN.all zra)) ?_
 exact⟨rfl,zcov⟩
theorem givUse_c {g:GivM}{n:Int}(h:g.WF)(hn:0≤n∧n≤18446744073709551615):
  Go.Sl.Fn Tryz.prog 112 #[.agg g.cells.toArray,.int .u64 n] B w0 G fun v G'=>v=.tuple #[.agg (g.use n).cells.toArray,.int .i64 (g.useE n)]∧G'=G:=by
 refine Fn.pure ?_
 have h1:=h.lim;have h2:=h.used
 have ho:=g.one
 have hl:g.cells.length=5:=rfl
 unfold GivM.use GivM.useE
 refine fn_enter Tryz.func112 rfl (by kernel_rfl) Tryz.ntmps112 (by simp) ?_
 refine qs ?_
 refine ow_box rfl rfl rfl rfl fun b2=>ow_alloc rfl rfl Ty.ze51 fun b4=>qa<|qt<|cw_seq<|qs ?_
 refine qf Ty.fd51_1 ?_
 refine ql (Var.at1 Ty.sc27 (.there .here) (GetN.lit rfl)) ?_
 refine qf Ty.fd51_0 ?_
 refine ql (Var.at1 Ty.sc27 (.there .here) (GetN.lit rfl)) ?_
 refine qv (v_gtr rfl rfl) ?_
 refine qm ?_
 refine ow_dec 11 rfl (fun hc11=>?_) (fun hc11=>?_)
 refine qk ?_
 refine qk ?_
 refine qk ?_
 refine qk ?_
 refine qk ?_
 refine qk ?_
 refine qk ?_
 refine qv (v_pick_true rfl rfl)<|qt ?_
 refine cw_true rfl<|qs ?_
 refine ql (Var.atN Ty.ag51 (.there .here) GetN.all zra) ?_
 refine ow_storeN rfl rfl rfl Ty.ag51 zra zao .here (SetN.all zsa) ?_
 refine qa<|qt ?_
 refine cw_ret ?_
 refine xw_then_ret ?_
 refine ret2 rfl (res_cell rfl (Var.atN Ty.ag51 .here GetN.all zra)) (res_tmp rfl) ?_
 rotate_left
 refine qm ?_
 refine qf Ty.fd51_0 ?_
 refine ql (Var.at1 Ty.sc27 (.there .here) (GetN.lit rfl)) ?_
 refine qf Ty.fd51_1 ?_
 refine ql (Var.at1 Ty.sc27 (.there .here) (GetN.lit rfl)) ?_
 refine qv (v_sub rfl rfl (nw_u64 zom zom)) ?_
 refine qv (v_gtr rfl rfl) ?_
 refine qv (v_pick_false rfl rfl)<|qt ?_
 refine cw_dec rfl (fun hc19=>?_) (fun hc19=>?_)
 refine qs ?_
 refine ql (Var.atN Ty.ag51 (.there .here) GetN.all zra) ?_
 refine ow_storeN rfl rfl rfl Ty.ag51 zra zao .here (SetN.all zsa) ?_
 refine qa<|qt ?_
 refine cw_ret ?_
 refine xw_then_ret ?_
 refine ret2 rfl (res_cell rfl (Var.atN Ty.ag51 .here GetN.all zra)) (res_tmp rfl) ?_
 rotate_left
 refine cw_skip<|xw_then<|qs ?_
 refine qf Ty.fd51_1 ?_
 refine ql (Var.at1 Ty.sc27 (.there .here) (GetN.lit rfl))<|qm ?_
 refine qv (v_add rfl rfl (nw_u64 zom zom)) ?_
 refine qf Ty.fd51_1 ?_
 refine ow_store1 rfl rfl rfl rfl Ty.sc27 (.there .here) (SetN.one zdn)<|qt<|qs ?_
 refine ql (Var.atN Ty.ag51 (.there .here) GetN.all zra) ?_
 refine ow_storeN rfl rfl rfl Ty.ag51 zra zao .here (SetN.all zsa) ?_
 refine qa<|qt ?_
 refine cw_ret ?_
 refine ret2 rfl (res_cell rfl (Var.atN Ty.ag51 .here GetN.all zra)) (res_tmp rfl) ?_
 rotate_left
 ·rw[if_pos (.inl hc11),if_pos (.inl hc11)]
  exact⟨rfl,zcov⟩
 ·rw[if_pos (.inr hc19),if_pos (.inr hc19)]
  exact⟨rfl,zcov⟩
 ·rw[if_neg zom,if_neg zom]
  exact⟨rfl,zcov⟩
theorem givTake_c {g:GivM}{n:Int}(h:g.WF)(hn:0≤n∧n≤18446744073709551615):
  Go.Sl.Fn Tryz.prog 71 #[.agg g.cells.toArray,.int .u64 n] B w0 G fun v G'=>v=.agg (g.take n).cells.toArray∧G'=G:=by
 refine Fn.pure ?_
 have h1:=h.lim;have h2:=h.used;have h3:=h.taken;have h4:=h.ahead
 have hr:=roomM_b h2.1 h3.1
 have ho:=g.one
 have hl:g.cells.length=5:=rfl
 refine fn_enter Tryz.func71 rfl (by kernel_rfl) Tryz.ntmps71 (by simp) ?_
 refine qs ?_
 refine ow_box rfl rfl rfl rfl fun b2=>ow_alloc rfl rfl Ty.ze51 fun b4=>qt<|cw_seq<|qs<|qm ?_
 refine qf Ty.fd51_1 ?_
 refine ql (Var.at1 Ty.sc27 (.there .here) (GetN.lit rfl)) ?_
 refine qf Ty.fd51_2 ?_
 refine ql (Var.at1 Ty.sc27 (.there .here) (GetN.lit rfl)) ?_
 refine qv (v_call rfl rfl (room_c zom zom)) ?_
 refine qv (v_lss rfl rfl)<|qt ?_
 refine cw_dec rfl (fun hc12=>?_) (fun hc12=>?_)
 refine cw_region ?_
 refine qf Ty.fd51_2 ?_
 refine ql (Var.at1 Ty.sc27 (.there .here) (GetN.lit rfl))<|qm ?_
 refine qv (v_add rfl rfl (nw_u64 zom zom)) ?_
 refine qf Ty.fd51_2 ?_
 refine ow_store1 rfl rfl rfl rfl Ty.sc27 (.there .here) (SetN.one zdn)<|qt<|qs<|qa<|qt<|cw_seq ?_
 refine qs ?_
 refine qf Ty.fd51_2 ?_
 refine ql (Var.at1 Ty.sc27 (.there .here) (GetN.lit rfl))<|qm ?_
 refine qv (v_lss rfl rfl)<|qt ?_
 refine cw_dec rfl (fun hc24=>?_) (fun hc24=>?_)
 refine cw_region ?_
 refine qf Ty.fd51_2 ?_
 refine ql (Var.at1 Ty.sc27 (.there .here) (GetN.lit rfl)) ?_
 refine qf Ty.fd51_3 ?_
 refine ql (Var.at1 Ty.sc27 (.there .here) (GetN.lit rfl))<|qm ?_
 refine qf Ty.fd51_2 ?_
 refine ql (Var.at1 Ty.sc27 (.there .here) (GetN.lit rfl)) ?_
 refine qv (v_sub rfl rfl (nw_u64 zom zom)) ?_
 refine qv (v_min rfl rfl) ?_
 refine qv (v_add rfl rfl (nw_u64 zom zom))<|qa ?_
 refine qt<|qs ?_
 refine qf Ty.fd51_0 ?_
 refine ql (Var.at1 Ty.sc27 (.there .here) (GetN.lit rfl))<|qm ?_
 refine qv (v_max rfl rfl) ?_
 refine qf Ty.fd51_0 ?_
 refine ow_store1 rfl rfl rfl rfl Ty.sc27 (.there .here) (SetN.one zdn)<|qt<|qs ?_
 refine ql (Var.atN Ty.ag51 (.there .here) GetN.all zra) ?_
 refine ow_storeN rfl rfl rfl Ty.ag51 zra zao .here (SetN.all zsa) ?_
 refine qt ?_
 refine cw_ret ?_
 refine ret1 rfl (res_cell rfl (Var.atN Ty.ag51 .here GetN.all zra)) ?_
 rotate_left
 refine cw_skip<|xw_then<|qs ?_
 refine qf Ty.fd51_0 ?_
 refine ql (Var.at1 Ty.sc27 (.there .here) (GetN.lit rfl))<|qm ?_
 refine qv (v_max rfl rfl) ?_
 refine qf Ty.fd51_0 ?_
 refine ow_store1 rfl rfl rfl rfl Ty.sc27 (.there .here) (SetN.one zdn)<|qt<|qs ?_
 refine ql (Var.atN Ty.ag51 (.there .here) GetN.all zra) ?_
 refine ow_storeN rfl rfl rfl Ty.ag51 zra zao .here (SetN.all zsa) ?_
 refine qt ?_
 refine cw_ret ?_
 refine ret1 rfl (res_cell rfl (Var.atN Ty.ag51 .here GetN.all zra)) ?_
 rotate_left
 refine cw_region ?_
 refine qf Ty.fd51_1 ?_
 refine ql (Var.at1 Ty.sc27 (.there .here) (GetN.lit rfl)) ?_
 refine qf Ty.fd51_2 ?_
 refine ow_store1 rfl rfl rfl rfl Ty.sc27 (.there .here) (SetN.one zdn)<|qt<|qs<|qa<|qt<|cw_seq<|qs ?_
 refine qf Ty.fd51_2 ?_
 refine ql (Var.at1 Ty.sc27 (.there .here) (GetN.lit rfl))<|qm ?_
 refine qv (v_lss rfl rfl)<|qt ?_
 refine cw_dec rfl (fun hc24=>?_) (fun hc24=>?_)
 refine cw_region ?_
 refine qf Ty.fd51_2 ?_
 refine ql (Var.at1 Ty.sc27 (.there .here) (GetN.lit rfl)) ?_
 refine qf Ty.fd51_3 ?_
 refine ql (Var.at1 Ty.sc27 (.there .here) (GetN.lit rfl))<|qm ?_
 refine qf Ty.fd51_2 ?_
 refine ql (Var.at1 Ty.sc27 (.there .here) (GetN.lit rfl)) ?_
 refine qv (v_sub rfl rfl (nw_u64 zom zom)) ?_
 refine qv (v_min rfl rfl) ?_
 refine qv (v_add rfl rfl (nw_u64 zom zom))<|qa ?_
 refine qt<|qs ?_
 refine qf Ty.fd51_0 ?_
 refine ql (Var.at1 Ty.sc27 (.there .here) (GetN.lit rfl))<|qm ?_
 refine qv (v_max rfl rfl) ?_
 refine qf Ty.fd51_0 ?_
 refine ow_store1 rfl rfl rfl rfl Ty.sc27 (.there .here) (SetN.one zdn)<|qt<|qs ?_
 refine ql (Var.atN Ty.ag51 (.there .here) GetN.all zra) ?_
 refine ow_storeN rfl rfl rfl Ty.ag51 zra zao .here (SetN.all zsa) ?_
 refine qt ?_
 refine cw_ret ?_
 refine ret1 rfl (res_cell rfl (Var.atN Ty.ag51 .here GetN.all zra)) ?_
 rotate_left
 refine cw_skip<|xw_then<|qs ?_
 refine qf Ty.fd51_0 ?_
 refine ql (Var.at1 Ty.sc27 (.there .here) (GetN.lit rfl))<|qm ?_
 refine qv (v_max rfl rfl) ?_
 refine qf Ty.fd51_0 ?_
 refine ow_store1 rfl rfl rfl rfl Ty.sc27 (.there .here) (SetN.one zdn)<|qt<|qs ?_
 refine ql (Var.atN Ty.ag51 (.there .here) GetN.all zra) ?_
 refine ow_storeN rfl rfl rfl Ty.ag51 zra zao .here (SetN.all zsa) ?_
 refine qt ?_
 refine cw_ret ?_
 refine ret1 rfl (res_cell rfl (Var.atN Ty.ag51 .here GetN.all zra)) ?_
 rotate_left
 ·have e1:g.takenTo n=g.taken+n:=if_pos hc12
  have e2:GivM.topOf g.ahead (g.taken+n)=g.taken+n+min g.ahead (4611686018427387903-(g.taken+n)):=if_pos hc24
  unfold GivM.take
  rw[e1,e2]
  exact⟨rfl,zcov⟩
 ·have e1:g.takenTo n=g.taken+n:=if_pos hc12
  have e2:GivM.topOf g.ahead (g.taken+n)=4611686018427387903:=if_neg hc24
  unfold GivM.take
  rw[e1,e2]
  exact⟨rfl,zcov⟩
 ·have e1:g.takenTo n=g.used:=if_neg hc12
  have e2:GivM.topOf g.ahead g.used=g.used+min g.ahead (4611686018427387903-g.used):=if_pos hc24
  unfold GivM.take
  rw[e1,e2]
  exact⟨rfl,zcov⟩
 ·have e1:g.takenTo n=g.used:=if_neg hc12
  have e2:GivM.topOf g.ahead g.used=4611686018427387903:=if_neg hc24
  unfold GivM.take
  rw[e1,e2]
  exact⟨rfl,zcov⟩
theorem givWants_c {g:GivM}(h:g.WF):
  Go.Sl.Fn Tryz.prog 22 #[.agg g.cells.toArray] B w0 G fun v G'=>v=.bool g.wants∧G'=G:=by
 refine Fn.pure ?_
 have h1:=h.lim;have h2:=h.told;have h4:=h.ahead
 have ho:=g.one
 have hl:g.cells.length=5:=rfl
 refine fn_enter Tryz.func22 rfl (by kernel_rfl) Tryz.ntmps22 (by simp) ?_
 refine qs<|ow_box rfl rfl rfl rfl fun b1=>qa<|qt<|cw_seq<|cw_quiet Ty.mixed zdk<|kv (v_fieldAddr0 Ty.fd51_0 rfl)<|kv (v_load rfl (Var.at1 Ty.sc27 .here (GetN.lit rfl)))<|kv (v_fieldAddr0 Ty.fd51_4 rfl)<|kv (v_load rfl (Var.at1 Ty.sc27 .here (GetN.lit rfl)))<|kv (v_call rfl rfl (room_c zom zom))<|kv (v_fieldAddr0 Ty.fd51_3 rfl) ?_
 refine kv (v_load rfl (Var.at1 Ty.sc27 .here (GetN.lit rfl)))<|kv (v_quoP_u64 rfl rfl zom zom zom)<|kv (v_gtr rfl rfl)<|kv (v_assign rfl)<|kw_nil<|xw_then<|cw_ret<|ret1 rfl (res_tmp rfl) ?_
 exact⟨rfl,zcov⟩
theorem givTold_c {g:GivM}:
  Go.Sl.Fn Tryz.prog 23 #[.agg g.cells.toArray] B w0 G fun v G'=>v=.agg g.tell.cells.toArray∧G'=G:=by
 refine Fn.pure ?_
 have ho:=g.one
 have hl:g.cells.length=5:=rfl
 refine fn_enter Tryz.func23 rfl (by kernel_rfl) Tryz.ntmps23 (by simp) ?_
 refine qs<|ow_box rfl rfl rfl rfl fun b1=>ow_alloc rfl rfl Ty.ze51 fun b2=>qt<|qs<|qf Ty.fd51_0<|ql (Var.at1 Ty.sc27 (.there .here) (GetN.lit rfl))<|qf Ty.fd51_4<|ow_store1 rfl rfl rfl rfl Ty.sc27 (.there .here) (SetN.one zdn)<|qt<|qs<|ql (Var.atN Ty.ag51 (.there .here) GetN.all zra) ?_
 refine ow_storeN rfl rfl rfl Ty.ag51 zra zao .here (SetN.all zsa) ?_
 refine qt<|cw_ret<|ret1 rfl (res_cell rfl (Var.atN Ty.ag51 .here GetN.all zra)) ?_
 exact⟨rfl,zcov⟩
theorem givLost_c {g:GivM}(h:g.WF):
  Go.Sl.Fn Tryz.prog 59 #[.agg g.cells.toArray] B w0 G fun v G'=>v=.agg g.lose.cells.toArray∧G'=G:=by
 refine Fn.pure ?_
 have h2:=h.told;have h4:=h.ahead
 have ho:=g.one
 have hl:g.cells.length=5:=rfl
 refine fn_enter Tryz.func59 rfl (by kernel_rfl) Tryz.ntmps59 (by simp) ?_
 refine qs ?_
 refine ow_box rfl rfl rfl rfl fun b1=>ow_alloc rfl rfl Ty.ze51 fun b2=>qt<|qs ?_
 refine qf Ty.fd51_4 ?_
 refine ql (Var.at1 Ty.sc27 (.there .here) (GetN.lit rfl)) ?_
 refine qf Ty.fd51_3 ?_
 refine ql (Var.at1 Ty.sc27 (.there .here) (GetN.lit rfl)) ?_
 refine qv (v_quoP_u64 rfl rfl zom zom zom) ?_
 refine qv (v_add rfl rfl (nw_u64 zom zom)) ?_
 refine qv (v_call rfl rfl (room_c zom zom)) ?_
 refine qf Ty.fd51_4 ?_
 refine ow_store1 rfl rfl rfl rfl Ty.sc27 (.there .here) (SetN.one zdn)<|qt<|qs ?_
 refine ql (Var.atN Ty.ag51 (.there .here) GetN.all zra) ?_
 refine ow_storeN rfl rfl rfl Ty.ag51 zra zao .here (SetN.all zsa) ?_
 refine qt ?_
 refine cw_ret ?_
 refine ret1 rfl (res_cell rfl (Var.atN Ty.ag51 .here GetN.all zra)) ?_
 exact⟨rfl,zcov⟩
theorem gotRaise_c {g:GotM}{n:Int}:
  Go.Sl.Fn Tryz.prog 24 #[.agg g.cells.toArray,.int .u64 n] B w0 G fun v G'=>v=.agg (g.raise n).cells.toArray∧G'=G:=by
 refine Fn.pure ?_
 have ho:=g.one
 have hl:g.cells.length=3:=rfl
 refine fn_enter Tryz.func24 rfl (by kernel_rfl) Tryz.ntmps24 (by simp) ?_
 refine qs<|ow_box rfl rfl rfl rfl fun b2=>ow_alloc rfl rfl Ty.ze53 fun b4=>qt<|qs<|qf Ty.fd53_0<|ql (Var.at1 Ty.sc27 (.there .here) (GetN.lit rfl))<|qm<|qv (v_min rfl rfl)<|qv (v_max rfl rfl)<|qf Ty.fd53_0<|ow_store1 rfl rfl rfl rfl Ty.sc27 (.there .here) (SetN.one zdn) ?_
 refine qt<|qs<|ql (Var.atN Ty.ag53 (.there .here) GetN.all zra) ?_
 refine ow_storeN rfl rfl rfl Ty.ag53 zra zao .here (SetN.all zsa) ?_
 refine qt<|cw_ret<|ret1 rfl (res_cell rfl (Var.atN Ty.ag53 .here GetN.all zra)) ?_
 exact⟨rfl,zcov⟩
theorem gotRoom_c {g:GotM}(h:g.WF):
  Go.Sl.Fn Tryz.prog 56 #[.agg g.cells.toArray] B w0 G fun v G'=>v=.int .u64 g.room∧G'=G:=by
 refine Fn.pure ?_
 have h1:=h.lim;have h2:=h.used
 have ho:=g.one
 have hl:g.cells.length=3:=rfl
 refine fn_enter Tryz.func56 rfl (by kernel_rfl) Tryz.ntmps56 (by simp) ?_
 refine qs ?_
 refine ow_box rfl rfl rfl rfl fun b1=>qa<|qt<|qs ?_
 refine qf Ty.fd53_0 ?_
 refine ql (Var.at1 Ty.sc27 .here (GetN.lit rfl)) ?_
 refine qf Ty.fd53_1 ?_
 refine ql (Var.at1 Ty.sc27 .here (GetN.lit rfl)) ?_
 refine qv (v_call rfl rfl (room_c zom zom))<|qa<|qt ?_
 refine cw_ret ?_
 refine ret1 rfl (res_tmp rfl) ?_
 exact⟨rfl,zcov⟩
theorem gotUse_c {g:GotM}{n:Int}(h:g.WF)(hn:0≤n∧n≤18446744073709551615):
  Go.Sl.Fn Tryz.prog 89 #[.agg g.cells.toArray,.int .u64 n] B w0 G fun v G'=>v=.tuple #[.agg (g.use n).cells.toArray,.int .u64 (min n g.room)]∧G'=G:=by
 refine Fn.pure ?_
 have h1:=h.lim;have h2:=h.used
 have h3:=GotM.room_b h
 have ho:=g.one
 have hl:g.cells.length=3:=rfl
 refine fn_enter Tryz.func89 rfl (by kernel_rfl) Tryz.ntmps89 (by simp) ?_
 refine qs ?_
 refine ow_box rfl rfl rfl rfl fun b2=>ow_alloc rfl rfl Ty.ze53 fun b4=>qa<|qt<|qs<|qm ?_
 refine ql (Var.atN Ty.ag53 (.there .here) GetN.all zra) ?_
 refine qv (v_call rfl rfl (gotRoom_c h)) ?_
 refine qv (v_min rfl rfl)<|qa<|qt ?_
 refine qs ?_
 refine qf Ty.fd53_1 ?_
 refine ql (Var.at1 Ty.sc27 (.there .here) (GetN.lit rfl))<|qm ?_
 refine qv (v_add rfl rfl (nw_u64 zom zom)) ?_
 refine qf Ty.fd53_1 ?_
 refine ow_store1 rfl rfl rfl rfl Ty.sc27 (.there .here) (SetN.one zdn)<|qt<|qs ?_
 refine ql (Var.atN Ty.ag53 (.there .here) GetN.all zra)<|qm ?_
 refine ow_storeN rfl rfl rfl Ty.ag53 zra zao .here (SetN.all zsa) ?_
 refine qa<|qt ?_
 refine cw_ret ?_
 refine ret2 rfl (res_cell rfl (Var.atN Ty.ag53 .here GetN.all zra)) (res_tmp rfl) ?_
 exact⟨rfl,zcov⟩
end Go.Proofs.YtnlaffkihohfkaaGreat
namespace Go.Proofs.YtnlaffkihohfkaaGreat
open Go Go.Sl Go.Proofs
variable {B:Nat}{w0:World}{G:List Hp}{R:Hp→List Hp}
def SmAt (x:SmM)(b:Nat)(c:Hp):Prop:=∃p ci co,c=[(b,.cells (x.cells p).toArray 55 (0,0))]++(ci++co)∧InO x.inn p.ip ci∧OutO x.out p.op co
theorem live_c {s:Int}:Go.Sl.Fn Tryz.prog 38 #[.int .u8 s] B w0 G fun u G'=>u=.bool (liveS s)∧G'=G:=by
 refine Fn.pure ?_
 refine fn_enter Tryz.func38 rfl (by kernel_rfl) Tryz.ntmps38 (by simp) ?_
 unfold liveS
 refine qs<|qa<|qt<|qs<|qm<|qv (v_eql rfl rfl)<|qm ?_
 refine ow_dec 5 rfl (fun hc5=>?_) (fun hc5=>?_)
 refine qk<|qk<|qv (v_pick_true rfl rfl)<|qa<|qt<|cw_ret<|ret1 rfl (res_tmp rfl) ?_
 rotate_left
 refine qm<|qv (v_eql rfl rfl)<|qv (v_pick_false rfl rfl)<|qa<|qt<|cw_ret<|ret1 rfl (res_tmp rfl) ?_
 rotate_left
 ·rw[decide_eq_true hc5]
  exact⟨rfl,zcov⟩
 ·rw[decide_eq_false hc5]
  exact⟨rfl,zcov⟩
theorem final_c {s:Int}:Go.Sl.Fn Tryz.prog 69 #[.int .u8 s] B w0 G fun u G'=>u=.bool (finalS s)∧G'=G:=by
 refine Fn.pure ?_
 refine fn_enter Tryz.func69 rfl (by kernel_rfl) Tryz.ntmps69 (by simp) ?_
 unfold finalS
 refine qs<|qa<|qt<|qs<|qm<|qv (v_eql rfl rfl)<|qm ?_
 refine ow_dec 5 rfl (fun hc5=>?_) (fun hc5=>?_)
 refine qk<|qk<|qv (v_pick_true rfl rfl)<|qm<|qk<|qk<|qv (v_pick_true rfl rfl)<|qa<|qt<|cw_ret<|ret1 rfl (res_tmp rfl) ?_
 rotate_left
 refine qm<|qv (v_eql rfl rfl)<|qv (v_pick_false rfl rfl)<|qm ?_
 refine ow_dec 9 rfl (fun hc9=>?_) (fun hc9=>?_)
 refine qk<|qk<|qv (v_pick_true rfl rfl)<|qa<|qt<|cw_ret<|ret1 rfl (res_tmp rfl) ?_
 rotate_left
 refine qm<|qv (v_eql rfl rfl)<|qv (v_pick_false rfl rfl)<|qa<|qt<|cw_ret<|ret1 rfl (res_tmp rfl) ?_
 rotate_left
 ·rw[decide_eq_true hc5]
  exact⟨rfl,zcov⟩
 ·rw[decide_eq_false hc5,decide_eq_true hc9]
  exact⟨rfl,zcov⟩
 ·rw[decide_eq_false hc5,decide_eq_false hc9]
  exact⟨rfl,zcov⟩
theorem SmM.len {x:SmM}{p:SmP}:(x.cells p).length=20:=rfl
theorem SmM.WF.has_out {x:SmM}(h:x.WF)(hs:x.send≠0):∃m,x.out=some m∧m.WF:=by
 cases ho:x.out with
 |some m=>exact⟨m,rfl,h.out m ho⟩
 |none=>exact absurd (h.send.1.2 ho) hs
theorem SmM.WF.has_in {x:SmM}(h:x.WF)(hs:x.recv≠0):∃m,x.inn=some m∧m.WF:=by
 cases ho:x.inn with
 |some m=>exact⟨m,rfl,h.inn m ho⟩
 |none=>exact absurd (h.recv.1.2 ho) hs
theorem smWrite_c {x:SmM}{b:Nat}{c:Hp}{ao:Option Addr}{n cap:Nat}{l:List UInt8}(hsel:Sel G c R)(hx:SmAt x b c)(hw:x.WF)(hV:Vw enB (St B w0 G) (.slice ao n cap) l)(hl:x.wrote+l.length≤65536):
  Go.Sl.Fn Tryz.prog 18 #[.pointer (some ⟨b,0,none⟩),.slice ao n cap] B w0 G fun u G'=>∃c':Hp,u=.tuple #[.int .i64 (if x.writeE=0 then (l.length:Int) else 0),.int .i64 x.writeE]∧SmAt (x.write l) b c'∧G'=R c':=by
 refine Fn.sel0 hsel fun F hR hF=>?_
 have hV:=hV.mono hF
 obtain⟨⟨pi,po⟩,ci,co,rfl,hI,hO⟩:=hx
 dsimp only at hI hO
 refine fn_enter Tryz.func18 rfl (by kernel_rfl) Tryz.ntmps18 (by simp) ?_
 refine cw_split3 ?_
 refine qs<|qa<|qa<|qt<|cw_seq<|qs<|qm<|qv (v_eql_nil_some Tryz.underlying45 rfl)<|qt<|cw_false rfl<|cw_skip<|xw_then ?_
 refine cw_seq<|qs<|qm<|qn<|qf Ty.fd55_1<|ql (Var.at1 Ty.sc47 .here (GetN.lit rfl))<|qv (v_neq rfl rfl)<|qt ?_
 refine cw_dec rfl (fun hc12=>?_) (fun hc12=>?_)
 refine qs<|qa<|qa<|qt<|cw_ret<|xw_then_ret<|ret2 rfl (res_tmp rfl) (res_tmp rfl) ?_
 rotate_left
 refine cw_skip<|xw_then ?_
 rotate_left
 ·have he:x.writeE=16:=if_pos hc12
  have hx:x.write l=x:=if_pos hc12
  rw[he,hx]
  exact⟨_,rfl,⟨⟨pi,po⟩,ci,co,rfl,hI,hO⟩,zcov⟩
 have hs1:x.send=1:=by omega
 obtain⟨m,hm,hmw⟩:=hw.has_out zom
 have he:x.writeE=if m.fin=true then 19 else 0:=by
  unfold SmM.writeE
  rw[if_neg hc12,hm]
 have hx:x.write l={x with out:=some (if m.fin=true then m else m.write l)}:=by
  unfold SmM.write
  rw[if_neg hc12,hm]
 have hl2:m.base+m.data.length+l.length≤65536:=by
  unfold SmM.wrote at hl
  rw[hm]at hl
  exact hl
 rw[hm]at hO
 obtain⟨bo,rfl,hO⟩:=hO
 refine qs<|qm<|qn<|qf Ty.fd55_4<|ql (Var.at1 Ty.sc49 .here (GetN.lit rfl))<|qm ?_
 (refine ow_call rfl rfl rfl rfl (outWrite_c zsel hO hmw (hV.cov zcov) hl2) ?_;rintro _ _ ⟨x18,rfl,hq18,rfl⟩)
 refine qv (v_extract rfl rfl)<|qv (v_extract rfl rfl)<|qa<|qa<|qt<|cw_ret<|ret2 rfl (res_tmp rfl) (res_tmp rfl) ?_
 rw[he,hx]
 refine⟨[(b,.cells (x.cells ⟨pi,some ⟨bo,0,none⟩⟩).toArray 55 (0,0))]++(ci++x18),?_,⟨_,ci,x18,rfl,hI,bo,rfl,hq18⟩,zcov⟩
 by_cases hf:m.fin=true
 ·rw[if_pos hf,if_pos hf,if_neg (by decide)]
  rfl
 ·rw[if_neg hf,if_neg hf,if_pos rfl]
  rfl
theorem smFinish_c {x:SmM}{b:Nat}{c:Hp}(hsel:Sel G c R)(hx:SmAt x b c)(hw:x.WF):
  Go.Sl.Fn Tryz.prog 19 #[.pointer (some ⟨b,0,none⟩)] B w0 G fun u G'=>∃c':Hp,u=.int .i64 x.finishE∧SmAt x.finish b c'∧G'=R c':=by
 refine Fn.sel0 hsel fun F hR hF=>?_
 obtain⟨⟨pi,po⟩,ci,co,rfl,hI,hO⟩:=hx
 dsimp only at hI hO
 refine fn_enter Tryz.func19 rfl (by kernel_rfl) Tryz.ntmps19 (by simp) ?_
 refine cw_split3 ?_
 refine qs<|qa<|qt<|cw_seq<|qs<|qm<|qv (v_eql_nil_some Tryz.underlying45 rfl)<|qt<|cw_false rfl<|cw_skip<|xw_then<|cw_seq ?_
 refine qs<|qm<|qn<|qf Ty.fd55_1<|ql (Var.at1 Ty.sc47 .here (GetN.lit rfl))<|qv (v_neq rfl rfl)<|qt ?_
 refine cw_dec rfl (fun hc10=>?_) (fun hc10=>?_)
 refine qs<|qa<|qt<|cw_ret<|xw_then_ret<|ret1 rfl (res_tmp rfl) ?_
 rotate_left
 refine cw_skip<|xw_then ?_
 rotate_left
 ·have he:x.finishE=16:=if_pos hc10
  have hx:x.finish=x:=if_pos hc10
  rw[he,hx]
  exact⟨_,rfl,⟨⟨pi,po⟩,ci,co,rfl,hI,hO⟩,zcov⟩
 obtain⟨m,hm,hmw⟩:=hw.has_out zom
 have he:x.finishE=if m.fin=true then 19 else 0:=by
  unfold SmM.finishE
  rw[if_neg hc10,hm]
 have hx:x.finish=if m.fin=true then x else {x with out:=some m.finish,send:=2}:=by
  unfold SmM.finish
  rw[if_neg hc10,hm]
 have hOx:=hO
 rw[hm]at hO
 obtain⟨bo,rfl,hO⟩:=hO
 refine cw_seq<|qs<|qm<|qn<|qf Ty.fd55_4<|ql (Var.at1 Ty.sc49 .here (GetN.lit rfl)) ?_
 (refine ow_call rfl rfl rfl rfl (outFinish_c zsel hO) ?_;rintro _ _ ⟨x15,rfl,hq15,rfl⟩)
 refine qa<|qt<|qs<|qm<|qv (v_neq rfl rfl)<|qt ?_
 refine cw_dec rfl (fun hc17=>?_) (fun hc17=>?_)
 refine qs<|qm<|qa<|qt<|cw_ret<|xw_then_ret<|ret1 rfl (res_tmp rfl) ?_
 rotate_left
 refine cw_skip<|xw_then<|qs<|qm<|qn<|qf Ty.fd55_1<|ow_store1 rfl rfl rfl rfl Ty.sc47 .here (SetN.one zdn)<|qt<|qs<|qa<|qt<|cw_ret ?_
 refine ret1 rfl (res_tmp rfl) ?_
 rotate_left
 ·have hf:m.fin=true:=by
   by_cases h:m.fin=true
   ·exact h
   ·rw[if_neg h]at hc17;exact absurd rfl hc17
  have hfm:m.finish=m:=if_pos hf
  rw[he,hx,if_pos hf,if_pos hf]
  rw[hfm]at hq15
  refine⟨[(b,.cells (x.cells ⟨pi,some ⟨bo,0,none⟩⟩).toArray 55 (0,0))]++(ci++x15),rfl,⟨⟨pi,some ⟨bo,0,none⟩⟩,ci,x15,rfl,hI,?_⟩,zcov⟩
  rw[hm]
  exact⟨bo,rfl,hq15⟩
 ·have hf:¬m.fin=true:=fun h=>by rw[if_pos h]at hc17;exact hc17 (by decide)
  rw[he,hx,if_neg hf,if_neg hf]
  exact⟨[(b,.cells ((x.cells ⟨pi,some ⟨bo,0,none⟩⟩).set 1 (.int .u8 2)).toArray 55 (0,0))]++(ci++x15),rfl,⟨⟨pi,some ⟨bo,0,none⟩⟩,ci,x15,rfl,hI,bo,rfl,hq15⟩,zcov⟩
theorem smGiveUp_c {x:SmM}{b:Nat}{c:Hp}{k:Int}(hsel:Sel G c R)(hx:SmAt x b c)(hk:0≤k∧k≤18446744073709551615):
  Go.Sl.Fn Tryz.prog 20 #[.pointer (some ⟨b,0,none⟩),.int .u64 k] B w0 G fun u G'=>∃c':Hp,u=.int .i64 (x.giveUpE k)∧SmAt (x.giveUp k) b c'∧G'=R c':=by
 refine Fn.sel0 hsel fun F hR hF=>?_
 obtain⟨⟨pi,po⟩,ci,co,rfl,hI,hO⟩:=hx
 dsimp only at hI hO
 refine fn_enter Tryz.func20 rfl (by kernel_rfl) Tryz.ntmps20 (by simp) ?_
 refine cw_split3 ?_
 refine qs<|qa<|qt<|cw_seq<|qs<|qm<|qv (v_eql_nil_some Tryz.underlying45 rfl)<|qt<|cw_false rfl<|cw_skip<|xw_then<|cw_seq ?_
 refine qs<|qm<|qn<|qf Ty.fd55_1<|ql (Var.at1 Ty.sc47 .here (GetN.lit rfl))<|qv (v_call rfl rfl (live_c))<|qv (v_not_bool rfl)<|qt ?_
 refine cw_bool rfl (fun hc12=>?_) (fun hc12=>?_)
 refine qs<|qa<|qt<|cw_ret<|xw_then_ret<|ret1 rfl (res_tmp rfl) ?_
 rotate_left
 refine cw_skip<|xw_then<|cw_seq<|qs<|qm<|qv (v_gtr rfl rfl)<|qt ?_
 refine cw_dec rfl (fun hc14=>?_) (fun hc14=>?_)
 refine qs<|qa<|qt<|cw_ret<|xw_then_ret<|ret1 rfl (res_tmp rfl) ?_
 rotate_left
 refine cw_skip<|xw_then<|qs<|qm<|qn<|qf Ty.fd55_1<|ow_store1 rfl rfl rfl rfl Ty.sc47 .here (SetN.one zdn)<|qt<|qs<|qm<|qm<|qm ?_
 refine qn<|qf Ty.fd55_8<|ow_store1 rfl rfl rfl rfl Ty.sc27 .here (SetN.one zdn)<|qn<|qf Ty.fd55_9<|ow_store1 rfl rfl rfl rfl Ty.sc4 .here (SetN.one zdn)<|qt<|qs<|qa<|qt<|cw_ret<|ret1 rfl (res_tmp rfl) ?_
 rotate_left
 ·have h1:liveS x.send=false:=by simpa using hc12
  unfold SmM.giveUp SmM.giveUpE
  rw[if_pos h1,if_pos h1]
  exact⟨_,rfl,⟨⟨pi,po⟩,ci,co,rfl,hI,hO⟩,zcov⟩
 ·have h1:¬liveS x.send=false:=by simpa using hc12
  unfold SmM.giveUp SmM.giveUpE
  rw[if_neg h1,if_neg h1,if_pos hc14,if_pos hc14]
  exact⟨_,rfl,⟨⟨pi,po⟩,ci,co,rfl,hI,hO⟩,zcov⟩
 ·have h1:¬liveS x.send=false:=by simpa using hc12
  unfold SmM.giveUp SmM.giveUpE
  rw[if_neg h1,if_neg h1,if_neg hc14,if_neg hc14]
  exact⟨[(b,.cells ((((x.cells ⟨pi,po⟩).set 1 (.int .u8 4)).set 14 (.int .u64 k)).set 15 (.bool true)).toArray 55 (0,0))]++(ci++co),rfl,⟨⟨pi,po⟩,ci,co,rfl,hI,hO⟩,zcov⟩
theorem smUnwant_c {x:SmM}{b:Nat}{c:Hp}{k:Int}(hsel:Sel G c R)(hx:SmAt x b c)(hk:0≤k∧k≤18446744073709551615):
  Go.Sl.Fn Tryz.prog 21 #[.pointer (some ⟨b,0,none⟩),.int .u64 k] B w0 G fun u G'=>∃c':Hp,u=.int .i64 (x.unwantE k)∧SmAt (x.unwant k) b c'∧G'=R c':=by
 refine Fn.sel0 hsel fun F hR hF=>?_
 obtain⟨⟨pi,po⟩,ci,co,rfl,hI,hO⟩:=hx
 dsimp only at hI hO
 unfold SmM.unwant
 refine fn_enter Tryz.func21 rfl (by kernel_rfl) Tryz.ntmps21 (by simp) ?_
 refine cw_split3 ?_
 refine qs<|qa<|qt<|cw_seq<|qs<|qm<|qv (v_eql_nil_some Tryz.underlying45 rfl)<|qt<|cw_false rfl<|cw_skip<|xw_then<|cw_seq ?_
 refine qs<|qm<|qv (v_gtr rfl rfl)<|qt ?_
 refine cw_dec rfl (fun hc8=>?_) (fun hc8=>?_)
 refine qs<|qa<|qt<|cw_ret<|xw_then_ret<|ret1 rfl (res_tmp rfl) ?_
 rotate_left
 refine cw_skip<|xw_then<|cw_seq<|qs<|qm<|qn<|qf Ty.fd55_2<|ql (Var.at1 Ty.sc47 .here (GetN.lit rfl))<|qv (v_call rfl rfl (live_c))<|qv (v_not_bool rfl)<|qm ?_
 refine ow_bool 15 rfl (fun hc15=>?_) (fun hc15=>?_)
 refine qk<|qk<|qk<|qk<|qv (v_pick_true rfl rfl)<|qt<|cw_true rfl<|qs<|qa<|qt<|cw_ret<|xw_then_ret ?_
 refine ret1 rfl (res_tmp rfl) ?_
 rotate_left
 refine qm<|qn<|qf Ty.fd55_12<|ql (Var.at1 Ty.sc4 .here (GetN.lit rfl))<|qv (v_pick_false rfl rfl)<|qt ?_
 refine cw_bool rfl (fun hc20=>?_) (fun hc20=>?_)
 refine qs<|qa<|qt<|cw_ret<|xw_then_ret<|ret1 rfl (res_tmp rfl) ?_
 rotate_left
 refine cw_skip<|xw_then<|qs<|qm<|qm<|qm<|qm<|qn<|qf Ty.fd55_10<|ow_store1 rfl rfl rfl rfl Ty.sc27 .here (SetN.one zdn)<|qn<|qf Ty.fd55_11 ?_
 refine ow_store1 rfl rfl rfl rfl Ty.sc4 .here (SetN.one zdn)<|qn<|qf Ty.fd55_12<|ow_store1 rfl rfl rfl rfl Ty.sc4 .here (SetN.one zdn)<|qt<|qs<|qa<|qt<|cw_ret<|ret1 rfl (res_tmp rfl) ?_
 rotate_left
 ·have he:x.unwantE k=2:=if_pos hc8
  rw[he,if_neg (by decide)]
  exact⟨_,rfl,⟨⟨pi,po⟩,ci,co,rfl,hI,hO⟩,zcov⟩
 ·have he:x.unwantE k=16:=(if_neg hc8).trans (if_pos (.inl (by simpa using hc15)))
  rw[he,if_neg (by decide)]
  exact⟨_,rfl,⟨⟨pi,po⟩,ci,co,rfl,hI,hO⟩,zcov⟩
 ·have he:x.unwantE k=16:=(if_neg hc8).trans (if_pos (.inr hc20))
  rw[he,if_neg (by decide)]
  exact⟨_,rfl,⟨⟨pi,po⟩,ci,co,rfl,hI,hO⟩,zcov⟩
 ·have he:x.unwantE k=0:=(if_neg hc8).trans (if_neg (fun h=>by rcases h with h|h<;>simp_all))
  rw[he,if_pos rfl]
  exact⟨[(b,.cells ((((x.cells ⟨pi,po⟩).set 16 (.int .u64 k)).set 17 (.bool true)).set 18 (.bool true)).toArray 55 (0,0))]++(ci++co),rfl,⟨⟨pi,po⟩,ci,co,rfl,hI,hO⟩,zcov⟩
theorem smRise_c {x:SmM}{b:Nat}{c:Hp}{k:Int}(hs:Sub c G)(hx:SmAt x b c)(hw:x.WF)(hr:x.recv≠0)(hk:0≤k∧k≤18446744073709551615):
  Go.Sl.Fn Tryz.prog 80 #[.pointer (some ⟨b,0,none⟩),.int .u64 k] B w0 G fun u G'=>u=.int .u64 (x.rise k)∧G'=G:=by
 refine Fn.pure ?_
 obtain⟨⟨pi,po⟩,ci,co,rfl,hI,hO⟩:=hx
 dsimp only at hI hO
 obtain⟨m,hm,hmw⟩:=hw.has_in hr
 have hh:x.high=m.high:=by unfold SmM.high;rw[hm];rfl
 have hrd:=hmw.rd
 unfold SmM.rise
 rw[hh]
 rw[hm]at hI
 obtain⟨bi,rfl,hI⟩:=hI
 have hs1:=hs.left
 have hs2:=hs.right.left
 refine fn_enter Tryz.func80 rfl (by kernel_rfl) Tryz.ntmps80 (by simp) ?_
 refine qs<|qa<|qt<|qs<|qm<|qn ?_
 refine qf Ty.fd55_3 ?_
 refine ql (Var.sub1 Ty.sc48 zthr (.head _) (GetN.lit rfl)) ?_
 refine qv (v_call rfl rfl (inPlaces_c hI zhas))<|qm ?_
 refine qv (v_extract rfl rfl) ?_
 refine qv (v_extract rfl rfl) ?_
 refine qa<|qa<|qt<|cw_seq<|qs<|qm<|qm ?_
 refine qv (v_leq rfl rfl)<|qt ?_
 refine cw_dec rfl (fun hc17=>?_) (fun hc17=>?_)
 refine qs<|qa<|qt ?_
 refine cw_ret ?_
 refine xw_then_ret ?_
 refine ret1 rfl (res_tmp rfl) ?_
 rotate_left
 refine cw_skip<|xw_then<|qs<|qm<|qm ?_
 refine qv (v_sub rfl rfl (nw_u64 zom zom))<|qa<|qt ?_
 refine cw_ret ?_
 refine ret1 rfl (res_tmp rfl) ?_
 rotate_left
 ·rw[if_pos hc17]
  exact⟨rfl,zcov⟩
 ·rw[if_neg hc17]
  exact⟨rfl,zcov⟩
theorem outPlacesN_c:Go.Sl.Fn Tryz.prog 64 #[.pointer none] B w0 G fun u G'=>u=.tuple #[.int .u64 0,.int .u64 0,.bool false]∧G'=G:=by
 refine Fn.pure ?_
 refine fn_enter Tryz.func64 rfl (by kernel_rfl) Tryz.ntmps64 (by simp) ?_
 refine qs<|qa<|qa<|qa<|qt<|cw_seq<|qs<|qm<|qv (v_eql_nil_none Tryz.underlying49 rfl)<|qt<|cw_true rfl<|qs ?_
 refine qa<|qa<|qa<|qt<|cw_ret<|xw_then_ret<|ret3 rfl (res_tmp rfl) (res_tmp rfl) (res_tmp rfl) ?_
 exact⟨rfl,zcov⟩
theorem outStopN_c:Go.Sl.Fn Tryz.prog 66 #[.pointer none] B w0 G fun u G'=>u=.int .u64 0∧G'=G:=by
 refine Fn.pure ?_
 refine fn_enter Tryz.func66 rfl (by kernel_rfl) Tryz.ntmps66 (by simp) ?_
 refine qs<|qa<|qt<|cw_seq<|qs<|qm<|qv (v_eql_nil_none Tryz.underlying49 rfl)<|qt<|cw_true rfl<|qs<|qa<|qt ?_
 refine cw_ret<|xw_then_ret<|ret1 rfl (res_tmp rfl) ?_
 exact⟨rfl,zcov⟩
theorem inPlacesN_c:Go.Sl.Fn Tryz.prog 65 #[.pointer none] B w0 G fun u G'=>u=.tuple #[.int .u64 0,.int .u64 0]∧G'=G:=by
 refine Fn.pure ?_
 refine fn_enter Tryz.func65 rfl (by kernel_rfl) Tryz.ntmps65 (by simp) ?_
 refine qs<|qa<|qa<|qt<|cw_seq<|qs<|qm<|qv (v_eql_nil_none Tryz.underlying48 rfl)<|qt<|cw_true rfl<|qs<|qa ?_
 refine qa<|qt<|cw_ret<|xw_then_ret<|ret2 rfl (res_tmp rfl) (res_tmp rfl) ?_
 exact⟨rfl,zcov⟩
theorem outPlacesO_c {m:Option BufM}{p:Option Addr}{c:Hp}(h:OutO m p c)(hs:Sub c G)(hw:∀m',m=some m'→m'.WF):Go.Sl.Fn Tryz.prog 64 #[.pointer p] B w0 G fun u G'=>∃y:Int×Bool,u=.tuple #[.int .u64 (baO m),.int .u64 y.1,.bool y.2]∧True∧G'=G:=by
 cases m with
 |none=>
  obtain⟨rfl,rfl⟩:=h
  exact outPlacesN_c.mono fun u G' h=>⟨(0,false),h.1,trivial,h.2⟩
 |some m=>
  obtain⟨b,rfl,h⟩:=h
  exact(outPlaces_c h hs (hw m rfl)).mono fun u G' h=>⟨(cntR m.pend,m.fin),h.1,trivial,h.2⟩
theorem outStopO_c {m:Option BufM}{p:Option Addr}{c:Hp}(h:OutO m p c)(hs:Sub c G)(hw:∀m',m=some m'→m'.WF):Go.Sl.Fn Tryz.prog 66 #[.pointer p] B w0 G fun u G'=>u=.int .u64 (wrO m)∧G'=G:=by
 cases m with
 |none=>
  obtain⟨rfl,rfl⟩:=h
  exact outStopN_c
 |some m=>
  obtain⟨b,rfl,h⟩:=h
  exact outStop_c h hs (hw m rfl)
theorem inPlacesO_c {m:Option InM}{p:Option Addr}{c:Hp}(h:InO m p c)(hs:Sub c G):Go.Sl.Fn Tryz.prog 65 #[.pointer p] B w0 G fun u G'=>u=.tuple #[.int .u64 (rdO m),.int .u64 (hiO m)]∧G'=G:=by
 cases m with
 |none=>
  obtain⟨rfl,rfl⟩:=h
  exact inPlacesN_c
 |some m=>
  obtain⟨b,rfl,h⟩:=h
  exact inPlaces_c h hs
theorem smPlaces_c {x:SmM}{b:Nat}{c:Hp}(hs:Sub c G)(hx:SmAt x b c)(hw:x.WF):
  Go.Sl.Fn Tryz.prog 33 #[.pointer (some ⟨b,0,none⟩)] B w0 G fun u G'=>u=.tuple #[.int .u64 x.wrote,.int .u64 x.base,.int .u64 x.read,.int .u64 x.high]∧G'=G:=by
 refine Fn.pure ?_
 obtain⟨⟨pi,po⟩,ci,co,rfl,hI,hO⟩:=hx
 dsimp only at hI hO
 have hs1:=hs.left
 have hs2:=hs.right.left
 have hs3:=hs.right.right
 refine fn_enter Tryz.func33 rfl (by kernel_rfl) Tryz.ntmps33 (by simp) ?_
 refine qs<|qa<|qa<|qa<|qa<|qt<|cw_seq<|qs<|qm<|qv (v_eql_nil_some Tryz.underlying45 rfl)<|qt<|cw_false rfl ?_
 refine cw_skip<|xw_then<|qs<|qm<|qn<|qf Ty.fd55_4<|ql (Var.sub1 Ty.sc49 zthr (.head _) (GetN.lit rfl)) ?_
 (refine ow_call rfl rfl rfl rfl (outPlacesO_c hO zhas hw.out) ?_;rintro _ _ ⟨x13,rfl,hq13,rfl⟩)
 refine qm<|qv (v_extract rfl rfl)<|qv (v_extract rfl rfl)<|qv (v_extract rfl rfl)<|qa<|qt<|qs<|qm<|qn<|qf Ty.fd55_3<|ql (Var.sub1 Ty.sc48 zthr (.head _) (GetN.lit rfl))<|qv (v_call rfl rfl (inPlacesO_c hI zhas)) ?_
 refine qm<|qv (v_extract rfl rfl)<|qv (v_extract rfl rfl)<|qa<|qa<|qt<|qs<|qm<|qn<|qf Ty.fd55_4<|ql (Var.sub1 Ty.sc49 zthr (.head _) (GetN.lit rfl))<|qv (v_call rfl rfl (outStopO_c hO zhas hw.out)) ?_
 refine qm<|qm<|qm<|qa<|qa<|qa<|qa<|qt<|cw_ret<|ret4 rfl (res_tmp rfl) (res_tmp rfl) (res_tmp rfl) (res_tmp rfl) ?_
 exact⟨rfl,zcov⟩
theorem smCredits_c {x:SmM}{b:Nat}{c:Hp}(hs:Sub c G)(hx:SmAt x b c):
  Go.Sl.Fn Tryz.prog 32 #[.pointer (some ⟨b,0,none⟩)] B w0 G fun u G'=>u=.tuple #[.agg x.giv.cells.toArray,.agg x.got.cells.toArray]∧G'=G:=by
 refine Fn.pure ?_
 obtain⟨⟨pi,po⟩,ci,co,rfl,hI,hO⟩:=hx
 have hs1:=hs.left
 have o1:=x.giv.one
 have o2:=x.got.one
 refine fn_enter Tryz.func32 rfl (by kernel_rfl) Tryz.ntmps32 (by simp) ?_
 refine qs<|ow_alloc rfl rfl Ty.ze51 fun b2=>ow_alloc rfl rfl Ty.ze53 fun b3=>qt<|cw_seq<|qs<|qm<|qv (v_eql_nil_some Tryz.underlying45 rfl)<|qt<|cw_false rfl<|cw_skip<|xw_then ?_
 refine cw_seq<|cw_any Ty.mixed<|aw_pure 0 rfl zdk rfl rfl (v_move rfl) rfl<|aw_pure 1 rfl zdk rfl rfl (v_nilCheck rfl) rfl<|aw_pure 2 rfl zdk rfl rfl (v_fieldAddr0 Ty.fd55_5 rfl) rfl<|aw_pure 4 rfl zdk rfl rfl (v_move rfl) rfl<|aw_pure 5 rfl zdk rfl rfl (v_nilCheck rfl) rfl<|aw_pure 6 rfl zdk rfl rfl (v_fieldAddr0 Ty.fd55_6 rfl) rfl ?_
 refine aw_step2 3 7 zdk rfl rfl ?_ ?_
 refine ow_val rfl rfl (v_load rfl (Var.subN Ty.ag51 zthr (.head _) ((GetN.mid (vs:=x.giv.cells) rfl)) zra)) ?_
 refine qx ?_
 refine aw_step2 7 8 zdk rfl rfl ?_ ?_
 refine ow_val rfl rfl (v_load rfl (Var.subN Ty.ag53 zthr (.head _) ((GetN.mid (vs:=x.got.cells) rfl)) zra)) ?_
 refine qx<|aw_step1 8 zdk rfl ?_
 refine ow_storeN rfl rfl rfl Ty.ag51 zra zao (.there .here) (SetN.all zsa) ?_
 refine qx<|aw_step1 9 zdk rfl ?_
 refine ow_storeN rfl rfl rfl Ty.ag53 zra zao .here (SetN.all zsa) ?_
 refine qx<|aw_end zdk<|xw_np<|xw_then<|cw_ret ?_
 refine ret2 rfl (res_cell rfl (Var.atN Ty.ag51 (.there .here) ((GetN.mid (vs:=x.giv.cells) rfl)) zra)) (res_cell rfl (Var.atN Ty.ag53 .here ((GetN.mid (vs:=x.got.cells) rfl)) zra)) ?_
 rotate_left
 refine ow_storeN rfl rfl rfl Ty.ag51 zra zao (.there .here) (SetN.all zsa) ?_
 refine qx<|aw_step1 7 zdk rfl ?_
 refine ow_val rfl rfl (v_load rfl (Var.subN Ty.ag53 zthr (.head _) ((GetN.mid (vs:=x.got.cells) rfl)) zra)) ?_
 refine qx<|aw_step1 9 zdk rfl ?_
 refine ow_storeN rfl rfl rfl Ty.ag53 zra zao .here (SetN.all zsa) ?_
 refine qx<|aw_end zdk<|xw_np<|xw_then<|cw_ret ?_
 refine ret2 rfl (res_cell rfl (Var.atN Ty.ag51 (.there .here) ((GetN.mid (vs:=x.giv.cells) rfl)) zra)) (res_cell rfl (Var.atN Ty.ag53 .here ((GetN.mid (vs:=x.got.cells) rfl)) zra)) ?_
 rotate_left
 refine ow_val rfl rfl (v_load rfl (Var.subN Ty.ag53 zthr (.head _) ((GetN.mid (vs:=x.got.cells) rfl)) zra)) ?_
 refine qx<|aw_step1 3 zdk rfl ?_
 refine ow_val rfl rfl (v_load rfl (Var.subN Ty.ag51 zthr (.head _) ((GetN.mid (vs:=x.giv.cells) rfl)) zra)) ?_
 refine qx<|aw_step1 8 zdk rfl ?_
 refine ow_storeN rfl rfl rfl Ty.ag51 zra zao (.there .here) (SetN.all zsa) ?_
 refine qx<|aw_step1 9 zdk rfl ?_
 refine ow_storeN rfl rfl rfl Ty.ag53 zra zao .here (SetN.all zsa) ?_
 refine qx<|aw_end zdk<|xw_np<|xw_then<|cw_ret ?_
 refine ret2 rfl (res_cell rfl (Var.atN Ty.ag51 (.there .here) ((GetN.mid (vs:=x.giv.cells) rfl)) zra)) (res_cell rfl (Var.atN Ty.ag53 .here ((GetN.mid (vs:=x.got.cells) rfl)) zra)) ?_
 rotate_left
 all_goals exact⟨rfl,zcov⟩
end Go.Proofs.YtnlaffkihohfkaaGreat
namespace Go.Sl
open Go.RowKit Go Go.Instr
variable {P:Program}{ops:Array Oper}{Q:Exit→Act→World→Prop}{B:Nat}{w0:World}{N:Nat}{G:List Hp}{E:Env}{ty T:TypeId}
structure Ages (es:Array MapEntry)(clock:Nat):Prop where
 nd:(es.toList.map (·.born)).Nodup
 lt:∀e∈es.toList,e.born<clock
def MapR (kd:IntKind)(m:List (Int×Value))(b:Nat)(c:Hp):Prop:=∃es clock,c=[(b,.map es clock)]∧MapL kd m es.toList∧(m.map (·.1)).Nodup∧Ages es clock
def MapG (kd:IntKind)(f:Int→Option Value)(b:Nat)(c:Hp):Prop:=∃m,MapR kd m b c∧∀k,Go.Sl.look m k=f k
theorem MapG.f {kd:IntKind}{f:Int→Option Value}{b:Nat}{c:Hp}(h:MapG kd f b c):MapF kd f b c:=by
 obtain⟨m,⟨es,clock,hc,hL,hn,_⟩,hf⟩:=h
 exact⟨es,clock,m,hc,hL,hn,hf⟩
theorem MapG.congr {kd:IntKind}{f g:Int→Option Value}{b:Nat}{c:Hp}(h:MapG kd f b c)(he:∀k,f k=g k):MapG kd g b c:=by
 obtain⟨m,h1,h2⟩:=h
 exact⟨m,h1,fun k=>(h2 k).trans (he k)⟩
theorem look_mem {m:List (Int×Value)}(hn:(m.map (·.1)).Nodup){k:Int}{v:Value}:Go.Sl.look m k=some v↔(k,v)∈m:=by
 induction m with
 |nil=>simp[Go.Sl.look]
 |cons p m ih=>
  simp only[List.map_cons,List.nodup_cons]at hn
  unfold Go.Sl.look at ih⊢
  by_cases hp:p.1=k
  ·rw[List.find?_cons_of_pos (by simp[hp])]
   simp only[Option.map_some,Option.some.injEq,List.mem_cons]
   constructor
   ·intro h;left;rw[←h,←hp]
   ·rintro (h|h)
    ·rw[←h]
    ·exact absurd (List.mem_map.2 ⟨(k,v),h,hp.symm⟩) hn.1
  ·rw[List.find?_cons_of_neg (by simp[hp]),ih hn.2]
   simp only[List.mem_cons]
   constructor
   ·exact .inr
   ·rintro (h|h)
    ·exact absurd (by rw[←h]) hp
    ·exact h
theorem Ages.push {es:Array MapEntry}{clock:Nat}(h:Ages es clock)(k v:Value):Ages (es.push {key:=k,val:=v,born:=clock}) (clock+1):=by
 constructor
 ·rw[Array.toList_push,List.map_append,List.nodup_append]
  refine⟨h.nd,by simp,?_⟩
  intro x hx y hy
  obtain⟨e,he,rfl⟩:=List.mem_map.1 hx
  simp at hy
  subst hy
  have:=h.lt e he
  omega
 ·intro e he
  rw[Array.toList_push]at he
  rcases List.mem_append.1 he with he|he
  ·have:=h.lt e he;omega
  ·simp at he
   subst he
   exact Nat.lt_succ_self clock
theorem modify_born {i:Nat}{g:MapEntry→MapEntry}(hg:∀e,(g e).born=e.born):∀(es:List MapEntry),(es.modify i g).map (·.born)=es.map (·.born):=by
 induction i with
 |zero=>intro es;cases es with|nil=>rfl|cons e es=>simp[hg]
 |succ i ih=>intro es;cases es with|nil=>rfl|cons e es=>simp[ih]
theorem Ages.of_born {es es':Array MapEntry}{clock:Nat}(h:Ages es clock)(he:es'.toList.map (·.born)=es.toList.map (·.born)):Ages es' clock:=by
 refine⟨by rw[he];exact h.nd,fun e hm=>?_⟩
 have:e.born∈es.toList.map (·.born):=by rw[←he];exact List.mem_map.2 ⟨e,hm,rfl⟩
 obtain⟨x,hx,hxe⟩:=List.mem_map.1 this
 have:=h.lt x hx
 omega
theorem ow_mapUpdateG {x y u:Operand}{kt e:TypeId}{kd kd':IntKind}{b:Nat}{k:Int}{v:Value}{f:Int→Option Value}{c:Hp}{R:Hp→List Hp}{pos:String}{af:Array Edge}{g:Option (Nat×Bool)}{rest:List Oper}(hg:Env.guard E ops g=some true)
  (hT:P.underlying T=some (.map kt e)) (hk:P.underlying kt=some (.int kd')) (hx:Env.ev E x=some (.map (some b))) (hy:Env.ev E y=some (.int kd k)) (hu:Env.ev E u=some v) (hs:Sel G c R) (hM:MapG kd f b c)
  (h:∀c',MapG kd (fun j=>if j=k then some v else f j) b c'→OW P ops Q B w0 N (R c') E rest):OW P ops Q B w0 N G E (⟨none,.mapUpdate T x y u,ty,pos,af,g⟩::rest):=fun a w ha hw=>by
 unfold wpList
 rw[if_pos (ha.guard (o:=⟨none,.mapUpdate T x y u,ty,pos,af,g⟩) hg)]
 obtain⟨m,⟨es,clock,rfl,hL,hnd,hA⟩,hf⟩:=hM
 have hb:=hw.read hs (List.Mem.head _)
 refine .inl ?_
 unfold Oper.wp
 have h1:=run_checkKey (P:=P) (emp:=false) (n:=9999) (kd:=kd) (k:=k) hk w
 have h2:=run_findKey (P:=P) (k:=k) hk hL w
 have hfn:∀j,Go.Sl.look (updM m k v) j=if j=k then some v else f j:=fun j=>by rw[look_upd,hf]
 cases hl:lookI m k with
 |none=>
  have h3:(execOp a.eval ⟨none,.mapUpdate T x y u,ty,pos,af,g⟩).run P w=.ok .skip {w with heap:=w.heap.setIfInBounds b (.map (es.push {key:=.int kd k,val:=v,born:=clock}) (clock+1))}:=by
   simp[execOp,Instr.mapUpdate,ha.ev hx,ha.ev hy,ha.ev hu,run_underlying hT,run_getObjM hb,run_setObjM _ hb,h1,h2,hl]
  rw[h3]
  exact h _ ⟨updM m k v,⟨_,_,rfl,by rw[Array.toList_push];exact upd_none ⟨rfl,rfl⟩ hL hl,nodup_upd hnd k v,hA.push _ _⟩,hfn⟩ a _ ha (hw.setMap hs)
 |some q=>
  obtain⟨i,u0⟩:=q
  obtain⟨⟨e0,he1,he2⟩,hup⟩:=upd_some (v:=v) hL hl
  have he3:es[i]?=some e0:=by simpa using he1
  have h3:(execOp a.eval ⟨none,.mapUpdate T x y u,ty,pos,af,g⟩).run P w=.ok .skip {w with heap:=w.heap.setIfInBounds b (.map (es.modify i fun e=>{e with key:=.int kd k,val:=v}) clock)}:=by
   simp[execOp,Instr.mapUpdate,ha.ev hx,ha.ev hy,ha.ev hu,run_underlying hT,run_getObjM hb,run_setObjM _ hb,h1,h2,hl,he3,he2,run_keyStays]
  rw[h3]
  exact h _ ⟨updM m k v,⟨_,_,rfl,by rw[Array.toList_modify];exact hup _ fun e=>⟨rfl,rfl⟩,nodup_upd hnd k v,hA.of_born (by rw[Array.toList_modify];exact modify_born (g:=fun e=>{e with key:=.int kd k,val:=v}) (fun _=>rfl) _)⟩,hfn⟩ a _ ha (hw.setMap hs)
theorem Ages.nil:Ages #[] 0:=⟨by simp,by simp⟩
theorem MapR.nil {kd:IntKind}{b:Nat}:MapR kd [] b [(b,.map #[] 0)]:=⟨#[],0,rfl,by simp[MapL],by simp,Ages.nil⟩
theorem ow_makeMapG {d:Nat}{kd:IntKind}{pos:String}{af:Array Edge}{g:Option (Nat×Bool)}{rest:List Oper}(hg:Env.guard E ops g=some true)(hd:Nat.blt d N=true)
  (h:∀b c,MapG kd (fun _=>none) b c→OW P ops Q B w0 N (c::G) ((d,.map (some b))::E) rest):OW P ops Q B w0 N G E (⟨some d,.makeMap T none,ty,pos,af,g⟩::rest):=fun a w ha hw=>by
 unfold wpList
 rw[if_pos (ha.guard (o:=⟨some d,.makeMap T none,ty,pos,af,g⟩) hg)]
 refine .inl ?_
 unfold Oper.wp
 have h3:(execOp a.eval ⟨some d,.makeMap T none,ty,pos,af,g⟩).run P w=.ok (.value (.map (some w.heap.size))) (w.alloc (.map #[] 0)):=by
  simp[execOp,Instr.makeMap]
 rw[h3]
 exact h w.heap.size _ ⟨[],MapR.nil,fun k=>rfl⟩ _ _ (ha.put (by simpa using hd) _) (hw.new _)
def MapV (kd:IntKind)(m:List (Int×Value))(v:Value)(c:Hp):Prop:=(v=.map none∧c=[]∧m=[])∨∃b,v=.map (some b)∧MapR kd m b c
theorem MapV.nd {kd:IntKind}{m:List (Int×Value)}{v:Value}{c:Hp}(h:MapV kd m v c):(m.map (·.1)).Nodup:=by
 rcases h with⟨_,_,rfl⟩|⟨b,_,es,clock,_,_,hn,_⟩
 ·simp
 ·exact hn
def ItAt (kd:IntKind)(v:Value)(cm:Hp)(r:Nat)(cur:Option (Int×Value))(rem:List (Int×Value))(c:Hp):Prop:=
 (v=.map none∧rem=[]∧cur=none∧c=[(r,.mapIter none 0 #[] 0)])∨
 ∃b es clock seen c0,v=.map (some b)∧cm=[(b,.map es clock)]∧Ages es clock∧clock≤c0∧c=[(r,.mapIter (some b) clock seen c0)]∧MapL kd rem (leftOf es seen).toList∧
  ∀p,cur=some p→∃e∈es.toList,e.key=.int kd p.1∧e.val=p.2∧c0=clock∧∃s':Array Nat,seen=s'.push e.born
theorem ow_range {d:Nat}{x:Operand}{kt e:TypeId}{kd:IntKind}{m:List (Int×Value)}{v:Value}{c:Hp}{pos:String}{af:Array Edge}{g:Option (Nat×Bool)}{rest:List Oper}(hg:Env.guard E ops g=some true)(hd:Nat.blt d N=true)
  (hT:P.underlying T=some (.map kt e)) (hx:Env.ev E x=some v) (hs:Sub c G) (hM:MapV kd m v c)
  (h:∀r ci,ItAt kd v c r none m ci→OW P ops Q B w0 N (ci::G) ((d,.pointer (some ⟨r,0,none⟩))::E) rest):OW P ops Q B w0 N G E (⟨some d,.range T x,ty,pos,af,g⟩::rest):=fun a w ha hw=>by
 unfold wpList
 rw[if_pos (ha.guard (o:=⟨some d,.range T x,ty,pos,af,g⟩) hg)]
 refine .inl ?_
 unfold Oper.wp
 rcases hM with⟨rfl,rfl,rfl⟩|⟨b,rfl,es,clock,rfl,hL,hn,hA⟩
 ·have h3:(execOp a.eval ⟨some d,.range T x,ty,pos,af,g⟩).run P w=.ok (.value (.pointer (some ⟨w.heap.size,0,none⟩))) (w.alloc (.mapIter none 0 #[] 0)):=by
   simp[execOp,Instr.range,ha.ev hx,run_underlying hT]
  rw[h3]
  exact h w.heap.size _ (.inl ⟨rfl,rfl,rfl,rfl⟩) _ _ (ha.put (by simpa using hd) _) (hw.new _)
 ·have hb:=hw.sub hs (List.Mem.head _)
  have h3:(execOp a.eval ⟨some d,.range T x,ty,pos,af,g⟩).run P w=.ok (.value (.pointer (some ⟨w.heap.size,0,none⟩))) (w.alloc (.mapIter (some b) clock #[] clock)):=by
   simp[execOp,Instr.range,ha.ev hx,run_underlying hT,run_getObjM hb]
  rw[h3]
  refine h w.heap.size _ (.inr ⟨b,es,clock,#[],clock,rfl,rfl,hA,Nat.le_refl _,rfl,?_,fun p hp=>by cases hp⟩) _ _ (ha.put (by simpa using hd) _) (hw.new _)
  have:leftOf es #[]=es:=by unfold leftOf;simp
  rw[this]
  exact hL
theorem v_entry {x:Operand}{kd:IntKind}{r:Nat}{v:Value}{k:Int}{u:Value}{rem:List (Int×Value)}{cm c:Hp}(hx:Env.ev E x=some (.pointer (some ⟨r,0,none⟩)))(hs:Sub c G)(hs2:Sub cm G)(hI:ItAt kd v cm r (some (k,u)) rem c):
  OpV P (St B w0 G) N E (.entry x) ty (.tuple #[.int kd k,u]):=fun a w ha hw=>by
 rcases hI with⟨_,_,h,_⟩|⟨b,es,clock,seen,c0,rfl,rfl,hA,hc0,rfl,hL,hcur⟩
 ·cases h
 ·obtain⟨e,he,h1,h2,rfl,s',rfl⟩:=hcur _ rfl
  have hr:=hw.sub hs (List.Mem.head _)
  have hb:=hw.sub hs2 (List.Mem.head _)
  have h3:=run_entry_at (P:=P) w r b c0 s' es c0 e hr hb he hA.nd
  rw[h1,h2]at h3
  simp[execOp,ha.ev hx,h3,Oper.quietUpon]
theorem mapL_mem {kd:IntKind}:∀{m:List (Int×Value)} {es:List MapEntry} {e:MapEntry},MapL kd m es→e∈es→(es.map (·.born)).Nodup→∃k v m',e.key=.int kd k∧e.val=v∧MapL kd m' (es.filter fun x=>!(x.born == e.born))∧m.Perm ((k,v)::m')
 |[],es,e,h,he,_=>by
  cases es with
  |nil=>cases he
  |cons _ _=>simp[MapL]at h
 |p::m,[],e,h,he,_=>by cases he
 |p::m,x::es,e,h,he,hn=>by
  simp only[MapL,List.map_cons,List.cons.injEq,Prod.mk.injEq]at h
  obtain⟨⟨h1,h2⟩,h3⟩:=h
  simp only[List.map_cons,List.nodup_cons]at hn
  rcases List.mem_cons.1 he with rfl|he
  ·refine⟨p.1,p.2,m,h1,h2,?_,List.Perm.refl _⟩
   rw[List.filter_cons_of_neg (by simp)]
   have:es.filter (fun x=>!(x.born == e.born))=es:=List.filter_eq_self.2 fun y hy=>by
    have:¬y.born=e.born:=fun hh=>hn.1 (List.mem_map.2 ⟨y,hy,hh⟩)
    simp[this]
   rw[this]
   exact h3
  ·obtain⟨k,v,m',g1,g2,g3,g4⟩:=mapL_mem (m:=m) h3 he hn.2
   have hne:¬x.born=e.born:=fun hh=>hn.1 (List.mem_map.2 ⟨e,he,hh.symm⟩)
   refine⟨k,v,p::m',g1,g2,?_,(List.Perm.cons p g4).trans (List.Perm.swap _ _ _)⟩
   rw[List.filter_cons_of_pos (by simp[hne])]
   simp only[MapL,List.map_cons,h1,h2]
   simp only[MapL]at g3
   rw[g3]
theorem left_push {es:Array MapEntry}{seen:Array Nat}{b:Nat}:(leftOf es (seen.push b)).toList=(leftOf es seen).toList.filter fun x=>!(x.born == b):=by
 unfold leftOf
 simp only[Array.toList_filter,List.filter_filter]
 congr 1
 funext x
 rw[contains_push]
 cases seen.contains x.born<;>cases x.born == b<;>rfl
theorem ow_next {d:Nat}{x:Operand}{kd:IntKind}{r:Nat}{v:Value}{cur:Option (Int×Value)}{rem:List (Int×Value)}{cm c:Hp}{R:Hp→List Hp}{pos:String}{af:Array Edge}{g:Option (Nat×Bool)}{rest:List Oper}(hg:Env.guard E ops g=some true)(hd:Nat.blt d N=true)
  (hx:Env.ev E x=some (.pointer (some ⟨r,0,none⟩))) (hsel:Sel G c R) (hs:Sub cm G) (hI:ItAt kd v cm r cur rem c)
  (h0:rem=[]→OW P ops Q B w0 N (R c) ((d,.tuple #[.bool false])::E) rest)
  (h1:∀k u rem' c',rem.Perm ((k,u)::rem')→ItAt kd v cm r (some (k,u)) rem' c'→OW P ops Q B w0 N (R c') ((d,.tuple #[.bool true,.int kd k,u])::E) rest):
  OW P ops Q B w0 N G E (⟨some d,.next x false,ty,pos,af,g⟩::rest):=fun a w ha hw=>by
 unfold wpList
 rw[if_pos (ha.guard (o:=⟨some d,.next x false,ty,pos,af,g⟩) hg)]
 refine .inl ?_
 unfold Oper.wp
 rcases hI with⟨rfl,rfl,_,rfl⟩|⟨b,es,clock,seen,c0,rfl,rfl,hA,hc0,rfl,hL,_⟩
 ·have hb:=hw.read hsel (List.Mem.head _)
  have hob:(getObj r).run P w=.ok (.mapIter none 0 #[] 0) w:=by simp[getObj,Sem.run,hb]
  have h3:(execOp a.eval ⟨some d,.next x false,ty,pos,af,g⟩).run P w=.ok (.value (.tuple #[.bool false])) w:=by
   simp[execOp,Instr.next,ha.ev hx,hob]
  rw[h3]
  have he:=hsel.eq
  rw[he]at h0
  exact h0 rfl _ _ (ha.put (by simpa using hd) _) hw
 ·have hr:=hw.read hsel (List.Mem.head _)
  have hb:=hw.sub hs (List.Mem.head _)
  rcases run_next_at (P:=P) w ty r b clock c0 seen es clock hr hb hA.lt hc0 with⟨g1,g2⟩|⟨e,he,w1,hw1,g2⟩
  ·have hrem:rem=[]:=by
    have h5:(leftOf es seen).toList=[]:=by
     have:(leftOf es seen).toList.length=0:=by simpa using g1
     exact List.eq_nil_of_length_eq_zero this
    rw[h5]at hL
    cases rem with
    |nil=>rfl
    |cons _ _=>simp[MapL]at hL
   have h3:(execOp a.eval ⟨some d,.next x false,ty,pos,af,g⟩).run P w=.ok (.value (.tuple #[.bool false])) w:=by
    simp[execOp,ha.ev hx,g2]
   rw[h3]
   have he:=hsel.eq
   rw[he]at h0
   exact h0 hrem _ _ (ha.put (by simpa using hd) _) hw
  ·have hnl:((leftOf es seen).toList.map (·.born)).Nodup:=by
    unfold leftOf
    rw[Array.toList_filter]
    exact(List.filter_sublist.map _).nodup hA.nd
   obtain⟨k,u,rem',e1,e2,e3,e4⟩:=mapL_mem hL he hnl
   have h3:(execOp a.eval ⟨some d,.next x false,ty,pos,af,g⟩).run P w=.ok (.value (.tuple #[.bool true,e.key,e.val])) (Go.ChangeMaps.setBlock w1 r (.mapIter (some b) clock (seen.push e.born) clock)):=by
    simp[execOp,ha.ev hx,g2]
   rw[h3,e1,e2]
   have hst1:St B w0 G w1:=by
    rcases hw1 with rfl|rfl
    ·exact hw
    ·exact hw.drew
   have hin:e∈es.toList:=(mem_left he).1
   refine h1 k u rem' [(r,.mapIter (some b) clock (seen.push e.born) clock)] e4 (.inr ⟨b,es,clock,_,clock,rfl,rfl,hA,Nat.le_refl _,rfl,?_,fun p hp=>?_⟩) _ _ (ha.put (by simpa using hd) _) ?_
   ·rw[left_push];exact e3
   ·obtain rfl:=Option.some.inj hp
    exact⟨e,hin,e1,e2,rfl,_,rfl⟩
   ·exact hst1.setMap hsel
end Go.Sl
namespace Go.Proofs.YtnlaffkihohfkaaGreat
open Go Go.Sl Go.Proofs
variable {B:Nat}{w0:World}{G:List Hp}{R:Hp→List Hp}
def RunM.cells (r:RunM):List Value:=[.int .u64 r.a,.int .u64 r.b,.int .u64 r.g]
def enRn:Enc RunM:=⟨RunM.cells,3,fun r=>.agg r.cells.toArray,fun _=>True⟩
theorem rnTy:EncTy Tryz.prog 103 enRn:=EncTy.agg Ty.ag103 (by decide) (fun _=>rfl) (fun _ _=>rfl) (fun a _ u hu=>by
 simp only[enRn,RunM.cells,List.mem_cons,List.not_mem_nil,or_false]at hu
 rcases hu with rfl|rfl|rfl<;>rfl)
structure SsP where
 bm:Nat
 a0:Option Addr
 c0:Nat
 a1:Option Addr
 c1:Nat
def SsM.cells (M:SsM)(p:SsP):List Value:=[.int .u64 M.giv.lim,.int .u64 M.giv.used,.int .u64 M.giv.taken,.int .u64 M.giv.ahead,.int .u64 M.giv.told,.int .u64 M.got.lim,.int .u64 M.got.used,.int .u64 M.got.said,.bool M.cl,.int .u64 M.own.l,.int .u64 M.own.r,.int .u64 M.own.u,.int .u64 M.their.l,.int .u64 M.their.r,.int .u64 M.their.u,.map (some p.bm),.slice p.a0 M.r0.length p.c0,.slice p.a1 M.r1.length p.c1,.int .u64 M.k0.op,.int .u64 M.k1.op,.int .u64 M.k0.may,.int .u64 M.k1.may,.int .u64 M.k0.came,.int .u64 M.k1.came,.int .u64 M.k0.giv,.int .u64 M.k1.giv,.int .u64 M.k0.told,.int .u64 M.k1.told]
def Strs (xs:List SmM)(ps:List Nat)(c:Hp):Prop:=∃cs:List Hp,c=cs.flatten∧cs.length=xs.length∧ps.length=xs.length∧∀i (h:i<xs.length) (h2:i<cs.length),SmAt xs[i] (ps.getD i 0) cs[i]
theorem Strs.nil:Strs [] [] []:=⟨[],rfl,rfl,rfl,fun i h=>absurd h (Nat.not_lt_zero _)⟩
theorem Strs.len {xs:List SmM}{ps:List Nat}{c:Hp}(h:Strs xs ps c):ps.length=xs.length:=by
 obtain⟨_,_,_,h,_⟩:=h
 exact h
theorem flatten_get {cs:List Hp}{i:Nat}(hi:i<cs.length)(q:Nat×Obj):cnt q cs.flatten=cnt q cs[i]+cnt q (cs.eraseIdx i).flatten:=by
 have h1:cs=cs.take i++cs[i]::cs.drop (i+1):=by rw[←List.drop_eq_getElem_cons hi,List.take_append_drop]
 have h2:cs.eraseIdx i=cs.take i++cs.drop (i+1):=List.eraseIdx_eq_take_drop_succ cs i
 rw[h2]
 conv=>lhs;rw[h1]
 simp only[List.flatten_append,List.flatten_cons,cnt_append]
 omega
theorem flatten_set {cs:List Hp}{i:Nat}{c':Hp}(hi:i<cs.length)(q:Nat×Obj):cnt q (cs.set i c').flatten=cnt q c'+cnt q (cs.eraseIdx i).flatten:=by
 have h:=flatten_get (cs:=cs.set i c') (i:=i) (by simpa using hi) q
 rw[List.getElem_set_self,List.eraseIdx_set_eq]at h
 exact h
theorem Strs.focus {xs:List SmM}{ps:List Nat}{c:Hp}(h:Strs xs ps c){i:Nat}(hi:i<xs.length):
  ∃cx cr,(∀q,cnt q c=cnt q cx+cnt q cr)∧SmAt xs[i] (ps.getD i 0) cx∧∀x' cx',SmAt x' (ps.getD i 0) cx'→∃c',Strs (xs.set i x') ps c'∧∀q,cnt q c'=cnt q cx'+cnt q cr:=by
 obtain⟨cs,rfl,hl,hp,ha⟩:=h
 have hi2:i<cs.length:=by omega
 refine⟨cs[i],(cs.eraseIdx i).flatten,fun q=>flatten_get hi2 q,ha i hi hi2,fun x' cx' hx=>⟨(cs.set i cx').flatten,⟨cs.set i cx',rfl,by simp[hl],by simp[hp],fun j hj hj2=>?_⟩,fun q=>flatten_set hi2 q⟩⟩
 by_cases hij:i=j
 ·subst hij
  rw[List.getElem_set_self,List.getElem_set_self]
  exact hx
 ·rw[List.getElem_set_ne hij,List.getElem_set_ne hij]
  exact ha j (by simpa using hj) (by simpa using hj2)
theorem getD_left {l m:List Nat}{i d:Nat}(h:i<l.length):(l++m).getD i d=l.getD i d:=by
 rw[List.getD_eq_getElem?_getD,List.getD_eq_getElem?_getD,List.getElem?_append_left h]
theorem getD_right {l m:List Nat}{i d:Nat}(h:l.length≤i):(l++m).getD i d=m.getD (i-l.length) d:=by
 rw[List.getD_eq_getElem?_getD,List.getD_eq_getElem?_getD,List.getElem?_append_right h]
theorem Strs.snoc {xs:List SmM}{ps:List Nat}{c cx:Hp}{x:SmM}{p:Nat}(h:Strs xs ps c)(hx:SmAt x p cx):Strs (xs++[x]) (ps++[p]) (c++cx):=by
 obtain⟨cs,rfl,hl,hp,ha⟩:=h
 refine⟨cs++[cx],by simp,by simp[hl],by simp[hp],fun i hi hi2=>?_⟩
 rw[List.length_append,List.length_singleton]at hi
 by_cases h1:i<xs.length
 ·rw[List.getElem_append_left h1,List.getElem_append_left zom,getD_left zom]
  exact ha i h1 zom
 ·have h2:i=xs.length:=by omega
  subst h2
  rw[List.getElem_append_right (Nat.le_refl _),List.getElem_append_right zom,getD_right zom]
  have e1:xs.length-ps.length=0:=by omega
  have e2:xs.length-cs.length=0:=by omega
  simp only[Nat.sub_self,e1,e2]
  exact hx
def SsAt (M:SsM)(ps:List Nat)(b:Nat)(c:Hp):Prop:=∃p cm cr0 cr1 cs,c=[(b,.cells (M.cells p).toArray 73 (0,0))]++(cm++(cr0++(cr1++cs)))∧MapG .u64 (ptrOf M.str ps) p.bm cm∧Ls enRn 103 (.slice p.a0 M.r0.length p.c0) cr0 M.r0∧Ls enRn 103 (.slice p.a1 M.r1.length p.c1) cr1 M.r1∧Strs M.str ps cs
theorem SsM.len {M:SsM}{p:SsP}:(M.cells p).length=28:=rfl
theorem kind_c {id:Int}(h:0≤id∧id≤18446744073709551615):
  Go.Sl.Fn Tryz.prog 40 #[.int .u64 id] B w0 G fun u G'=>u=.int .i64 (kdI id)∧G'=G:=by
 refine Fn.pure ?_
 refine fn_enter Tryz.func40 rfl (by kernel_rfl) Tryz.ntmps40 (by simp) ?_
 refine qs<|qa<|qt<|qs<|qm ?_
 refine ow_val rfl rfl (v_shrP (p:=2) rfl rfl zom (by decide) zom (by decide)) ?_
 refine qv ((v_and rfl rfl (Go.Sl.and1 zom)))<|qv (v_convert Tryz.underlying27 Tryz.underlying3 rfl (nw_i64 zom zom))<|qa<|qt<|cw_ret<|ret1 rfl (res_tmp rfl) ?_
 exact⟨rfl,zcov⟩
theorem mine_c {M:SsM}{ps:List Nat}{b:Nat}{c:Hp}{id:Int}(hM:SsAt M ps b c)(hs:Sub c G)(h:0≤id∧id≤18446744073709551615):
  Go.Sl.Fn Tryz.prog 41 #[.pointer (some ⟨b,0,none⟩),.int .u64 id] B w0 G fun u G'=>u=.bool (M.mine id)∧G'=G:=by
 refine Fn.pure ?_
 obtain⟨p,cm,cr0,cr1,cs,rfl,hMp,hR0,hR1,hS⟩:=hM
 have hs1:=hs.left
 refine fn_enter Tryz.func41 rfl (by kernel_rfl) Tryz.ntmps41 (by simp) ?_
 refine qs ?_
 refine qa ?_
 refine qt ?_
 refine qs ?_
 refine qm ?_
 refine qv (v_neq_nil_some Tryz.underlying35 rfl) ?_
 refine qm ?_
 refine qm ?_
 refine qv ((v_and rfl rfl (Go.Sl.and1 zom))) ?_
 refine qv (v_eql rfl rfl) ?_
 refine qm ?_
 refine qn ?_
 refine qf Ty.fd73_2 ?_
 refine ql (Var.sub1 Ty.sc4 zthr (.head _) (GetN.lit rfl)) ?_
 refine qv (v_eqlB Tryz.underlying4 rfl rfl) ?_
 refine qv (v_pick_true rfl rfl) ?_
 refine qa ?_
 refine qt ?_
 refine cw_ret ?_
 refine ret1 rfl (res_tmp rfl) ?_
 exact⟨rfl,zcov⟩
theorem number_c {M:SsM}{ps:List Nat}{b:Nat}{c:Hp}{m:Bool}{k n:Int}(hM:SsAt M ps b c)(hs:Sub c G)(hk:k=0∨k=1)(hn:0≤n∧n≤1000000000):
  Go.Sl.Fn Tryz.prog 35 #[.pointer (some ⟨b,0,none⟩),.bool m,.int .i64 k,.int .u64 n] B w0 G fun u G'=>u=.int .u64 (idOf M.cl m k n)∧G'=G:=by
 refine Fn.pure ?_
 obtain⟨p,cm,cr0,cr1,cs,rfl,hMp,hR0,hR1,hS⟩:=hM
 have hs1:=hs.left
 refine fn_enter Tryz.func35 rfl (by kernel_rfl) Tryz.ntmps35 (by simp) ?_
 refine qs<|qa<|qt<|qs<|qm ?_
 refine ow_val rfl rfl (v_shlP (p:=4) rfl rfl zom (by decide) (by decide) zom zom) ?_
 refine qm ?_
 refine qv (v_convert Tryz.underlying3 Tryz.underlying27 rfl (nw_u64 zom zom)) ?_
 refine ow_val rfl rfl (v_shlP (p:=2) rfl rfl zom (by decide) (by decide) zom zom) ?_
 refine qv ((v_or rfl rfl (Go.Sl.orP 2 zom zom zom zom zom)))<|qa<|qt<|cw_seq<|qs<|qm<|qm<|qn ?_
 refine qf Ty.fd73_2 ?_
 refine ql (Var.sub1 Ty.sc4 zthr (.head _) (GetN.lit rfl)) ?_
 refine qv (v_neqB Tryz.underlying4 rfl rfl)<|qt ?_
 refine cw_dec rfl (fun hc21=>?_) (fun hc21=>?_)
 refine cw_region<|qm ?_
 refine qv ((v_or rfl rfl (Go.Sl.orP 1 zom zom zom zom zom)))<|qa<|qt<|qs<|qm<|qa<|qt ?_
 refine cw_ret ?_
 refine ret1 rfl (res_tmp rfl) ?_
 rotate_left
 refine cw_skip<|xw_then<|qs<|qm<|qa<|qt ?_
 refine cw_ret ?_
 refine ret1 rfl (res_tmp rfl) ?_
 rotate_left
 ·unfold idOf
  rw[if_neg hc21]
  exact⟨rfl,zcov⟩
 ·unfold idOf
  rw[if_pos (Decidable.of_not_not hc21),Int.add_zero]
  exact⟨rfl,zcov⟩
theorem granted_c {M:SsM}{ps:List Nat}{b:Nat}{c:Hp}{id:Int}(hM:SsAt M ps b c)(hs:Sub c G)(h:0≤id∧id≤18446744073709551615):
  Go.Sl.Fn Tryz.prog 47 #[.pointer (some ⟨b,0,none⟩),.int .u64 id] B w0 G fun u G'=>u=.int .u64 (M.granted id)∧G'=G:=by
 refine Fn.pure ?_
 have hM':=hM
 obtain⟨p,cm,cr0,cr1,cs,rfl,hMp,hR0,hR1,hS⟩:=hM
 have hs1:=hs.left
 refine fn_enter Tryz.func47 rfl (by kernel_rfl) Tryz.ntmps47 (by simp) ?_
 refine qs<|qa<|qt<|cw_seq<|cw_block<|qs<|qm<|qv (v_call rfl rfl (kind_c h))<|qv (v_eql rfl rfl)<|qa<|qt ?_
 refine cw_dec rfl (fun hc5=>?_) (fun hc5=>?_)
 refine qs<|qm<|qn<|qf Ty.fd73_4<|qv (v_fieldAddr Ty.fd59_2 rfl)<|ql (Var.sub1 Ty.sc27 zthr (.head _) (GetN.lit rfl))<|qa<|qt<|cw_ret<|xw_block_ret<|xw_then_ret<|ret1 rfl (res_tmp rfl) ?_
 rotate_left
 refine qs<|qm<|qm ?_
 refine ow_val rfl rfl (v_call rfl rfl (mine_c hM' hs h)) ?_
 refine qa<|qt ?_
 refine cw_dec rfl (fun hc14=>?_) (fun hc14=>?_)
 refine qs<|qm<|qn<|qf Ty.fd73_4<|qv (v_fieldAddr Ty.fd59_1 rfl)<|ql (Var.sub1 Ty.sc27 zthr (.head _) (GetN.lit rfl))<|qa<|qt<|cw_ret<|xw_block_ret<|xw_then_ret<|ret1 rfl (res_tmp rfl) ?_
 rotate_left
 refine cw_skip<|xw_block<|xw_then<|qs<|qm<|qn<|qf Ty.fd73_4<|qv (v_fieldAddr Ty.fd59_0 rfl)<|ql (Var.sub1 Ty.sc27 zthr (.head _) (GetN.lit rfl))<|qa<|qt<|cw_ret ?_
 refine ret1 rfl (res_tmp rfl) ?_
 rotate_left
 ·unfold SsM.granted
  rw[if_pos hc5]
  exact⟨rfl,zcov⟩
 ·unfold SsM.granted
  rw[if_neg hc5,if_pos (by unfold SsM.mine;exact decide_eq_true hc14)]
  exact⟨rfl,zcov⟩
 ·unfold SsM.granted
  rw[if_neg hc5,if_neg (by unfold SsM.mine;simpa using hc14)]
  exact⟨rfl,zcov⟩
theorem grants_c {M:SsM}{ps:List Nat}{b:Nat}{c:Hp}{id:Int}(hM:SsAt M ps b c)(hs:Sub c G)(h:0≤id∧id≤18446744073709551615):
  Go.Sl.Fn Tryz.prog 75 #[.pointer (some ⟨b,0,none⟩),.int .u64 id] B w0 G fun u G'=>u=.int .u64 (M.grants id)∧G'=G:=by
 refine Fn.pure ?_
 have hM':=hM
 obtain⟨p,cm,cr0,cr1,cs,rfl,hMp,hR0,hR1,hS⟩:=hM
 have hs1:=hs.left
 refine fn_enter Tryz.func75 rfl (by kernel_rfl) Tryz.ntmps75 (by simp) ?_
 refine qs<|qa<|qt<|cw_seq<|cw_block<|qs<|qm<|qv (v_call rfl rfl (kind_c h))<|qv (v_eql rfl rfl)<|qa<|qt ?_
 refine cw_dec rfl (fun hc5=>?_) (fun hc5=>?_)
 refine qs<|qm<|qn<|qf Ty.fd73_3<|qv (v_fieldAddr Ty.fd59_2 rfl)<|ql (Var.sub1 Ty.sc27 zthr (.head _) (GetN.lit rfl))<|qa<|qt<|cw_ret<|xw_block_ret<|xw_then_ret<|ret1 rfl (res_tmp rfl) ?_
 rotate_left
 refine qs<|qm<|qm ?_
 refine ow_val rfl rfl (v_call rfl rfl (mine_c hM' hs h)) ?_
 refine qa<|qt ?_
 refine cw_dec rfl (fun hc14=>?_) (fun hc14=>?_)
 refine qs<|qm<|qn<|qf Ty.fd73_3<|qv (v_fieldAddr Ty.fd59_0 rfl)<|ql (Var.sub1 Ty.sc27 zthr (.head _) (GetN.lit rfl))<|qa<|qt<|cw_ret<|xw_block_ret<|xw_then_ret<|ret1 rfl (res_tmp rfl) ?_
 rotate_left
 refine cw_skip<|xw_block<|xw_then<|qs<|qm<|qn<|qf Ty.fd73_3<|qv (v_fieldAddr Ty.fd59_1 rfl)<|ql (Var.sub1 Ty.sc27 zthr (.head _) (GetN.lit rfl))<|qa<|qt<|cw_ret ?_
 refine ret1 rfl (res_tmp rfl) ?_
 rotate_left
 ·unfold SsM.grants
  rw[if_pos hc5]
  exact⟨rfl,zcov⟩
 ·unfold SsM.grants
  rw[if_neg hc5,if_pos (by unfold SsM.mine;exact decide_eq_true hc14)]
  exact⟨rfl,zcov⟩
 ·unfold SsM.grants
  rw[if_neg hc5,if_neg (by unfold SsM.mine;simpa using hc14)]
  exact⟨rfl,zcov⟩
def SsM.setK (M:SsM)(k:Int)(n:KdM):SsM:=if k=0 then {M with k0:=n} else {M with k1:=n}
def SsM.kn (M:SsM)(k:Int):KdM:=if k=0 then M.k0 else M.k1
def SsM.raiseS (M:SsM)(k lim:Int):SsM:=M.setK k {M.kn k with may:=max (M.kn k).may lim}
theorem raiseS_c {M:SsM}{ps:List Nat}{b:Nat}{c:Hp}{k n:Int}(hsel:Sel G c R)(hM:SsAt M ps b c)(hk:k=0∨k=1):
  Go.Sl.Fn Tryz.prog 46 #[.pointer (some ⟨b,0,none⟩),.int .i64 k,.int .u64 n] B w0 G fun u G'=>∃c':Hp,u=.tuple #[]∧SsAt (M.raiseS k n) ps b c'∧G'=R c':=by
 refine Fn.sel0 hsel fun F hR hF=>?_
 obtain⟨p,cm,cr0,cr1,cs,rfl,hMp,hR0,hR1,hS⟩:=hM
 refine fn_enter Tryz.func46 rfl (by kernel_rfl) Tryz.ntmps46 (by simp) ?_
 refine cw_split ?_
 rcases hk with rfl|rfl
 ·refine cw_seq ?_
  refine qs ?_
  refine qm ?_
  refine qv (v_eql_nil_some Tryz.underlying35 rfl) ?_
  refine qm ?_
  refine qm ?_
  refine qv (v_lss rfl rfl) ?_
  refine qv (v_pick_false rfl rfl) ?_
  refine qm ?_
  refine ow_dec 12 rfl (fun hc12=>?_) (fun hc12=>?_)
  (exfalso;omega)
  refine qm ?_
  refine qv (v_gtr rfl rfl) ?_
  refine qv (v_pick_false rfl rfl) ?_
  refine qt ?_
  refine cw_false rfl ?_
  refine cw_skip ?_
  refine xw_then ?_
  refine cw_mix [] [13] [0,1,2,3,4,5,6,7,8,9,10,11,12] Ty.mixed rfl rfl rfl rfl zdk ?_
  refine hmv ?_
  refine hmv ?_
  refine hmv ?_
  refine hmv ?_
  refine hw_pure rfl rfl (v_nilCheck rfl) rfl ?_
  refine hw_pure rfl rfl (v_fieldAddr0 Ty.fd73_8 rfl) rfl ?_
  refine hw_pure rfl rfl (v_indexAddrA Tryz.underlying71 Ty.el71 rfl rfl (Int.toNat_of_nonneg zom).symm zom) rfl ?_
  refine hw_read rfl rfl rfl (v_load rfl (Var.at1 Ty.sc27 .here (GetN.lit rfl))) ?_
  refine hmv ?_
  refine hw_pure rfl rfl (v_max rfl rfl) rfl ?_
  refine hw_pure rfl rfl (v_nilCheck rfl) rfl ?_
  refine hw_pure rfl rfl (v_fieldAddr0 Ty.fd73_8 rfl) rfl ?_
  refine hw_pure rfl rfl (v_indexAddrA Tryz.underlying71 Ty.el71 rfl rfl (Int.toNat_of_nonneg zom).symm zom) rfl ?_
  refine hw_nil ?_
  refine sw_nil ?_
  refine ow_store1 rfl rfl rfl rfl Ty.sc27 .here (SetN.one zdn) ?_
  refine ow_nil ?_
  refine xw_np ?_
  refine ret0n rfl ?_
  exact⟨[(b,.cells ((M.cells p).set 20 (.int .u64 (max M.k0.may n))).toArray 73 (0,0))]++(cm++(cr0++(cr1++cs))),rfl,⟨p,cm,cr0,cr1,cs,rfl,hMp,hR0,hR1,hS⟩,zcov⟩
 ·refine cw_seq ?_
  refine qs ?_
  refine qm ?_
  refine qv (v_eql_nil_some Tryz.underlying35 rfl) ?_
  refine qm ?_
  refine qm ?_
  refine qv (v_lss rfl rfl) ?_
  refine qv (v_pick_false rfl rfl) ?_
  refine qm ?_
  refine ow_dec 12 rfl (fun hc12=>?_) (fun hc12=>?_)
  (exfalso;omega)
  refine qm ?_
  refine qv (v_gtr rfl rfl) ?_
  refine qv (v_pick_false rfl rfl) ?_
  refine qt ?_
  refine cw_false rfl ?_
  refine cw_skip ?_
  refine xw_then ?_
  refine cw_mix [] [13] [0,1,2,3,4,5,6,7,8,9,10,11,12] Ty.mixed rfl rfl rfl rfl zdk ?_
  refine hmv ?_
  refine hmv ?_
  refine hmv ?_
  refine hmv ?_
  refine hw_pure rfl rfl (v_nilCheck rfl) rfl ?_
  refine hw_pure rfl rfl (v_fieldAddr0 Ty.fd73_8 rfl) rfl ?_
  refine hw_pure rfl rfl (v_indexAddrA Tryz.underlying71 Ty.el71 rfl rfl (Int.toNat_of_nonneg zom).symm zom) rfl ?_
  refine hw_read rfl rfl rfl (v_load rfl (Var.at1 Ty.sc27 .here (GetN.lit rfl))) ?_
  refine hmv ?_
  refine hw_pure rfl rfl (v_max rfl rfl) rfl ?_
  refine hw_pure rfl rfl (v_nilCheck rfl) rfl ?_
  refine hw_pure rfl rfl (v_fieldAddr0 Ty.fd73_8 rfl) rfl ?_
  refine hw_pure rfl rfl (v_indexAddrA Tryz.underlying71 Ty.el71 rfl rfl (Int.toNat_of_nonneg zom).symm zom) rfl ?_
  refine hw_nil ?_
  refine sw_nil ?_
  refine ow_store1 rfl rfl rfl rfl Ty.sc27 .here (SetN.one zdn) ?_
  refine ow_nil ?_
  refine xw_np ?_
  refine ret0n rfl ?_
  exact⟨[(b,.cells ((M.cells p).set 21 (.int .u64 (max M.k1.may n))).toArray 73 (0,0))]++(cm++(cr0++(cr1++cs))),rfl,⟨p,cm,cr0,cr1,cs,rfl,hMp,hR0,hR1,hS⟩,zcov⟩
theorem counts_c {M:SsM}{ps:List Nat}{b:Nat}{c:Hp}{k:Int}(hM:SsAt M ps b c)(hs:Sub c G)(hk:k=0∨k=1):
  Go.Sl.Fn Tryz.prog 34 #[.pointer (some ⟨b,0,none⟩),.int .i64 k] B w0 G fun u G'=>u=.tuple #[.int .u64 (M.kn k).op,.int .u64 (M.kn k).may,.int .u64 (M.kn k).came,.int .u64 (M.kn k).giv]∧G'=G:=by
 refine Fn.pure ?_
 obtain⟨p,cm,cr0,cr1,cs,rfl,hMp,hR0,hR1,hS⟩:=hM
 have hs1:=hs.left
 refine fn_enter Tryz.func34 rfl (by kernel_rfl) Tryz.ntmps34 (by simp) ?_
 rcases hk with rfl|rfl
 ·refine cw_seq ?_
  refine cw_region ?_
  refine qa ?_
  refine qa ?_
  refine qa ?_
  refine qa ?_
  refine qt ?_
  refine cw_seq ?_
  refine qs ?_
  refine qm ?_
  refine qv (v_eql_nil_some Tryz.underlying35 rfl) ?_
  refine qm ?_
  refine qm ?_
  refine qv (v_lss rfl rfl) ?_
  refine qv (v_pick_false rfl rfl) ?_
  refine qm ?_
  refine ow_dec 14 rfl (fun hc14=>?_) (fun hc14=>?_)
  (exfalso;omega)
  refine qm ?_
  refine qv (v_gtr rfl rfl) ?_
  refine qv (v_pick_false rfl rfl) ?_
  refine qt ?_
  refine cw_false rfl ?_
  refine cw_skip ?_
  refine xw_then ?_
  refine cw_seq ?_
  refine cw_quiet Ty.mixed zdk ?_
  refine kmv ?_
  refine kmv ?_
  refine kv (v_nilCheck rfl) ?_
  refine kv (v_fieldAddr0 Ty.fd73_7 rfl) ?_
  refine kv (v_indexAddrA Tryz.underlying71 Ty.el71 rfl rfl (Int.toNat_of_nonneg zom).symm zom) ?_
  refine kv (v_load rfl (Var.sub1 Ty.sc27 zthr (.head _) (GetN.lit rfl))) ?_
  refine kmv ?_
  refine kmv ?_
  refine kv (v_nilCheck rfl) ?_
  refine kv (v_fieldAddr0 Ty.fd73_8 rfl) ?_
  refine kv (v_indexAddrA Tryz.underlying71 Ty.el71 rfl rfl (Int.toNat_of_nonneg zom).symm zom) ?_
  refine kv (v_load rfl (Var.sub1 Ty.sc27 zthr (.head _) (GetN.lit rfl))) ?_
  refine kmv ?_
  refine kmv ?_
  refine kv (v_nilCheck rfl) ?_
  refine kv (v_fieldAddr0 Ty.fd73_9 rfl) ?_
  refine kv (v_indexAddrA Tryz.underlying71 Ty.el71 rfl rfl (Int.toNat_of_nonneg zom).symm zom) ?_
  refine kv (v_load rfl (Var.sub1 Ty.sc27 zthr (.head _) (GetN.lit rfl))) ?_
  refine kmv ?_
  refine kmv ?_
  refine kv (v_nilCheck rfl) ?_
  refine kv (v_fieldAddr0 Ty.fd73_10 rfl) ?_
  refine kv (v_indexAddrA Tryz.underlying71 Ty.el71 rfl rfl (Int.toNat_of_nonneg zom).symm zom) ?_
  refine kv (v_load rfl (Var.sub1 Ty.sc27 zthr (.head _) (GetN.lit rfl))) ?_
  refine kv (v_assign rfl) ?_
  refine kv (v_assign rfl) ?_
  refine kv (v_assign rfl) ?_
  refine kv (v_assign rfl) ?_
  refine kw_nil ?_
  refine xw_then ?_
  refine cw_ret ?_
  refine ret4 rfl (res_tmp rfl) (res_tmp rfl) (res_tmp rfl) (res_tmp rfl) ?_
  exact⟨rfl,zcov⟩
 ·refine cw_seq ?_
  refine cw_region ?_
  refine qa ?_
  refine qa ?_
  refine qa ?_
  refine qa ?_
  refine qt ?_
  refine cw_seq ?_
  refine qs ?_
  refine qm ?_
  refine qv (v_eql_nil_some Tryz.underlying35 rfl) ?_
  refine qm ?_
  refine qm ?_
  refine qv (v_lss rfl rfl) ?_
  refine qv (v_pick_false rfl rfl) ?_
  refine qm ?_
  refine ow_dec 14 rfl (fun hc14=>?_) (fun hc14=>?_)
  (exfalso;omega)
  refine qm ?_
  refine qv (v_gtr rfl rfl) ?_
  refine qv (v_pick_false rfl rfl) ?_
  refine qt ?_
  refine cw_false rfl ?_
  refine cw_skip ?_
  refine xw_then ?_
  refine cw_seq ?_
  refine cw_quiet Ty.mixed zdk ?_
  refine kmv ?_
  refine kmv ?_
  refine kv (v_nilCheck rfl) ?_
  refine kv (v_fieldAddr0 Ty.fd73_7 rfl) ?_
  refine kv (v_indexAddrA Tryz.underlying71 Ty.el71 rfl rfl (Int.toNat_of_nonneg zom).symm zom) ?_
  refine kv (v_load rfl (Var.sub1 Ty.sc27 zthr (.head _) (GetN.lit rfl))) ?_
  refine kmv ?_
  refine kmv ?_
  refine kv (v_nilCheck rfl) ?_
  refine kv (v_fieldAddr0 Ty.fd73_8 rfl) ?_
  refine kv (v_indexAddrA Tryz.underlying71 Ty.el71 rfl rfl (Int.toNat_of_nonneg zom).symm zom) ?_
  refine kv (v_load rfl (Var.sub1 Ty.sc27 zthr (.head _) (GetN.lit rfl))) ?_
  refine kmv ?_
  refine kmv ?_
  refine kv (v_nilCheck rfl) ?_
  refine kv (v_fieldAddr0 Ty.fd73_9 rfl) ?_
  refine kv (v_indexAddrA Tryz.underlying71 Ty.el71 rfl rfl (Int.toNat_of_nonneg zom).symm zom) ?_
  refine kv (v_load rfl (Var.sub1 Ty.sc27 zthr (.head _) (GetN.lit rfl))) ?_
  refine kmv ?_
  refine kmv ?_
  refine kv (v_nilCheck rfl) ?_
  refine kv (v_fieldAddr0 Ty.fd73_10 rfl) ?_
  refine kv (v_indexAddrA Tryz.underlying71 Ty.el71 rfl rfl (Int.toNat_of_nonneg zom).symm zom) ?_
  refine kv (v_load rfl (Var.sub1 Ty.sc27 zthr (.head _) (GetN.lit rfl))) ?_
  refine kv (v_assign rfl) ?_
  refine kv (v_assign rfl) ?_
  refine kv (v_assign rfl) ?_
  refine kv (v_assign rfl) ?_
  refine kw_nil ?_
  refine xw_then ?_
  refine cw_ret ?_
  refine ret4 rfl (res_tmp rfl) (res_tmp rfl) (res_tmp rfl) (res_tmp rfl) ?_
  exact⟨rfl,zcov⟩
def SsM.start (M:SsM)(d:Int)(th:LimM)(bi un:Int):SsM:=(({M with got:=M.got.raise d,their:=th}:SsM).raiseS 0 bi).raiseS 1 un
theorem start_c {M:SsM}{ps:List Nat}{b:Nat}{c:Hp}{d bi un:Int}{th:LimM}(hsel:Sel G c R)(hM:SsAt M ps b c):
  Go.Sl.Fn Tryz.prog 16 #[.pointer (some ⟨b,0,none⟩),.int .u64 d,.agg th.cells.toArray,.int .u64 bi,.int .u64 un] B w0 G fun u G'=>∃c':Hp,u=.tuple #[]∧SsAt (M.start d th bi un) ps b c'∧G'=R c':=by
 refine Fn.sel0 hsel fun F hR hF=>?_
 obtain⟨p,cm,cr0,cr1,cs,rfl,hMp,hR0,hR1,hS⟩:=hM
 have o1:=M.got.one
 have ol:th.cells.length=3:=rfl
 refine fn_enter Tryz.func16 rfl (by kernel_rfl) Tryz.ntmps16 (by simp) ?_
 refine cw_split ?_
 refine qs<|ow_box rfl rfl rfl rfl fun b7=>qt<|cw_seq<|qs<|qm<|qv (v_eql_nil_some Tryz.underlying35 rfl)<|qt<|cw_false rfl<|cw_skip<|xw_then<|qs ?_
 refine qm<|qm<|qn<|qf Ty.fd73_1 ?_
 refine ow_val rfl rfl (v_load rfl (Var.atN Ty.ag53 (.there .here) ((GetN.mid (vs:=M.got.cells) rfl)) zra)) ?_
 refine qm<|qv (v_call rfl rfl (gotRaise_c))<|qn<|qf Ty.fd73_1 ?_
 refine ow_storeN rfl rfl rfl Ty.ag53 zra zao (.there .here) ((SetN.mid (l':=SsM.cells {M with got:=M.got.raise d} p) (Nat.le_of_ble_eq_true rfl) rfl)) ?_
 refine qt<|qs<|qm<|ql (Var.atN Ty.ag59 .here GetN.all zra)<|qn<|qf Ty.fd73_4 ?_
 refine ow_storeN rfl rfl rfl Ty.ag59 zra zao (.there .here) ((SetN.mid (l':=SsM.cells {M with got:=M.got.raise d,their:=th} p) (Nat.le_of_ble_eq_true rfl) rfl)) ?_
 refine qt ?_
 have hx:SsAt {M with got:=M.got.raise d,their:=th} ps b ([(b,.cells (SsM.cells {M with got:=M.got.raise d,their:=th} p).toArray 73 (0,0))]++(cm++(cr0++(cr1++cs)))):=⟨p,cm,cr0,cr1,cs,rfl,hMp,hR0,hR1,hS⟩
 refine cw_cov (([(b,.cells (SsM.cells {M with got:=M.got.raise d,their:=th} p).toArray 73 (0,0))]++(cm++(cr0++(cr1++cs))))::F) zcov ?_
 refine qs<|qm<|qm ?_
 (refine ow_call rfl rfl rfl rfl (raiseS_c (k:=0) .here hx (.inl rfl)) ?_;rintro _ _ ⟨x27,rfl,hq27,rfl⟩)
 refine qt<|cw_region<|qm<|qm ?_
 (refine ow_call rfl rfl rfl rfl (raiseS_c (k:=1) .here hq27 (.inr rfl)) ?_;rintro _ _ ⟨x30,rfl,hq30,rfl⟩)
 refine ow_nil<|ret0n rfl ?_
 exact⟨x30,rfl,hq30,zcov⟩
end Go.Proofs.YtnlaffkihohfkaaGreat
namespace Go.Sl
open Go.RowKit Go
theorem run_eqMapNil {P:Program}(w:World)(d:Nat)(t k e:TypeId)(r:Option Nat)(h:P.underlying t=some (.map k e)):(Op.equalIn (d+1) t (.map r) (.map none)).run P w=.ok r.isNone w:=by
 cases r<;>simp[Op.equalIn,run_underlying h]
theorem v_eql_mapnil {P:Program}{S:World→Prop}{N:Nat}{E:Env}{T U ty:TypeId}{x:Operand}{kt e:TypeId}{b:Option Nat}(hT:P.underlying T=some (.map kt e))(hx:Env.ev E x=some (.map b)):OpV P S N E (.binOp .eql T x (.const (.map none)) U) ty (.bool b.isNone):=fun a w ha _=>by
 have h:(Op.equal T (.map b) (.map none)).run P w=.ok b.isNone w:=run_eqMapNil w 9999 T kt e b hT
 simp[execOp,ha.ev hx,ha.ev (x:=.const (.map none)) rfl,eqGuard,binOp,h,Oper.quietUpon]
theorem ow_open4 {P:Program}{ops:Array Oper}{Q:Exit→Act→World→Prop}{B:Nat}{w0:World}{N:Nat}{E:Env}{x y z a b d:Hp}{F:List Hp}{rest:List Oper}(h:OW P ops Q B w0 N (x::y::z::a::b::d::F) E rest):OW P ops Q B w0 N (x::y::z::(a++(b++d))::F) E rest:=ow_flat (x::y::z::a::b::d::F) (.of_eq (by simp)) h
end Go.Sl
namespace Go.Proofs.YtnlaffkihohfkaaGreat
open Go Go.Sl Go.Proofs
variable {B:Nat}{w0:World}{G:List Hp}{R:Hp→List Hp}
theorem idxS_lt {xs:List SmM}{k:Int}{i:Nat}(h:idxS xs k=some i):∃hi:i<xs.length,xs[i].id=k:=by
 obtain⟨hi,h1,_⟩:=List.findIdx?_eq_some_iff_getElem.1 h
 exact⟨hi,by simpa using h1⟩
theorem idxS_none {xs:List SmM}{k:Int}(h:idxS xs k=none):∀x∈xs,x.id≠k:=by
 have h1:=List.findIdx?_eq_none_iff.1 h
 intro x hx
 simpa using h1 x hx
theorem idxS_snoc {xs:List SmM}{x:SmM}{k:Int}(h:idxS xs x.id=none):idxS (xs++[x]) k=if k=x.id then some xs.length else idxS xs k:=by
 unfold idxS at h⊢
 rw[List.findIdx?_append]
 by_cases hk:k=x.id
 ·subst hk
  rw[if_pos rfl,h]
  simp
 ·rw[if_neg hk]
  cases hf:List.findIdx? (fun x=>decide (x.id=k)) xs with
  |some i=>rfl
  |none=>
   simp[Ne.symm hk]
theorem ptrOf_snoc {xs:List SmM}{ps:List Nat}{x:SmM}{p:Nat}{k:Int}(h:idxS xs x.id=none)(hl:ps.length=xs.length):ptrOf (xs++[x]) (ps++[p]) k=if k=x.id then some (.pointer (some ⟨p,0,none⟩)) else ptrOf xs ps k:=by
 unfold ptrOf
 rw[idxS_snoc h]
 by_cases hk:k=x.id
 ·rw[if_pos hk,if_pos hk]
  simp only[Option.map_some]
  rw[getD_right zom,hl,Nat.sub_self]
  rfl
 ·rw[if_neg hk,if_neg hk]
  cases hi:idxS xs k with
  |none=>rfl
  |some i=>
   obtain⟨h1,_⟩:=idxS_lt hi
   simp only[Option.map_some]
   rw[getD_left zom]
theorem b_sm0 {id:Int}:Build Tryz.prog 55 #[(0,.int .u64 id)] (.agg (SmM.cells ⟨id,0,0,none,none,giv0,got0,0,0,false,0,false,false,false⟩ ⟨none,none⟩).toArray):=fun w=>by kernel_rfl
theorem granted_b {M:SsM}{id:Int}(h:M.their.WF):0≤M.granted id∧M.granted id≤4611686018427387903:=by
 have:=h.l;have:=h.r;have:=h.u
 unfold SsM.granted
 split
 ·omega
 split<;>omega
theorem grants_b {M:SsM}{id:Int}(h:M.own.WF):0≤M.grants id∧M.grants id≤4611686018427387903:=by
 have:=h.l;have:=h.r;have:=h.u
 unfold SsM.grants
 split
 ·omega
 split<;>omega
def SsM.add (M:SsM)(x:SmM):SsM:={M with str:=M.str++[x]}
set_option maxHeartbeats 4000000 in
theorem create_c {M:SsM}{ps:List Nat}{b:Nat}{c:Hp}{id g:Int}(hsel:Sel G c R)(hM:SsAt M ps b c)(ho:M.own.WF)(hn:idxS M.str id=none)(hid:0≤id∧id≤18446744073709551615)(hg:0≤g∧g≤18446744073709551615):
  Go.Sl.Fn Tryz.prog 44 #[.pointer (some ⟨b,0,none⟩),.int .u64 id,.int .u64 g] B w0 G fun u G'=>∃y:Nat×Hp,u=.pointer (some ⟨y.1,0,none⟩)∧SsAt (M.add (M.fresh id g)) (ps++[y.1]) b y.2∧G'=R y.2:=by
 refine Fn.sel0 hsel fun F hR hF=>?_
 have hgr:=grants_b (id:=id) ho
 have o1:=(GivM.new (M.grants id)).one
 have o2:=(got0.raise g).one
 have hM':=hM
 obtain⟨p,cm,cr0,cr1,cs,rfl,hMp,hR0,hR1,hS⟩:=hM
 refine fn_enter Tryz.func44 rfl (by kernel_rfl) Tryz.ntmps44 (by simp) ?_
 refine qs<|qa<|qt<|qs<|qm<|qv (v_build rfl (b_sm0))<|ow_box rfl rfl rfl rfl fun b12=>qa<|qt<|qs<|qm<|qm ?_
 refine ow_val rfl rfl (v_call rfl rfl (mine_c hM' zhas hid)) ?_
 refine qm<|qv (v_call rfl rfl (kind_c hid))<|qv (v_eql rfl rfl)<|qa<|qa<|qt ?_
 refine cw_cut2 (ι:=((Option Addr×Hp))) [(0,_),(1,_),(2,_),(6,_),(7,_),(8,_),(9,_)] ⟨rfl,rfl,rfl,rfl,rfl,rfl,rfl,trivial⟩ ((fun _=>[])) ((fun y=>OutO (if M.mine id=true∨kdI id=0 then some buf0 else none) y.1 y.2)) ((fun y=>[(b12,.cells (SmM.cells ⟨id,if M.mine id=true∨kdI id=0 then 1 else 0,0,none,none,giv0,if M.mine id=true∨kdI id=0 then got0.raise g else got0,0,0,false,0,false,false,false⟩ ⟨none,y.1⟩).toArray 55 (0,0))]::y.2::([(b,.cells (M.cells p).toArray 73 (0,0))]++(cm++(cr0++(cr1++cs))))::F)) ?_ ?_
 ·refine cw_seq ?_
  refine cw_region<|qm<|qm ?_
  refine ow_dec 20 rfl (fun hc20=>?_) (fun hc20=>?_)
  refine qk<|qv (v_pick_true rfl rfl)<|qt<|cw_true rfl<|qs<|qm<|qn<|qf Ty.fd55_1<|ow_store1 rfl rfl rfl rfl Ty.sc47 .here (SetN.one zdn)<|qt<|qs<|qm ?_
  (refine ow_call rfl rfl rfl rfl (newOut_c) ?_;rintro _ _ ⟨x27,rfl,hq27,rfl⟩)
  refine qn<|qf Ty.fd55_4<|ow_store1 rfl rfl rfl rfl Ty.sc49 (.there .here) (SetN.one zdn)<|qt<|cw_region<|qm<|qm<|qn<|qf Ty.fd55_6 ?_
  refine ow_val rfl rfl (v_load rfl (Var.atN Ty.ag53 (.there .here) ((GetN.mid (vs:=got0.cells) rfl)) zra)) ?_
  refine qm<|qv (v_call rfl rfl (gotRaise_c))<|qn<|qf Ty.fd55_6 ?_
  refine ow_storeN rfl rfl rfl Ty.ag53 zra zao (.there .here) ((SetN.mid (l':=SmM.cells ⟨id,1,0,none,none,giv0,got0.raise g,0,0,false,0,false,false,false⟩ ⟨none,some ⟨x27.1,0,none⟩⟩) (Nat.le_of_ble_eq_true rfl) rfl)) ?_
  refine ow_nil ?_
  rotate_left
  refine qm<|qv (v_pick_false rfl rfl)<|qt ?_
  refine cw_dec rfl (fun hc22=>?_) (fun hc22=>?_)
  refine qs<|qm<|qn<|qf Ty.fd55_1<|ow_store1 rfl rfl rfl rfl Ty.sc47 .here (SetN.one zdn)<|qt<|qs<|qm ?_
  (refine ow_call rfl rfl rfl rfl (newOut_c) ?_;rintro _ _ ⟨x27,rfl,hq27,rfl⟩)
  refine qn<|qf Ty.fd55_4<|ow_store1 rfl rfl rfl rfl Ty.sc49 (.there .here) (SetN.one zdn)<|qt<|cw_region<|qm<|qm<|qn<|qf Ty.fd55_6 ?_
  refine ow_val rfl rfl (v_load rfl (Var.atN Ty.ag53 (.there .here) ((GetN.mid (vs:=got0.cells) rfl)) zra)) ?_
  refine qm<|qv (v_call rfl rfl (gotRaise_c))<|qn<|qf Ty.fd55_6 ?_
  refine ow_storeN rfl rfl rfl Ty.ag53 zra zao (.there .here) ((SetN.mid (l':=SmM.cells ⟨id,1,0,none,none,giv0,got0.raise g,0,0,false,0,false,false,false⟩ ⟨none,some ⟨x27.1,0,none⟩⟩) (Nat.le_of_ble_eq_true rfl) rfl)) ?_
  refine ow_nil ?_
  rotate_left
  refine cw_skip ?_
  rotate_left
  ·have hs:M.mine id=true∨kdI id=0:=.inl (decide_eq_true hc20)
   simp only[if_pos hs]
   exact xw_joint ((some ⟨x27.1,0,none⟩,x27.2):Option Addr×Hp) ⟨x27.1,rfl,hq27⟩ zcov zenv
  ·have hs:M.mine id=true∨kdI id=0:=.inr hc22
   simp only[if_pos hs]
   exact xw_joint ((some ⟨x27.1,0,none⟩,x27.2):Option Addr×Hp) ⟨x27.1,rfl,hq27⟩ zcov zenv
  ·have hs:¬(M.mine id=true∨kdI id=0):=fun h=>h.elim (fun h=>hc20 (of_decide_eq_true h)) hc22
   simp only[if_neg hs]
   exact xw_joint ((none,[]):Option Addr×Hp) ⟨rfl,rfl⟩ zcov zenv
 rintro⟨op,co⟩ hO
 generalize hsd:(if M.mine id=true∨kdI id=0 then (1:Int) else 0)=sd
 generalize hgt:(if M.mine id=true∨kdI id=0 then got0.raise g else got0)=gt
 generalize hou:(if M.mine id=true∨kdI id=0 then some buf0 else none)=ou at hO
 dsimp only at hO⊢
 refine cw_cut2 (ι:=((Option Addr×Hp))) [(0,_),(1,_),(6,_),(7,_)] ⟨rfl,rfl,rfl,rfl,trivial⟩ ((fun _=>[])) ((fun y=>InO (if M.mine id=false∨kdI id=0 then some in0 else none) y.1 y.2)) ((fun y=>[(b12,.cells (SmM.cells ⟨id,sd,if M.mine id=false∨kdI id=0 then 1 else 0,none,none,if M.mine id=false∨kdI id=0 then GivM.new (M.grants id) else giv0,gt,0,0,false,0,false,false,false⟩ ⟨y.1,op⟩).toArray 55 (0,0))]::y.2::co::([(b,.cells (M.cells p).toArray 73 (0,0))]++(cm++(cr0++(cr1++cs))))::F)) ?_ ?_
 ·refine cw_seq ?_
  refine cw_region<|qm<|qv (v_not rfl)<|qm ?_
  refine ow_dec 41 rfl (fun hc41=>?_) (fun hc41=>?_)
  refine qk<|qv (v_pick_true rfl rfl)<|qt<|cw_true rfl<|qs<|qm<|qn<|qf Ty.fd55_2<|ow_store1 rfl rfl rfl rfl Ty.sc47 .here (SetN.one zdn)<|qt<|qs<|qm ?_
  (refine ow_call rfl rfl rfl rfl (newIn_c) ?_;rintro _ _ ⟨x48,rfl,hq48,rfl⟩)
  refine qn<|qf Ty.fd55_3<|ow_store1 rfl rfl rfl rfl Ty.sc48 (.there .here) (SetN.one zdn)<|qt<|cw_region<|qm<|qm<|qm ?_
  refine ow_val rfl rfl (v_call rfl rfl (grants_c hM' zhas hid)) ?_
  refine qv (v_call rfl rfl (givNew_c zom))<|qn<|qf Ty.fd55_5 ?_
  refine ow_storeN rfl rfl rfl Ty.ag51 zra zao (.there .here) ((SetN.mid (l':=SmM.cells ⟨id,sd,1,none,none,GivM.new (M.grants id),gt,0,0,false,0,false,false,false⟩ ⟨some ⟨x48.1,0,none⟩,op⟩) (Nat.le_of_ble_eq_true rfl) rfl)) ?_
  refine ow_nil ?_
  rotate_left
  refine qm<|qv (v_pick_false rfl rfl)<|qt ?_
  refine cw_dec rfl (fun hc43=>?_) (fun hc43=>?_)
  refine qs<|qm<|qn<|qf Ty.fd55_2<|ow_store1 rfl rfl rfl rfl Ty.sc47 .here (SetN.one zdn)<|qt<|qs<|qm ?_
  (refine ow_call rfl rfl rfl rfl (newIn_c) ?_;rintro _ _ ⟨x48,rfl,hq48,rfl⟩)
  refine qn<|qf Ty.fd55_3<|ow_store1 rfl rfl rfl rfl Ty.sc48 (.there .here) (SetN.one zdn)<|qt<|cw_region<|qm<|qm<|qm ?_
  refine ow_val rfl rfl (v_call rfl rfl (grants_c hM' zhas hid)) ?_
  refine qv (v_call rfl rfl (givNew_c zom))<|qn<|qf Ty.fd55_5 ?_
  refine ow_storeN rfl rfl rfl Ty.ag51 zra zao (.there .here) ((SetN.mid (l':=SmM.cells ⟨id,sd,1,none,none,GivM.new (M.grants id),gt,0,0,false,0,false,false,false⟩ ⟨some ⟨x48.1,0,none⟩,op⟩) (Nat.le_of_ble_eq_true rfl) rfl)) ?_
  refine ow_nil ?_
  rotate_left
  refine cw_skip ?_
  rotate_left
  ·have hs:M.mine id=false∨kdI id=0:=.inl (by simpa [SsM.mine] using hc41)
   simp only[if_pos hs]
   exact xw_joint ((some ⟨x48.1,0,none⟩,x48.2):Option Addr×Hp) ⟨x48.1,rfl,hq48⟩ zcov zenv
  ·have hs:M.mine id=false∨kdI id=0:=.inr hc43
   simp only[if_pos hs]
   exact xw_joint ((some ⟨x48.1,0,none⟩,x48.2):Option Addr×Hp) ⟨x48.1,rfl,hq48⟩ zcov zenv
  ·have hs:¬(M.mine id=false∨kdI id=0):=fun h=>h.elim (fun h=>by simp[SsM.mine]at h;simp[h]at hc41) hc43
   simp only[if_neg hs]
   exact xw_joint ((none,[]):Option Addr×Hp) ⟨rfl,rfl⟩ zcov zenv
 rintro⟨ip,ci⟩ hI
 dsimp only at hI⊢
 subst hsd hgt hou
 refine cw_seq<|qs<|qm<|qn<|qf Ty.fd73_5<|ql (Var.get1 Ty.sc68 (.there (.there (.there .here))) (.head _) (GetN.lit rfl))<|qv (v_eql_mapnil Tryz.underlying68 rfl)<|qt<|cw_false rfl<|cw_skip<|xw_then<|qs ?_
 refine qm<|qn<|qf Ty.fd73_5<|ql (Var.get1 Ty.sc68 (.there (.there (.there .here))) (.head _) (GetN.lit rfl))<|qm<|qm ?_
 ·refine ow_open4 ?_
  refine ow_mapUpdateG (kd:=.u64) (c:=cm) rfl Tryz.underlying68 Tryz.underlying27 rfl rfl rfl zsel hMp ?_
  intro cm' hMp'
  refine qt<|qs<|qm<|qa<|qt<|cw_ret<|ret1 rfl (res_tmp rfl) ?_
  exact⟨(b12,[(b,.cells (M.cells p).toArray 73 (0,0))]++(cm'++(cr0++(cr1++(cs++([(b12,.cells (SmM.cells ⟨id,if M.mine id=true∨kdI id=0 then 1 else 0,if M.mine id=false∨kdI id=0 then 1 else 0,none,none,if M.mine id=false∨kdI id=0 then GivM.new (M.grants id) else giv0,if M.mine id=true∨kdI id=0 then got0.raise g else got0,0,0,false,0,false,false,false⟩ ⟨ip,op⟩).toArray 55 (0,0))]++(ci++co))))))),rfl,⟨p,cm',cr0,cr1,cs++([(b12,.cells (SmM.cells ⟨id,if M.mine id=true∨kdI id=0 then 1 else 0,if M.mine id=false∨kdI id=0 then 1 else 0,none,none,if M.mine id=false∨kdI id=0 then GivM.new (M.grants id) else giv0,if M.mine id=true∨kdI id=0 then got0.raise g else got0,0,0,false,0,false,false,false⟩ ⟨ip,op⟩).toArray 55 (0,0))]++(ci++co)),rfl,hMp'.congr fun j=>(ptrOf_snoc (x:=M.fresh id g) (p:=b12) hn hS.len).symm,hR0,hR1,hS.snoc ⟨⟨ip,op⟩,ci,co,rfl,hI,hO⟩⟩,zcov⟩
end Go.Proofs.YtnlaffkihohfkaaGreat
namespace Go.Proofs.YtnlaffkihohfkaaGreat
open Go Go.Sl Go.Proofs
variable {B:Nat}{w0:World}{G:List Hp}{R:Hp→List Hp}
def SsM.rn (M:SsM)(k:Int):List RunM:=if k=0 then M.r0 else M.r1
def SsM.setR (M:SsM)(k:Int)(rs:List RunM):SsM:=if k=0 then {M with r0:=rs} else {M with r1:=rs}
def SsM.touch (M:SsM)(id:Int):SsM:=if idxS M.str id=none then M.add (M.fresh id (M.granted id)) else M
def SsM.setS (M:SsM)(i:Nat)(x:SmM):SsM:={M with str:=M.str.set i x}
def SsM.nextId (M:SsM)(k:Int):Int:=idOf M.cl true k (M.kn k).op
def SsM.opened (M:SsM)(k:Int):SsM:=let N:=M.setK k {M.kn k with op:=(M.kn k).op+1};N.add (N.fresh (M.nextId k) (N.granted (M.nextId k)))
def SsM.reached (M:SsM)(id:Int):SsM:=(M.setR (kdI id) (M.rn (kdI id)++[⟨(M.kd id).came,cnI id+1,M.granted id⟩])).setK (kdI id) {M.kd id with came:=cnI id+1}
def SmM.isDone (x:SmM)(mine:Bool):Prop:=x.counted=false∧mine=false∧finalS x.send=true∧finalS x.recv=true
instance {x:SmM}{m:Bool}:Decidable (x.isDone m):=by unfold SmM.isDone;infer_instance
def SsM.settle (M:SsM)(i:Nat)(x:SmM):SsM:=
 if x.isDone (M.mine x.id) then (M.setS i {x with counted:=true}).setK (kdI x.id) {M.kd x.id with giv:=(M.kd x.id).giv+1} else M.setS i x
def SsM.roomE (M:SsM)(x:SmM)(n:Int):Int:=if x.giv.useE n≠0 then 14 else if M.giv.useE n≠0 then 14 else 0
def SsM.use (M:SsM)(i:Nat)(x:SmM)(n:Int):SsM:={M with str:=M.str.set i {x with giv:=x.giv.use n},giv:=M.giv.use n}
structure FsM where
 k:Int
 id:Int
 off:Int
 lim:Int
 code:Int
 data:List UInt8
 fin:Bool
def fs0 (id:Int):FsM:=⟨0,id,0,0,0,[],false⟩
def fsT:List Value:=[.slice none 0 0,.int .u64 0,.int .u64 0,.int .u64 0,.int .u64 0,.int .u64 0,.int .u64 0,.slice none 0 0,.int .u8 0,.int .u8 0,.int .u8 0,.int .u8 0,.int .u8 0,.int .u8 0,.int .u8 0,.int .u8 0,.int .u8 0,.int .u8 0,.int .u8 0,.int .u8 0,.int .u8 0,.int .u8 0,.int .u8 0,.int .u8 0,.int .u8 0,.int .u8 0,.int .u8 0,.int .u8 0,.int .u8 0,.int .u8 0,.int .u8 0,.int .u8 0]
def FsM.cells (f:FsM)(ao:Option Addr)(cap:Nat):List Value:=.int .u8 f.k::.int .u64 f.id::.int .u64 f.off::.int .u64 f.lim::.int .u64 f.code::.slice ao f.data.length cap::.bool f.fin::fsT
theorem FsM.len {f:FsM}{ao:Option Addr}{cap:Nat}:(f.cells ao cap).length=39:=rfl
theorem FsM.one {f:FsM}{ao:Option Addr}{cap:Nat}:∀u∈f.cells ao cap,u.oneCell'=true:=allOne (l:=f.cells ao cap) rfl
def SmM.data (x:SmM)(m:InM)(f:FsM):SmM:={x with inn:=some (m.add f.off f.data f.fin)}
def SmM.dataG (x:SmM)(m:InM)(f:FsM):SmM:={x with inn:=some (m.add f.off f.data f.fin),giv:=x.giv.use (m.more (f.off+f.data.length))}
def SmM.dataE (x:SmM)(m:InM)(f:FsM):SmM:={x with inn:=some (m.add f.off f.data f.fin),giv:=x.giv.use (m.more (f.off+f.data.length)),recv:=if (m.add f.off f.data f.fin).known=true then 2 else x.recv}
def SsM.data (M:SsM)(i:Nat)(x:SmM)(m:InM)(f:FsM):SsM:={M with str:=M.str.set i (x.dataE m f),giv:=M.giv.use (m.more (f.off+f.data.length))}
def SmM.rst1 (x:SmM)(m:InM)(f:FsM):SmM:={x with inn:=some (m.stop f.lim)}
def SmM.rst2 (x:SmM)(m:InM)(f:FsM):SmM:={x with inn:=some (m.stop f.lim),giv:=x.giv.use (m.more f.lim)}
def SmM.rstE (x:SmM)(m:InM)(f:FsM):SmM:={x with inn:=some (m.stop f.lim),giv:=x.giv.use (m.more f.lim),recv:=4,code:=f.code,stops:=false}
def SsM.rst (M:SsM)(i:Nat)(x:SmM)(m:InM)(f:FsM):SsM:={M with str:=M.str.set i (x.rstE m f),giv:=(M.giv.use (m.more f.lim)).take (f.lim-(m.stop f.lim).read)}
def SsM.spend (M:SsM)(i:Nat)(x:SmM)(stop:Int):SsM:=if stop≤x.got.used then M.setS i x else {M with str:=M.str.set i {x with got:=x.got.use (stop-x.got.used)},got:=M.got.use (stop-x.got.used)}
theorem SsM.kd_kn {M:SsM}{id:Int}:M.kd id=M.kn (kdI id):=rfl
theorem idxS_some {xs:List SmM}{k:Int}{i:Nat}(hn:(xs.map (·.id)).Nodup)(hi:i<xs.length)(hk:xs[i].id=k):idxS xs k=some i:=by
 refine List.findIdx?_eq_some_iff_getElem.2 ⟨hi,by simpa using hk,fun j hj=>?_⟩
 have h1:j<xs.length:=by omega
 have h2:=List.pairwise_iff_getElem.1 hn j i (by simpa using h1) (by simpa using hi) hj
 simp only[List.getElem_map,hk]at h2
 simpa using h2
theorem SsM.touch_str {M:SsM}{id:Int}:∃i x,idxS (M.touch id).str id=some i∧(M.touch id).str[i]?=some x∧x.id=id:=by
 unfold SsM.touch
 cases h:idxS M.str id with
 |none=>
  rw[if_pos rfl]
  refine⟨M.str.length,M.fresh id (M.granted id),?_,by simp[SsM.add],rfl⟩
  exact(idxS_snoc (x:=M.fresh id (M.granted id)) (k:=id) h).trans (if_pos rfl)
 |some i=>
  rw[if_neg (by simp)]
  obtain⟨hi,h1⟩:=idxS_lt h
  exact⟨i,M.str[i],h,List.getElem?_eq_getElem hi,h1⟩
theorem idxS_set {xs:List SmM}{i:Nat}{x x':SmM}(h:xs[i]?=some x)(hid:x'.id=x.id)(k:Int):idxS (xs.set i x') k=idxS xs k:=by
 unfold idxS
 induction xs generalizing i with
 |nil=>rfl
 |cons a xs ih=>
  cases i with
  |zero=>
   simp only[List.getElem?_cons_zero,Option.some.injEq]at h
   subst h
   simp only[List.set_cons_zero,List.findIdx?_cons,hid]
  |succ i=>
   simp only[List.getElem?_cons_succ]at h
   simp only[List.set_cons_succ,List.findIdx?_cons,ih h]
theorem SsAt.open {M:SsM}{ps:List Nat}{b:Nat}{c:Hp}{i:Nat}{x:SmM}(h:SsAt M ps b c)(hi:M.str[i]?=some x):
  ∃(p:SsP) (q:SmP) (ci co cr:Hp),(∀z,cnt z c=cnt z [(b,Obj.cells (M.cells p).toArray 73 (0,0))]+(cnt z [(ps.getD i 0,Obj.cells (x.cells q).toArray 55 (0,0))]+(cnt z ci+(cnt z co+cnt z cr))))∧InO x.inn q.ip ci∧OutO x.out q.op co∧
   ∀(M':SsM) (x':SmM) (q':SmP) (ci' co':Hp),M'.str=M.str.set i x'→M'.r0=M.r0→M'.r1=M.r1→x'.id=x.id→InO x'.inn q'.ip ci'→OutO x'.out q'.op co'→
    ∃c',SsAt M' ps b c'∧∀z,cnt z c'=cnt z [(b,Obj.cells (M'.cells p).toArray 73 (0,0))]+(cnt z [(ps.getD i 0,Obj.cells (x'.cells q').toArray 55 (0,0))]+(cnt z ci'+(cnt z co'+cnt z cr))):=by
 obtain⟨p,cm,cr0,cr1,cs,rfl,hMp,hR0,hR1,hS⟩:=h
 obtain⟨hl,he⟩:=List.getElem?_eq_some_iff.1 hi
 obtain⟨cx,cr,h1,⟨q,ci,co,rfl,hI,hO⟩,h3⟩:=hS.focus hl
 rw[he]at hI hO h1
 refine⟨p,q,ci,co,cr++(cm++(cr0++cr1)),fun z=>?_,hI,hO,fun M' x' q' ci' co' g1 g2 g3 g4 g5 g6=>?_⟩
 ·have:=h1 z
  simp only[cnt_append]at this⊢
  omega
 ·obtain⟨c',h4,h5⟩:=h3 x' ([(ps.getD i 0,Obj.cells (x'.cells q').toArray 55 (0,0))]++(ci'++co')) ⟨q',ci',co',rfl,g5,g6⟩
  refine⟨[(b,Obj.cells (M'.cells p).toArray 73 (0,0))]++(cm++(cr0++(cr1++c'))),⟨p,cm,cr0,cr1,c',rfl,?_,?_,?_,?_⟩,fun z=>?_⟩
  ·rw[g1]
   refine hMp.congr fun k=>?_
   unfold ptrOf
   rw[idxS_set hi g4]
  ·rw[g2];exact hR0
  ·rw[g3];exact hR1
  ·rw[g1];exact h4
  ·have:=h5 z
   simp only[cnt_append]at this⊢
   omega
end Go.Proofs.YtnlaffkihohfkaaGreat
namespace Go.Proofs.YtnlaffkihohfkaaGreat
open Go Go.Sl Go.Proofs
variable {B:Nat}{w0:World}{G:List Hp}{R:Hp→List Hp}
instance:Inhabited RunM:=⟨⟨0,0,0⟩⟩
def runAt (rs:List RunM)(n:Int):Nat:=rs.findIdx fun r=>decide (n<r.b)
theorem runAt_lo {rs:List RunM}{n:Int}:∀i,i<runAt rs n→decide (n<rs[i]!.b)=false:=fun i hi=>by
 have h1:i<rs.length:=Nat.lt_of_lt_of_le hi List.findIdx_le_length
 rw[getElem!_pos rs i h1]
 exact Bool.eq_false_iff.2 (by simpa using List.not_of_lt_findIdx hi)
theorem runAt_hi {rs:List RunM}{n:Int}(h:rs.Pairwise fun x y=>x.b≤y.b):∀i,runAt rs n≤i→i<rs.length→decide (n<rs[i]!.b)=true:=fun i hi hl=>by
 rw[getElem!_pos rs i hl]
 have h1:runAt rs n<rs.length:=by omega
 have h2:decide (n<rs[runAt rs n].b)=true:=List.findIdx_getElem (w:=h1)
 have h2:=of_decide_eq_true h2
 refine decide_eq_true ?_
 by_cases he:runAt rs n=i
 ·have h3:rs[runAt rs n].b=rs[i].b:=by congr 1;simp only[he]
  omega
 ·have:=List.pairwise_iff_getElem.1 h (runAt rs n) i h1 hl zom
  omega
theorem runAt_lt {rs:List RunM}{n came g:Int}(h:RunsOK rs came g)(h0:0≤n)(hn:n<came):runAt rs n<rs.length:=by
 obtain⟨r,hr,hb⟩:=h.last zom
 exact List.findIdx_lt_length_of_exists ⟨r,hr,decide_eq_true zom⟩
theorem get1_c {rs:List RunM}{b1 b2 i:Nat}{c:Hp}{n:Int}{ao:Option Addr}{cap:Nat}(hs:Sub c G)(hV:Ls enRn 103 (.slice ao rs.length cap) c rs)(h1:Sub [(b1,.cells [Value.int .u64 n].toArray 27 (0,0))] G)(h2:Sub [(b2,.cells [Value.slice ao rs.length cap].toArray 69 (0,0))] G)(hi:i<rs.length):
  Go.Sl.Fn Tryz.prog 43 #[.int .i64 i,.pointer (some ⟨b1,0,none⟩),.pointer (some ⟨b2,0,none⟩)] B w0 G fun u G'=>u=.bool (decide (n<rs[i]!.b))∧G'=G:=by
 refine Fn.pure ?_
 rw[getElem!_pos rs i hi]
 refine fn_enter Tryz.func43 rfl (by kernel_rfl) Tryz.ntmps43 (by simp) ?_
 refine qs<|qa<|qt<|cw_seq<|cw_quiet Ty.mixed zdk<|kv (v_load rfl (Var.sub1 Ty.sc27 zthr (.head _) (GetN.lit rfl)))<|kv (v_load rfl (Var.sub1 Ty.sc69 zthr (.head _) (GetN.lit rfl)))<|kmv ?_
 refine kw_val rfl rfl (v_indexAddr_ls Tryz.underlying69 (rnTy) rfl rfl zas rfl zom) ?_
 refine kv (v_fieldAddr Ty.fd103_1 rfl)<|kv (v_load rfl (Go.Sl.Vw.fld1 (rnTy) Ty.sc27 (hV.vw hs) zom rfl))<|kv (v_lss rfl rfl)<|kv (v_assign rfl)<|kw_nil<|xw_then<|cw_ret<|ret1 rfl (res_tmp rfl) ?_
 exact⟨rfl,zcov⟩
theorem v_made {N:Nat}{B:Nat}{w0:World}{G:List Hp}{E:Env}{ty:TypeId}{x y:Operand}{b:Nat}{k:Int}{f:Int→Option Value}{c:Hp}{v:Value}(hx:Env.ev E x=some (.map (some b)))(hy:Env.ev E y=some (.int .u64 k))(hs:Sub c G)(hM:MapG .u64 f b c)(hf:(f k).getD (.pointer none)=v):OpV Tryz.prog (St B w0 G) N E (.lookup 68 x y false) ty v:=by
 have h1:=v_lookupM0 (P:=Tryz.prog) (N:=N) (B:=B) (w0:=w0) (ty:=ty) Tryz.underlying68 Tryz.underlying27 (z:=.pointer none) (fun w=>by kernel_rfl) hx hy hs hM.f
 rw[hf]at h1
 exact h1
theorem kindK_c {id k:Int}(hk:kdI id=k)(h:0≤id∧id≤18446744073709551615):
  Go.Sl.Fn Tryz.prog 40 #[.int .u64 id] B w0 G fun u G'=>u=.int .i64 k∧G'=G:=by
 subst hk
 exact kind_c h
theorem get_has_c {M:SsM}{ps:List Nat}{b:Nat}{c:Hp}{id:Int}(hsel:Sel G c R)(hM:SsAt M ps b c)(hw:M.WF)(hid:0≤id∧id≤18446744073709551615)(hh:M.has id):
  Go.Sl.Fn Tryz.prog 14 #[.pointer (some ⟨b,0,none⟩),.int .u64 id] B w0 G fun u G'=>∃y:Nat×List Nat×Hp,u=.pointer (some ⟨y.2.1.getD y.1 0,0,none⟩)∧(idxS (M.touch id).str id=some y.1∧SsAt (M.touch id) y.2.1 b y.2.2)∧G'=R y.2.2:=by
 refine Fn.sel0 hsel fun F hR hF=>?_
 have hM':=hM
 obtain⟨p,cm,cr0,cr1,cs,rfl,hMp,hR0,hR1,hS⟩:=hM
 have hsm:Sub cm (([(b,Obj.cells (M.cells p).toArray 73 (0,0))]++(cm++(cr0++(cr1++cs))))::F):=Sub.here.right.left
 cases hx:idxS M.str id with
 |some i=>
  have ht:M.touch id=M:=by
   unfold SsM.touch
   rw[if_neg (by simp[hx])]
  have hl:(ptrOf M.str ps id).getD (.pointer none)=.pointer (some ⟨ps.getD i 0,0,none⟩):=by
   unfold ptrOf
   rw[hx]
   rfl
  refine fn_enter Tryz.func14 rfl (by kernel_rfl) Tryz.ntmps14 (by simp) ?_
  refine qs<|qa<|qt<|cw_seq<|qs<|qm ?_
  refine qv (v_eql_nil_some Tryz.underlying35 rfl)<|qt ?_
  refine cw_false rfl<|cw_skip<|xw_then<|cw_seq ?_
  refine qs<|qm<|qn ?_
  refine qf Ty.fd73_5 ?_
  refine ql (Var.get1 Ty.sc68 .here (.head _) (GetN.lit rfl))<|qm ?_
  refine qv ((v_made rfl rfl hsm hMp hl))<|qa<|qt<|qs<|qm ?_
  refine qv (v_neq_nil_some Tryz.underlying45 rfl) ?_
  refine qt ?_
  refine cw_true rfl<|qs<|qm<|qa<|qt ?_
  refine cw_ret ?_
  refine xw_then_ret ?_
  refine ret1 rfl (res_tmp rfl) ?_
  rw[ht]
  exact⟨(i,ps,_),rfl,⟨hx,hM'⟩,zcov⟩
 |none=>
  have hl:(ptrOf M.str ps id).getD (.pointer none)=.pointer none:=by
   unfold ptrOf
   rw[hx]
   rfl
  have ht:M.touch id=M.add (M.fresh id (M.granted id)):=by
   unfold SsM.touch
   rw[if_pos hx]
  have hm:M.mine id=false:=by
   cases h:M.mine id with
   |false=>rfl
   |true=>
    obtain⟨i,hi⟩:=hw.mn id hh.1 h (by have:=hh.2;rw[if_pos h]at this;exact this)
    rw[hx]at hi
    cases hi
  have hc:cnI id<(M.kd id).came:=by
   have:=hh.2
   rw[hm]at this
   exact this
  rcases kdI_or (id:=id)with hk|hk
  ·have hn:=hw.n0
   have hkd:M.kd id=M.k0:=by
    unfold SsM.kd
    rw[if_pos hk]
   have hc':id/4<M.k0.came:=by
    rw[hkd]at hc
    exact hc
   have hlt:=runAt_lt hw.r0 (n:=id/4) zom hc'
   have hg:M.r0[runAt M.r0 (id/4)].g=M.granted id:=by
    rw[hw.r0.got _ (List.getElem_mem hlt)]
    unfold SsM.granted
    rw[if_neg zom,hm];rfl
   have hgb:=granted_b (id:=id) hw.their
   have e1:(M.kd id).came=M.k0.came:=by rw[hkd]
   have hod:¬decide (oddI id=0)=M.cl:=fun h=>by
    unfold SsM.mine at hm
    rw[decide_eq_true h]at hm
    cases hm
   have hs0:Sub cr0 (([(b,Obj.cells (M.cells p).toArray 73 (0,0))]++(cm++(cr0++(cr1++cs))))::F):=Sub.here.right.right.left
   refine fn_enter Tryz.func14 rfl (by kernel_rfl) Tryz.ntmps14 (by simp) ?_
   refine qs<|qa<|qt<|cw_seq<|qs<|qm ?_
   refine qv (v_eql_nil_some Tryz.underlying35 rfl)<|qt ?_
   refine cw_false rfl<|cw_skip<|xw_then<|cw_seq ?_
   refine qs<|qm<|qn ?_
   refine qf Ty.fd73_5 ?_
   refine ql (Var.get1 Ty.sc68 .here (.head _) (GetN.lit rfl))<|qm ?_
   refine qv ((v_made rfl rfl hsm hMp hl))<|qa<|qt<|qs<|qm ?_
   refine qv (v_neq_nil_none Tryz.underlying45 rfl) ?_
   refine qt ?_
   refine cw_false rfl<|cw_skip<|xw_then<|qs<|qm ?_
   refine qv (v_call rfl rfl (kindK_c hk hid))<|qm ?_
   refine ow_val rfl rfl (v_shrP (p:=4) rfl rfl zom (by decide) zom (by decide)) ?_
   refine ow_alloc rfl rfl Ty.ze27 fun b7=>qa ?_
   refine ow_store1 rfl rfl rfl rfl Ty.sc27 .here (SetN.one zdn)<|qt<|cw_seq<|cw_seq ?_
   refine cw_quiet Ty.mixed zdk ?_
   refine kmv ?_
   refine kmv ?_
   refine kw_val rfl rfl (v_call rfl rfl (mine_c hM' zhas hid)) ?_
   refine kmv ?_
   refine kw_dec 28 rfl (fun hc28=>?_) (fun hc28=>?_)
   refine kk ?_
   refine kk ?_
   refine kk ?_
   refine kk ?_
   refine kk ?_
   refine kk ?_
   refine kk ?_
   refine kk ?_
   refine kv (v_pick_true rfl rfl) ?_
   refine kw_nil<|xw_then ?_
   refine cw_true rfl ?_
   refine qs<|qa<|qt ?_
   refine cw_ret ?_
   refine xw_then_ret ?_
   refine ret1 rfl (res_tmp rfl) ?_
   rotate_left
   refine kv (v_load rfl (Var.at1 Ty.sc27 .here (GetN.lit rfl))) ?_
   refine kmv ?_
   refine kmv ?_
   refine kv (v_nilCheck rfl) ?_
   refine kv (v_fieldAddr0 Ty.fd73_9 rfl) ?_
   refine kv (v_indexAddrA Tryz.underlying71 Ty.el71 rfl rfl (Int.toNat_of_nonneg zom).symm zom) ?_
   refine kv (v_load rfl (Var.get1 Ty.sc27 (.there .here) (.head _) (GetN.lit rfl))) ?_
   refine kv (v_geq rfl rfl) ?_
   refine kv (v_pick_false rfl rfl) ?_
   refine kw_nil<|xw_then ?_
   refine cw_dec rfl (fun hc37=>?_) (fun hc37=>?_)
   (exfalso;omega)
   refine cw_skip<|xw_then<|qs<|qm<|qm<|qn ?_
   refine qf Ty.fd73_6 ?_
   refine qv (v_indexAddrA Tryz.underlying70 Ty.el70 rfl rfl (Int.toNat_of_nonneg zom).symm zom) ?_
   refine ql (Var.get1 Ty.sc69 (.there .here) (.head _) (GetN.lit rfl)) ?_
   refine ow_alloc rfl rfl Ty.ze69 fun b8=>?_
   refine ow_store1 rfl rfl rfl rfl Ty.sc69 .here (SetN.one zdn)<|qt ?_
   refine qs ?_
   refine ql (Var.at1 Ty.sc69 .here (GetN.lit rfl)) ?_
   refine qv (v_len rfl Tryz.underlying69 rfl) ?_
   refine qv (v_makeFunc rfl rfl) ?_
   refine ow_val rfl rfl (v_call rfl rfl (search_c (k:=runAt M.r0 (id/4)) (p:=fun i=>decide (id/4<M.r0[i]!.b)) zom List.findIdx_le_length runAt_lo (runAt_hi hw.r0.up) (fun i hi=>get1_c zhas hR0 zhas zhas hi))) ?_
   refine qa<|qt<|qs<|qm<|qm ?_
   refine ql (Var.at1 Ty.sc69 .here (GetN.lit rfl))<|qm ?_
   refine ow_val rfl rfl (v_indexAddr_ls Tryz.underlying69 (rnTy) rfl rfl zas rfl zom) ?_
   refine qv (v_fieldAddr Ty.fd103_2 rfl) ?_
   refine ql (Go.Sl.Vw.fld1 (rnTy) Ty.sc27 (hR0.vw hs0.there.there) zom rfl) ?_
   (refine ow_call rfl rfl rfl rfl (create_c zsel hM' hw.own hx hid zom) ?_;rintro _ _ ⟨x55,rfl,hq55,rfl⟩)
   refine qa<|qt ?_
   refine cw_ret ?_
   refine ret1 rfl (res_tmp rfl) ?_
   rotate_left
   ·exact absurd hc28 hod
   ·rw[hg]at hq55
    rw[ht]
    exact⟨(M.str.length,ps++[x55.1],x55.2),by rw[getD_right (by have:=hS.len;omega),hS.len,Nat.sub_self];rfl,⟨(idxS_snoc (x:=M.fresh id (M.granted id)) (k:=id) hx).trans (if_pos rfl),hq55⟩,zcov⟩
  ·have hn:=hw.n1
   have hkd:M.kd id=M.k1:=by
    unfold SsM.kd
    rw[if_neg zom]
   have hc':id/4<M.k1.came:=by
    rw[hkd]at hc
    exact hc
   have hlt:=runAt_lt hw.r1 (n:=id/4) zom hc'
   have hg:M.r1[runAt M.r1 (id/4)].g=M.granted id:=by
    rw[hw.r1.got _ (List.getElem_mem hlt)]
    unfold SsM.granted
    rw[if_pos hk]
   have hgb:=granted_b (id:=id) hw.their
   have e1:(M.kd id).came=M.k1.came:=by rw[hkd]
   have hod:¬decide (oddI id=0)=M.cl:=fun h=>by
    unfold SsM.mine at hm
    rw[decide_eq_true h]at hm
    cases hm
   have hs0:Sub cr1 (([(b,Obj.cells (M.cells p).toArray 73 (0,0))]++(cm++(cr0++(cr1++cs))))::F):=Sub.here.right.right.right.left
   refine fn_enter Tryz.func14 rfl (by kernel_rfl) Tryz.ntmps14 (by simp) ?_
   refine qs<|qa<|qt<|cw_seq<|qs<|qm ?_
   refine qv (v_eql_nil_some Tryz.underlying35 rfl)<|qt ?_
   refine cw_false rfl<|cw_skip<|xw_then<|cw_seq ?_
   refine qs<|qm<|qn ?_
   refine qf Ty.fd73_5 ?_
   refine ql (Var.get1 Ty.sc68 .here (.head _) (GetN.lit rfl))<|qm ?_
   refine qv ((v_made rfl rfl hsm hMp hl))<|qa<|qt<|qs<|qm ?_
   refine qv (v_neq_nil_none Tryz.underlying45 rfl) ?_
   refine qt ?_
   refine cw_false rfl<|cw_skip<|xw_then<|qs<|qm ?_
   refine qv (v_call rfl rfl (kindK_c hk hid))<|qm ?_
   refine ow_val rfl rfl (v_shrP (p:=4) rfl rfl zom (by decide) zom (by decide)) ?_
   refine ow_alloc rfl rfl Ty.ze27 fun b7=>qa ?_
   refine ow_store1 rfl rfl rfl rfl Ty.sc27 .here (SetN.one zdn)<|qt<|cw_seq<|cw_seq ?_
   refine cw_quiet Ty.mixed zdk ?_
   refine kmv ?_
   refine kmv ?_
   refine kw_val rfl rfl (v_call rfl rfl (mine_c hM' zhas hid)) ?_
   refine kmv ?_
   refine kw_dec 28 rfl (fun hc28=>?_) (fun hc28=>?_)
   refine kk ?_
   refine kk ?_
   refine kk ?_
   refine kk ?_
   refine kk ?_
   refine kk ?_
   refine kk ?_
   refine kk ?_
   refine kv (v_pick_true rfl rfl) ?_
   refine kw_nil<|xw_then ?_
   refine cw_true rfl ?_
   refine qs<|qa<|qt ?_
   refine cw_ret ?_
   refine xw_then_ret ?_
   refine ret1 rfl (res_tmp rfl) ?_
   rotate_left
   refine kv (v_load rfl (Var.at1 Ty.sc27 .here (GetN.lit rfl))) ?_
   refine kmv ?_
   refine kmv ?_
   refine kv (v_nilCheck rfl) ?_
   refine kv (v_fieldAddr0 Ty.fd73_9 rfl) ?_
   refine kv (v_indexAddrA Tryz.underlying71 Ty.el71 rfl rfl (Int.toNat_of_nonneg zom).symm zom) ?_
   refine kv (v_load rfl (Var.get1 Ty.sc27 (.there .here) (.head _) (GetN.lit rfl))) ?_
   refine kv (v_geq rfl rfl) ?_
   refine kv (v_pick_false rfl rfl) ?_
   refine kw_nil<|xw_then ?_
   refine cw_dec rfl (fun hc37=>?_) (fun hc37=>?_)
   (exfalso;omega)
   refine cw_skip<|xw_then<|qs<|qm<|qm<|qn ?_
   refine qf Ty.fd73_6 ?_
   refine qv (v_indexAddrA Tryz.underlying70 Ty.el70 rfl rfl (Int.toNat_of_nonneg zom).symm zom) ?_
   refine ql (Var.get1 Ty.sc69 (.there .here) (.head _) (GetN.lit rfl)) ?_
   refine ow_alloc rfl rfl Ty.ze69 fun b8=>?_
   refine ow_store1 rfl rfl rfl rfl Ty.sc69 .here (SetN.one zdn)<|qt ?_
   refine qs ?_
   refine ql (Var.at1 Ty.sc69 .here (GetN.lit rfl)) ?_
   refine qv (v_len rfl Tryz.underlying69 rfl) ?_
   refine qv (v_makeFunc rfl rfl) ?_
   refine ow_val rfl rfl (v_call rfl rfl (search_c (k:=runAt M.r1 (id/4)) (p:=fun i=>decide (id/4<M.r1[i]!.b)) zom List.findIdx_le_length runAt_lo (runAt_hi hw.r1.up) (fun i hi=>get1_c zhas hR1 zhas zhas hi))) ?_
   refine qa<|qt<|qs<|qm<|qm ?_
   refine ql (Var.at1 Ty.sc69 .here (GetN.lit rfl))<|qm ?_
   refine ow_val rfl rfl (v_indexAddr_ls Tryz.underlying69 (rnTy) rfl rfl zas rfl zom) ?_
   refine qv (v_fieldAddr Ty.fd103_2 rfl) ?_
   refine ql (Go.Sl.Vw.fld1 (rnTy) Ty.sc27 (hR1.vw hs0.there.there) zom rfl) ?_
   (refine ow_call rfl rfl rfl rfl (create_c zsel hM' hw.own hx hid zom) ?_;rintro _ _ ⟨x55,rfl,hq55,rfl⟩)
   refine qa<|qt ?_
   refine cw_ret ?_
   refine ret1 rfl (res_tmp rfl) ?_
   rotate_left
   ·exact absurd hc28 hod
   ·rw[hg]at hq55
    rw[ht]
    exact⟨(M.str.length,ps++[x55.1],x55.2),by rw[getD_right (by have:=hS.len;omega),hS.len,Nat.sub_self];rfl,⟨(idxS_snoc (x:=M.fresh id (M.granted id)) (k:=id) hx).trans (if_pos rfl),hq55⟩,zcov⟩
theorem get_none_c {M:SsM}{ps:List Nat}{b:Nat}{c:Hp}{id:Int}(hs:Sub c G)(hM:SsAt M ps b c)(hw:M.WF)(hid:0≤id∧id≤18446744073709551615)(hh:¬M.has id):
  Go.Sl.Fn Tryz.prog 14 #[.pointer (some ⟨b,0,none⟩),.int .u64 id] B w0 G fun u G'=>u=.pointer none∧G'=G:=by
 refine Fn.pure ?_
 have hM':=hM
 obtain⟨p,cm,cr0,cr1,cs,rfl,hMp,hR0,hR1,hS⟩:=hM
 have hs1:=hs.left
 have hs2:=hs.right.left
 have hx:idxS M.str id=none:=by
  cases hx:idxS M.str id with
  |none=>rfl
  |some i=>
   obtain⟨hi,he⟩:=idxS_lt hx
   obtain⟨h1,h2,h3⟩:=hw.ex _ (List.getElem_mem hi)
   rw[he]at h3
   exact absurd ⟨hid.1,h3⟩ hh
 have hl:(ptrOf M.str ps id).getD (.pointer none)=.pointer none:=by
  unfold ptrOf
  rw[hx]
  rfl
 rcases kdI_or (id:=id)with hk|hk
 ·have hkd:M.kd id=M.k0:=by
   unfold SsM.kd
   rw[if_pos hk]
  have hc:M.mine id=false→M.k0.came≤id/4:=fun hm=>by
   refine Int.not_lt.1 fun h=>hh ⟨hid.1,?_⟩
   rw[hm,hkd]
   exact h
  refine fn_enter Tryz.func14 rfl (by kernel_rfl) Tryz.ntmps14 (by simp) ?_
  refine qs<|qa<|qt<|cw_seq<|qs<|qm ?_
  refine qv (v_eql_nil_some Tryz.underlying35 rfl)<|qt ?_
  refine cw_false rfl<|cw_skip<|xw_then<|cw_seq ?_
  refine qs<|qm<|qn ?_
  refine qf Ty.fd73_5 ?_
  refine ql (Var.sub1 Ty.sc68 zthr (.head _) (GetN.lit rfl))<|qm ?_
  refine qv ((v_made rfl rfl hs2 hMp hl))<|qa<|qt<|qs<|qm ?_
  refine qv (v_neq_nil_none Tryz.underlying45 rfl) ?_
  refine qt ?_
  refine cw_false rfl<|cw_skip<|xw_then<|qs<|qm ?_
  refine qv (v_call rfl rfl (kindK_c hk hid))<|qm ?_
  refine ow_val rfl rfl (v_shrP (p:=4) rfl rfl zom (by decide) zom (by decide)) ?_
  refine ow_alloc rfl rfl Ty.ze27 fun b7=>qa ?_
  refine ow_store1 rfl rfl rfl rfl Ty.sc27 .here (SetN.one zdn)<|qt<|cw_seq<|cw_seq ?_
  refine cw_quiet Ty.mixed zdk ?_
  refine kmv ?_
  refine kmv ?_
  refine kw_val rfl rfl (v_call rfl rfl (mine_c hM' zhas hid)) ?_
  refine kmv ?_
  refine kw_dec 28 rfl (fun hc28=>?_) (fun hc28=>?_)
  refine kk ?_
  refine kk ?_
  refine kk ?_
  refine kk ?_
  refine kk ?_
  refine kk ?_
  refine kk ?_
  refine kk ?_
  refine kv (v_pick_true rfl rfl) ?_
  refine kw_nil<|xw_then ?_
  refine cw_true rfl ?_
  refine qs<|qa<|qt ?_
  refine cw_ret ?_
  refine xw_then_ret ?_
  refine ret1 rfl (res_tmp rfl) ?_
  rotate_left
  refine kv (v_load rfl (Var.at1 Ty.sc27 .here (GetN.lit rfl))) ?_
  refine kmv ?_
  refine kmv ?_
  refine kv (v_nilCheck rfl) ?_
  refine kv (v_fieldAddr0 Ty.fd73_9 rfl) ?_
  refine kv (v_indexAddrA Tryz.underlying71 Ty.el71 rfl rfl (Int.toNat_of_nonneg zom).symm zom) ?_
  refine kv (v_load rfl (Var.sub1 Ty.sc27 zthr (.head _) (GetN.lit rfl))) ?_
  refine kv (v_geq rfl rfl) ?_
  refine kv (v_pick_false rfl rfl) ?_
  refine kw_nil<|xw_then ?_
  refine cw_dec rfl (fun hc37=>?_) (fun hc37=>?_)
  refine qs<|qa<|qt ?_
  refine cw_ret ?_
  refine xw_then_ret ?_
  refine ret1 rfl (res_tmp rfl) ?_
  rotate_left
  refine cw_skip<|xw_then<|qs<|qm<|qm<|qn ?_
  refine qf Ty.fd73_6 ?_
  refine qv (v_indexAddrA Tryz.underlying70 Ty.el70 rfl rfl (Int.toNat_of_nonneg zom).symm zom) ?_
  refine ql (Var.sub1 Ty.sc69 zthr (.head _) (GetN.lit rfl)) ?_
  refine ow_alloc rfl rfl Ty.ze69 fun b8=>?_
  refine ow_store1 rfl rfl rfl rfl Ty.sc69 .here (SetN.one zdn)<|qt ?_
  refine qs ?_
  refine ql (Var.at1 Ty.sc69 .here (GetN.lit rfl)) ?_
  refine qv (v_len rfl Tryz.underlying69 rfl) ?_
  refine qv (v_makeFunc rfl rfl) ?_
  rotate_left
  ·exact⟨rfl,zcov⟩
  ·exact⟨rfl,zcov⟩
  ·exact absurd (hc (by unfold SsM.mine;exact decide_eq_false hc28)) hc37
 ·have hkd:M.kd id=M.k1:=by
   unfold SsM.kd
   rw[if_neg zom]
  have hc:M.mine id=false→M.k1.came≤id/4:=fun hm=>by
   refine Int.not_lt.1 fun h=>hh ⟨hid.1,?_⟩
   rw[hm,hkd]
   exact h
  refine fn_enter Tryz.func14 rfl (by kernel_rfl) Tryz.ntmps14 (by simp) ?_
  refine qs<|qa<|qt<|cw_seq<|qs<|qm ?_
  refine qv (v_eql_nil_some Tryz.underlying35 rfl)<|qt ?_
  refine cw_false rfl<|cw_skip<|xw_then<|cw_seq ?_
  refine qs<|qm<|qn ?_
  refine qf Ty.fd73_5 ?_
  refine ql (Var.sub1 Ty.sc68 zthr (.head _) (GetN.lit rfl))<|qm ?_
  refine qv ((v_made rfl rfl hs2 hMp hl))<|qa<|qt<|qs<|qm ?_
  refine qv (v_neq_nil_none Tryz.underlying45 rfl) ?_
  refine qt ?_
  refine cw_false rfl<|cw_skip<|xw_then<|qs<|qm ?_
  refine qv (v_call rfl rfl (kindK_c hk hid))<|qm ?_
  refine ow_val rfl rfl (v_shrP (p:=4) rfl rfl zom (by decide) zom (by decide)) ?_
  refine ow_alloc rfl rfl Ty.ze27 fun b7=>qa ?_
  refine ow_store1 rfl rfl rfl rfl Ty.sc27 .here (SetN.one zdn)<|qt<|cw_seq<|cw_seq ?_
  refine cw_quiet Ty.mixed zdk ?_
  refine kmv ?_
  refine kmv ?_
  refine kw_val rfl rfl (v_call rfl rfl (mine_c hM' zhas hid)) ?_
  refine kmv ?_
  refine kw_dec 28 rfl (fun hc28=>?_) (fun hc28=>?_)
  refine kk ?_
  refine kk ?_
  refine kk ?_
  refine kk ?_
  refine kk ?_
  refine kk ?_
  refine kk ?_
  refine kk ?_
  refine kv (v_pick_true rfl rfl) ?_
  refine kw_nil<|xw_then ?_
  refine cw_true rfl ?_
  refine qs<|qa<|qt ?_
  refine cw_ret ?_
  refine xw_then_ret ?_
  refine ret1 rfl (res_tmp rfl) ?_
  rotate_left
  refine kv (v_load rfl (Var.at1 Ty.sc27 .here (GetN.lit rfl))) ?_
  refine kmv ?_
  refine kmv ?_
  refine kv (v_nilCheck rfl) ?_
  refine kv (v_fieldAddr0 Ty.fd73_9 rfl) ?_
  refine kv (v_indexAddrA Tryz.underlying71 Ty.el71 rfl rfl (Int.toNat_of_nonneg zom).symm zom) ?_
  refine kv (v_load rfl (Var.sub1 Ty.sc27 zthr (.head _) (GetN.lit rfl))) ?_
  refine kv (v_geq rfl rfl) ?_
  refine kv (v_pick_false rfl rfl) ?_
  refine kw_nil<|xw_then ?_
  refine cw_dec rfl (fun hc37=>?_) (fun hc37=>?_)
  refine qs<|qa<|qt ?_
  refine cw_ret ?_
  refine xw_then_ret ?_
  refine ret1 rfl (res_tmp rfl) ?_
  rotate_left
  refine cw_skip<|xw_then<|qs<|qm<|qm<|qn ?_
  refine qf Ty.fd73_6 ?_
  refine qv (v_indexAddrA Tryz.underlying70 Ty.el70 rfl rfl (Int.toNat_of_nonneg zom).symm zom) ?_
  refine ql (Var.sub1 Ty.sc69 zthr (.head _) (GetN.lit rfl)) ?_
  refine ow_alloc rfl rfl Ty.ze69 fun b8=>?_
  refine ow_store1 rfl rfl rfl rfl Ty.sc69 .here (SetN.one zdn)<|qt ?_
  refine qs ?_
  refine ql (Var.at1 Ty.sc69 .here (GetN.lit rfl)) ?_
  refine qv (v_len rfl Tryz.underlying69 rfl) ?_
  refine qv (v_makeFunc rfl rfl) ?_
  rotate_left
  ·exact⟨rfl,zcov⟩
  ·exact⟨rfl,zcov⟩
  ·exact absurd (hc (by unfold SsM.mine;exact decide_eq_false hc28)) hc37
end Go.Proofs.YtnlaffkihohfkaaGreat
namespace Go.Proofs.YtnlaffkihohfkaaGreat
open Go Go.Sl Go.Proofs
variable {B:Nat}{w0:World}{G:List Hp}{R:Hp→List Hp}
theorem mineB_c {M:SsM}{p:SsP}{b:Nat}{id:Int}(hs:Sub [(b,.cells (M.cells p).toArray 73 (0,0))] G)(h:0≤id∧id≤18446744073709551615):
  Go.Sl.Fn Tryz.prog 41 #[.pointer (some ⟨b,0,none⟩),.int .u64 id] B w0 G fun u G'=>u=.bool (M.mine id)∧G'=G:=by
 refine Fn.pure ?_
 refine fn_enter Tryz.func41 rfl (by kernel_rfl) Tryz.ntmps41 (by simp) ?_
 refine qs ?_
 refine qa ?_
 refine qt ?_
 refine qs ?_
 refine qm ?_
 refine qv (v_neq_nil_some Tryz.underlying35 rfl) ?_
 refine qm ?_
 refine qm ?_
 refine qv ((v_and rfl rfl (Go.Sl.and1 zom))) ?_
 refine qv (v_eql rfl rfl) ?_
 refine qm ?_
 refine qn ?_
 refine qf Ty.fd73_2 ?_
 refine ql (Var.sub1 Ty.sc4 zthr (.head _) (GetN.lit rfl)) ?_
 refine qv (v_eqlB Tryz.underlying4 rfl rfl) ?_
 refine qv (v_pick_true rfl rfl) ?_
 refine qa ?_
 refine qt ?_
 refine cw_ret ?_
 refine ret1 rfl (res_tmp rfl) ?_
 exact⟨rfl,zcov⟩
theorem SsM.kd0 {M:SsM}{id:Int}(h:kdI id=0):M.kd id=M.k0:=by
 unfold SsM.kd
 rw[if_pos h]
theorem SsM.kd1 {M:SsM}{id:Int}(h:kdI id=1):M.kd id=M.k1:=by
 unfold SsM.kd
 rw[if_neg zom]
theorem SsM.setS_same {M:SsM}{i:Nat}{x:SmM}(hi:M.str[i]?=some x):M.setS i x=M:=by
 obtain⟨h,he⟩:=List.getElem?_eq_some_iff.1 hi
 unfold SsM.setS
 subst he
 rw[List.set_getElem_self]
theorem SsM.settle_no {M:SsM}{i:Nat}{x:SmM}(hi:M.str[i]?=some x)(h:¬x.isDone (M.mine x.id)):M.settle i x=M:=by
 unfold SsM.settle
 rw[if_neg h]
 exact SsM.setS_same hi
theorem SsM.settle_yes {M:SsM}{i:Nat}{x:SmM}(h:x.isDone (M.mine x.id)):M.settle i x=(M.setS i {x with counted:=true}).setK (kdI x.id) {M.kd x.id with giv:=(M.kd x.id).giv+1}:=if_pos h
theorem SsM.setK0 {M:SsM}{n:KdM}:M.setK 0 n={M with k0:=n}:=rfl
theorem SsM.setK1 {M:SsM}{n:KdM}:M.setK 1 n={M with k1:=n}:=rfl
theorem settle_c {M:SsM}{ps:List Nat}{b i:Nat}{c:Hp}{x:SmM}(hsel:Sel G c R)(hM:SsAt M ps b c)(hi:M.str[i]?=some x)(hid:0≤x.id∧x.id≤18446744073709551615)(hg:0≤(M.kd x.id).giv∧(M.kd x.id).giv≤4611686018427387903):
  Go.Sl.Fn Tryz.prog 61 #[.pointer (some ⟨b,0,none⟩),.pointer (some ⟨ps.getD i 0,0,none⟩)] B w0 G fun u G'=>∃c':Hp,u=.tuple #[]∧SsAt (M.settle i x) ps b c'∧G'=R c':=by
 refine Fn.sel0 hsel fun F hR hF=>?_
 obtain⟨p,q,ci,co,cr,hc,hI,hO,back⟩:=hM.open hi
 generalize ps.getD i 0=b1 at hc back⊢
 rcases kdI_or (id:=x.id)with hk|hk
 ·rw[M.kd0 hk]at hg
  refine fn_enter Tryz.func61 rfl (by kernel_rfl) Tryz.ntmps61 (by simp) ?_
  refine cw_cov ([(b,.cells (M.cells p).toArray 73 (0,0))]::[(b1,.cells (x.cells q).toArray 55 (0,0))]::ci::co::cr::F) (zcv1 hc) ?_
  refine cw_seq<|qs<|qm<|qn ?_
  refine qf Ty.fd55_13 ?_
  refine ql (Var.at1 Ty.sc4 (.there .here) (GetN.lit rfl))<|qm ?_
  refine ow_bool 9 rfl (fun hc9=>?_) (fun hc9=>?_)
  refine qk ?_
  refine qk ?_
  refine qk ?_
  refine qk ?_
  refine qk ?_
  refine qk ?_
  refine qv (v_pick_true rfl rfl)<|qm ?_
  refine qk ?_
  refine qk ?_
  refine qk ?_
  refine qk ?_
  refine qk ?_
  refine qk ?_
  refine qv (v_pick_true rfl rfl)<|qm ?_
  refine qk ?_
  refine qk ?_
  refine qk ?_
  refine qk ?_
  refine qk ?_
  refine qk ?_
  refine qv (v_pick_true rfl rfl)<|qt ?_
  refine cw_true rfl ?_
  refine cw_ret ?_
  refine xw_then_ret ?_
  refine ret0 rfl ?_
  rotate_left
  refine qm<|qm<|qn ?_
  refine qf Ty.fd55_0 ?_
  refine ql (Var.at1 Ty.sc27 (.there .here) (GetN.lit rfl)) ?_
  refine qv (v_call rfl rfl (mineB_c zhas hid)) ?_
  refine qv (v_pick_false rfl rfl)<|qm ?_
  refine ow_dec 17 rfl (fun hc17=>?_) (fun hc17=>?_)
  refine qk ?_
  refine qk ?_
  refine qk ?_
  refine qk ?_
  refine qk ?_
  refine qk ?_
  refine qv (v_pick_true rfl rfl)<|qm ?_
  refine qk ?_
  refine qk ?_
  refine qk ?_
  refine qk ?_
  refine qk ?_
  refine qk ?_
  refine qv (v_pick_true rfl rfl)<|qt ?_
  refine cw_true rfl ?_
  refine cw_ret ?_
  refine xw_then_ret ?_
  refine ret0 rfl ?_
  rotate_left
  refine qm<|qn ?_
  refine qf Ty.fd55_1 ?_
  refine ql (Var.at1 Ty.sc47 (.there .here) (GetN.lit rfl)) ?_
  refine qv (v_call rfl rfl (final_c)) ?_
  refine qv (v_not_bool rfl) ?_
  refine qv (v_pick_false rfl rfl)<|qm ?_
  refine ow_bool 25 rfl (fun hc25=>?_) (fun hc25=>?_)
  refine qk ?_
  refine qk ?_
  refine qk ?_
  refine qk ?_
  refine qk ?_
  refine qk ?_
  refine qv (v_pick_true rfl rfl)<|qt ?_
  refine cw_true rfl ?_
  refine cw_ret ?_
  refine xw_then_ret ?_
  refine ret0 rfl ?_
  rotate_left
  refine qm<|qn ?_
  refine qf Ty.fd55_2 ?_
  refine ql (Var.at1 Ty.sc47 (.there .here) (GetN.lit rfl)) ?_
  refine qv (v_call rfl rfl (final_c)) ?_
  refine qv (v_not_bool rfl) ?_
  refine qv (v_pick_false rfl rfl)<|qt ?_
  refine cw_bool rfl (fun hc32=>?_) (fun hc32=>?_)
  refine cw_ret ?_
  refine xw_then_ret ?_
  refine ret0 rfl ?_
  rotate_left
  refine cw_skip<|xw_then<|qs<|qm<|qn ?_
  refine qf Ty.fd55_13 ?_
  refine ow_store1 rfl rfl rfl rfl Ty.sc4 (.there .here) (SetN.one zdn)<|qt<|qs<|qm<|qn ?_
  refine qf Ty.fd55_0 ?_
  refine ql (Var.at1 Ty.sc27 (.there .here) (GetN.lit rfl)) ?_
  refine qv (v_call rfl rfl (kindK_c hk hid))<|qa<|qt<|qs<|qm<|qm<|qn ?_
  refine qf Ty.fd73_10 ?_
  refine qv (v_indexAddrA Tryz.underlying71 Ty.el71 rfl rfl (Int.toNat_of_nonneg zom).symm zom) ?_
  refine ql (Var.at1 Ty.sc27 .here (GetN.lit rfl)) ?_
  refine qv (v_add rfl rfl (nw_u64 zom zom)) ?_
  refine qv (v_neq rfl rfl)<|qt ?_
  refine cw_dec rfl (fun hc48=>?_) (fun hc48=>?_)
  rotate_left;(exfalso;omega);rotate_right
  refine cw_mix [] [10] [0,1,2,3,4,5,6,7,8,9] Ty.mixed rfl rfl rfl rfl zdk ?_
  refine hmv ?_
  refine hmv ?_
  refine hw_pure rfl rfl (v_nilCheck rfl) rfl ?_
  refine hw_pure rfl rfl (v_fieldAddr0 Ty.fd73_10 rfl) rfl ?_
  refine hw_pure rfl rfl (v_indexAddrA Tryz.underlying71 Ty.el71 rfl rfl (Int.toNat_of_nonneg zom).symm zom) rfl ?_
  refine hw_read rfl rfl rfl (v_load rfl (Var.at1 Ty.sc27 .here (GetN.lit rfl))) ?_
  refine hw_pure rfl rfl (v_add rfl rfl (nw_u64 zom zom)) rfl ?_
  refine hw_pure rfl rfl (v_nilCheck rfl) rfl ?_
  refine hw_pure rfl rfl (v_fieldAddr0 Ty.fd73_10 rfl) rfl ?_
  refine hw_pure rfl rfl (v_indexAddrA Tryz.underlying71 Ty.el71 rfl rfl (Int.toNat_of_nonneg zom).symm zom) rfl ?_
  refine hw_nil ?_
  refine sw_nil ?_
  refine ow_store1 rfl rfl rfl rfl Ty.sc27 .here (SetN.one zdn)<|ow_nil ?_
  refine xw_np ?_
  refine ret0n rfl ?_
  rotate_left
  ·rw[SsM.settle_no hi (fun h=>by rw[h.1]at hc9;cases hc9)]
   exact⟨c,rfl,hM,(zcv1 hc)⟩
  ·rw[SsM.settle_no hi (fun h=>by have h2:=h.2.1;unfold SsM.mine at h2;rw[decide_eq_true hc17]at h2;cases h2)]
   exact⟨c,rfl,hM,(zcv1 hc)⟩
  ·rw[SsM.settle_no hi (fun h=>by rw[h.2.2.1]at hc25;cases hc25)]
   exact⟨c,rfl,hM,(zcv1 hc)⟩
  ·rw[SsM.settle_no hi (fun h=>by rw[h.2.2.2]at hc32;cases hc32)]
   exact⟨c,rfl,hM,(zcv1 hc)⟩
  ·rw[SsM.settle_yes ⟨hc9,by unfold SsM.mine;exact decide_eq_false hc17,by simpa using hc25,by simpa using hc32⟩,hk,M.kd0 hk,SsM.setK0]
   obtain⟨c',h1,h2⟩:=back {M.setS i {x with counted:=true} with k0:={M.k0 with giv:=M.k0.giv+1}} {x with counted:=true} q ci co rfl rfl rfl rfl hI hO
   exact⟨c',rfl,h1,by
    have e1:(SsM.cells {M.setS i {x with counted:=true} with k0:={M.k0 with giv:=M.k0.giv+1}} p)=(M.cells p).set (24+Int.toNat 0*1) (Value.int IntKind.u64 (M.k0.giv+1)):=rfl
    have e2:(SmM.cells {x with counted:=true} q)=(x.cells q).set 19 (Value.bool true):=rfl
    rw[e1,e2]at h2
    exact(zcv1 h2)⟩
 ·rw[M.kd1 hk]at hg
  refine fn_enter Tryz.func61 rfl (by kernel_rfl) Tryz.ntmps61 (by simp) ?_
  refine cw_cov ([(b,.cells (M.cells p).toArray 73 (0,0))]::[(b1,.cells (x.cells q).toArray 55 (0,0))]::ci::co::cr::F) (zcv1 hc) ?_
  refine cw_seq<|qs<|qm<|qn ?_
  refine qf Ty.fd55_13 ?_
  refine ql (Var.at1 Ty.sc4 (.there .here) (GetN.lit rfl))<|qm ?_
  refine ow_bool 9 rfl (fun hc9=>?_) (fun hc9=>?_)
  refine qk ?_
  refine qk ?_
  refine qk ?_
  refine qk ?_
  refine qk ?_
  refine qk ?_
  refine qv (v_pick_true rfl rfl)<|qm ?_
  refine qk ?_
  refine qk ?_
  refine qk ?_
  refine qk ?_
  refine qk ?_
  refine qk ?_
  refine qv (v_pick_true rfl rfl)<|qm ?_
  refine qk ?_
  refine qk ?_
  refine qk ?_
  refine qk ?_
  refine qk ?_
  refine qk ?_
  refine qv (v_pick_true rfl rfl)<|qt ?_
  refine cw_true rfl ?_
  refine cw_ret ?_
  refine xw_then_ret ?_
  refine ret0 rfl ?_
  rotate_left
  refine qm<|qm<|qn ?_
  refine qf Ty.fd55_0 ?_
  refine ql (Var.at1 Ty.sc27 (.there .here) (GetN.lit rfl)) ?_
  refine qv (v_call rfl rfl (mineB_c zhas hid)) ?_
  refine qv (v_pick_false rfl rfl)<|qm ?_
  refine ow_dec 17 rfl (fun hc17=>?_) (fun hc17=>?_)
  refine qk ?_
  refine qk ?_
  refine qk ?_
  refine qk ?_
  refine qk ?_
  refine qk ?_
  refine qv (v_pick_true rfl rfl)<|qm ?_
  refine qk ?_
  refine qk ?_
  refine qk ?_
  refine qk ?_
  refine qk ?_
  refine qk ?_
  refine qv (v_pick_true rfl rfl)<|qt ?_
  refine cw_true rfl ?_
  refine cw_ret ?_
  refine xw_then_ret ?_
  refine ret0 rfl ?_
  rotate_left
  refine qm<|qn ?_
  refine qf Ty.fd55_1 ?_
  refine ql (Var.at1 Ty.sc47 (.there .here) (GetN.lit rfl)) ?_
  refine qv (v_call rfl rfl (final_c)) ?_
  refine qv (v_not_bool rfl) ?_
  refine qv (v_pick_false rfl rfl)<|qm ?_
  refine ow_bool 25 rfl (fun hc25=>?_) (fun hc25=>?_)
  refine qk ?_
  refine qk ?_
  refine qk ?_
  refine qk ?_
  refine qk ?_
  refine qk ?_
  refine qv (v_pick_true rfl rfl)<|qt ?_
  refine cw_true rfl ?_
  refine cw_ret ?_
  refine xw_then_ret ?_
  refine ret0 rfl ?_
  rotate_left
  refine qm<|qn ?_
  refine qf Ty.fd55_2 ?_
  refine ql (Var.at1 Ty.sc47 (.there .here) (GetN.lit rfl)) ?_
  refine qv (v_call rfl rfl (final_c)) ?_
  refine qv (v_not_bool rfl) ?_
  refine qv (v_pick_false rfl rfl)<|qt ?_
  refine cw_bool rfl (fun hc32=>?_) (fun hc32=>?_)
  refine cw_ret ?_
  refine xw_then_ret ?_
  refine ret0 rfl ?_
  rotate_left
  refine cw_skip<|xw_then<|qs<|qm<|qn ?_
  refine qf Ty.fd55_13 ?_
  refine ow_store1 rfl rfl rfl rfl Ty.sc4 (.there .here) (SetN.one zdn)<|qt<|qs<|qm<|qn ?_
  refine qf Ty.fd55_0 ?_
  refine ql (Var.at1 Ty.sc27 (.there .here) (GetN.lit rfl)) ?_
  refine qv (v_call rfl rfl (kindK_c hk hid))<|qa<|qt<|qs<|qm<|qm<|qn ?_
  refine qf Ty.fd73_10 ?_
  refine qv (v_indexAddrA Tryz.underlying71 Ty.el71 rfl rfl (Int.toNat_of_nonneg zom).symm zom) ?_
  refine ql (Var.at1 Ty.sc27 .here (GetN.lit rfl)) ?_
  refine qv (v_add rfl rfl (nw_u64 zom zom)) ?_
  refine qv (v_neq rfl rfl)<|qt ?_
  refine cw_dec rfl (fun hc48=>?_) (fun hc48=>?_)
  rotate_left;(exfalso;omega);rotate_right
  refine cw_mix [] [10] [0,1,2,3,4,5,6,7,8,9] Ty.mixed rfl rfl rfl rfl zdk ?_
  refine hmv ?_
  refine hmv ?_
  refine hw_pure rfl rfl (v_nilCheck rfl) rfl ?_
  refine hw_pure rfl rfl (v_fieldAddr0 Ty.fd73_10 rfl) rfl ?_
  refine hw_pure rfl rfl (v_indexAddrA Tryz.underlying71 Ty.el71 rfl rfl (Int.toNat_of_nonneg zom).symm zom) rfl ?_
  refine hw_read rfl rfl rfl (v_load rfl (Var.at1 Ty.sc27 .here (GetN.lit rfl))) ?_
  refine hw_pure rfl rfl (v_add rfl rfl (nw_u64 zom zom)) rfl ?_
  refine hw_pure rfl rfl (v_nilCheck rfl) rfl ?_
  refine hw_pure rfl rfl (v_fieldAddr0 Ty.fd73_10 rfl) rfl ?_
  refine hw_pure rfl rfl (v_indexAddrA Tryz.underlying71 Ty.el71 rfl rfl (Int.toNat_of_nonneg zom).symm zom) rfl ?_
  refine hw_nil ?_
  refine sw_nil ?_
  refine ow_store1 rfl rfl rfl rfl Ty.sc27 .here (SetN.one zdn)<|ow_nil ?_
  refine xw_np ?_
  refine ret0n rfl ?_
  rotate_left
  ·rw[SsM.settle_no hi (fun h=>by rw[h.1]at hc9;cases hc9)]
   exact⟨c,rfl,hM,(zcv1 hc)⟩
  ·rw[SsM.settle_no hi (fun h=>by have h2:=h.2.1;unfold SsM.mine at h2;rw[decide_eq_true hc17]at h2;cases h2)]
   exact⟨c,rfl,hM,(zcv1 hc)⟩
  ·rw[SsM.settle_no hi (fun h=>by rw[h.2.2.1]at hc25;cases hc25)]
   exact⟨c,rfl,hM,(zcv1 hc)⟩
  ·rw[SsM.settle_no hi (fun h=>by rw[h.2.2.2]at hc32;cases hc32)]
   exact⟨c,rfl,hM,(zcv1 hc)⟩
  ·rw[SsM.settle_yes ⟨hc9,by unfold SsM.mine;exact decide_eq_false hc17,by simpa using hc25,by simpa using hc32⟩,hk,M.kd1 hk,SsM.setK1]
   obtain⟨c',h1,h2⟩:=back {M.setS i {x with counted:=true} with k1:={M.k1 with giv:=M.k1.giv+1}} {x with counted:=true} q ci co rfl rfl rfl rfl hI hO
   exact⟨c',rfl,h1,by
    have e1:(SsM.cells {M.setS i {x with counted:=true} with k1:={M.k1 with giv:=M.k1.giv+1}} p)=(M.cells p).set (24+Int.toNat 1*1) (Value.int IntKind.u64 (M.k1.giv+1)):=rfl
    have e2:(SmM.cells {x with counted:=true} q)=(x.cells q).set 19 (Value.bool true):=rfl
    rw[e1,e2]at h2
    exact(zcv1 h2)⟩
theorem roomS_c {M:SsM}{p:SsP}{b b1:Nat}{x:SmM}{q:SmP}{n:Int}(hs1:Sub [(b,.cells (M.cells p).toArray 73 (0,0))] G)(hs2:Sub [(b1,.cells (x.cells q).toArray 55 (0,0))] G)(hw1:M.giv.WF)(hw2:x.giv.WF)(hn:0≤n∧n≤18446744073709551615):
  Go.Sl.Fn Tryz.prog 79 #[.pointer (some ⟨b,0,none⟩),.pointer (some ⟨b1,0,none⟩),.int .u64 n] B w0 G fun u G'=>u=.int .i64 (M.roomE x n)∧G'=G:=by
 refine Fn.pure ?_
 have o1:=(x.giv.use n).one
 have o2:=(M.giv.use n).one
 refine fn_enter Tryz.func79 rfl (by kernel_rfl) Tryz.ntmps79 (by simp) ?_
 refine qs<|qa<|qt<|cw_seq<|qs<|qm<|qn<|qf Ty.fd55_5 ?_
 refine ow_val rfl rfl (v_load rfl (Var.subN Ty.ag51 zthr (.head _) ((GetN.mid (vs:=x.giv.cells) rfl)) zra)) ?_
 refine qm<|qv (v_call rfl rfl (givUse_c hw2 hn))<|qm<|qv (v_extract rfl rfl)<|qv (v_extract rfl rfl)<|ow_alloc rfl rfl Ty.ze51 fun b7=>?_
 refine ow_storeN rfl rfl rfl Ty.ag51 zra zao .here (SetN.all zsa) ?_
 refine qa<|qt<|qs<|qm<|qv (v_neq rfl rfl)<|qt ?_
 refine cw_dec rfl (fun hc21=>?_) (fun hc21=>?_)
 refine qs<|qa<|qt<|cw_ret<|xw_then_ret<|ret1 rfl (res_tmp rfl) ?_
 rotate_left
 refine cw_skip<|xw_then<|cw_seq<|qs<|qm<|qn<|qf Ty.fd73_0 ?_
 refine ow_val rfl rfl (v_load rfl (Var.subN Ty.ag51 zthr (.head _) ((GetN.mid (vs:=M.giv.cells) rfl)) zra)) ?_
 refine qm<|qv (v_call rfl rfl (givUse_c hw1 hn))<|qm<|qv (v_extract rfl rfl)<|qv (v_extract rfl rfl)<|ow_alloc rfl rfl Ty.ze51 fun b9=>?_
 refine ow_storeN rfl rfl rfl Ty.ag51 zra zao .here (SetN.all zsa) ?_
 refine qa<|qt<|qs<|qm<|qv (v_neq rfl rfl)<|qt ?_
 refine cw_dec rfl (fun hc32=>?_) (fun hc32=>?_)
 refine qs<|qa<|qt<|cw_ret<|xw_then_ret<|ret1 rfl (res_tmp rfl) ?_
 rotate_left
 refine cw_skip<|xw_then<|qs<|qa<|qt<|cw_ret<|ret1 rfl (res_tmp rfl) ?_
 rotate_left
 ·unfold SsM.roomE
  rw[if_pos hc21]
  exact⟨rfl,zcov⟩
 ·unfold SsM.roomE
  rw[if_neg hc21,if_pos hc32]
  exact⟨rfl,zcov⟩
 ·unfold SsM.roomE
  rw[if_neg hc21,if_neg hc32]
  exact⟨rfl,zcov⟩
theorem use_c {M:SsM}{ps:List Nat}{b i:Nat}{c:Hp}{x:SmM}{n:Int}(hsel:Sel G c R)(hM:SsAt M ps b c)(hi:M.str[i]?=some x)(hw1:M.giv.WF)(hw2:x.giv.WF)(hn:0≤n∧n≤18446744073709551615):
  Go.Sl.Fn Tryz.prog 82 #[.pointer (some ⟨b,0,none⟩),.pointer (some ⟨ps.getD i 0,0,none⟩),.int .u64 n] B w0 G fun u G'=>∃c':Hp,u=.tuple #[]∧SsAt (M.use i x n) ps b c'∧G'=R c':=by
 refine Fn.sel0 hsel fun F hR hF=>?_
 obtain⟨p,q,ci,co,cr,hc,hI,hO,back⟩:=hM.open hi
 generalize ps.getD i 0=b1 at hc back⊢
 have o1:=(x.giv.use n).one
 have o2:=(M.giv.use n).one
 refine fn_enter Tryz.func82 rfl (by kernel_rfl) Tryz.ntmps82 (by simp) ?_
 refine cw_cov ([(b,.cells (M.cells p).toArray 73 (0,0))]::[(b1,.cells (x.cells q).toArray 55 (0,0))]::ci::co::cr::F) (zcv1 hc) ?_
 refine qs<|qm<|qm<|qn<|qf Ty.fd55_5 ?_
 refine ow_val rfl rfl (v_load rfl (Var.atN Ty.ag51 (.there .here) ((GetN.mid (vs:=x.giv.cells) rfl)) zra)) ?_
 refine qm<|qv (v_call rfl rfl (givUse_c hw2 hn))<|qm<|qv (v_extract rfl rfl)<|qv (v_extract rfl rfl)<|qn<|qf Ty.fd55_5 ?_
 refine ow_storeN rfl rfl rfl Ty.ag51 zra zao (.there .here) ((SetN.mid (l':=SmM.cells {x with giv:=x.giv.use n} q) (Nat.le_of_ble_eq_true rfl) rfl)) ?_
 refine qt<|cw_region<|qm<|qm<|qn<|qf Ty.fd73_0 ?_
 refine ow_val rfl rfl (v_load rfl (Var.atN Ty.ag51 .here ((GetN.mid (vs:=M.giv.cells) rfl)) zra)) ?_
 refine qm<|qv (v_call rfl rfl (givUse_c hw1 hn))<|qm<|qv (v_extract rfl rfl)<|qv (v_extract rfl rfl)<|qn<|qf Ty.fd73_0 ?_
 refine ow_storeN rfl rfl rfl Ty.ag51 zra zao .here ((SetN.mid (l':=SsM.cells {M with giv:=M.giv.use n} p) (Nat.le_of_ble_eq_true rfl) rfl)) ?_
 refine ow_nil<|ret0n rfl ?_
 obtain⟨c',h1,h2⟩:=back (M.use i x n) {x with giv:=x.giv.use n} q ci co rfl rfl rfl rfl hI hO
 have e1:(SsM.cells (M.use i x n) p)=SsM.cells {M with giv:=M.giv.use n} p:=rfl
 rw[e1]at h2
 exact⟨c',rfl,h1,(zcv1 h2)⟩
theorem spend_c {M:SsM}{ps:List Nat}{b i:Nat}{c:Hp}{x:SmM}{f:FsM}{ao:Option Addr}{cap:Nat}(hsel:Sel G c R)(hM:SsAt M ps b c)(hi:M.str[i]?=some x)(hw1:M.got.WF)(hw2:x.got.WF)(hf:0≤f.off∧f.off≤4611686018427387903)(hl:f.data.length≤1000000):
  Go.Sl.Fn Tryz.prog 58 #[.pointer (some ⟨b,0,none⟩),.pointer (some ⟨ps.getD i 0,0,none⟩),.agg (f.cells ao cap).toArray] B w0 G fun u G'=>∃c':Hp,u=.tuple #[]∧SsAt (M.spend i x (f.off+f.data.length)) ps b c'∧G'=R c':=by
 refine Fn.sel0 hsel fun F hR hF=>?_
 obtain⟨p,q,ci,co,cr,hc,hI,hO,back⟩:=hM.open hi
 generalize ps.getD i 0=b1 at hc back⊢
 have hu:=hw2.used
 have fl:=f.len (ao:=ao) (cap:=cap)
 have fo:=f.one (ao:=ao) (cap:=cap)
 have o1:=(x.got.use (f.off+f.data.length-x.got.used)).one
 have o2:=(M.got.use (f.off+f.data.length-x.got.used)).one
 refine fn_enter Tryz.func58 rfl (by kernel_rfl) Tryz.ntmps58 (by simp) ?_
 refine cw_cov ([(b,.cells (M.cells p).toArray 73 (0,0))]::[(b1,.cells (x.cells q).toArray 55 (0,0))]::ci::co::cr::F) (zcv1 hc) ?_
 refine qs ?_
 refine ow_box rfl rfl rfl rfl fun b5=>qt<|qs ?_
 refine qf Ty.fd82_2 ?_
 refine ql (Var.at1 Ty.sc27 .here (GetN.lit rfl)) ?_
 refine qf Ty.fd82_5 ?_
 refine ql (Var.at1 Ty.sc28 .here (GetN.lit rfl)) ?_
 refine qv (v_len rfl Tryz.underlying28 rfl) ?_
 refine qv (v_convert Tryz.underlying3 Tryz.underlying27 rfl (nw_u64 zom zom)) ?_
 refine qv (v_add rfl rfl (nw_u64 zom zom))<|qa ?_
 refine qt<|cw_seq<|qs<|qm ?_
 refine qf Ty.fd82_2 ?_
 refine ql (Var.at1 Ty.sc27 .here (GetN.lit rfl)) ?_
 refine qv (v_lss rfl rfl)<|qm ?_
 refine ow_dec 19 rfl (fun hc19=>?_) (fun hc19=>?_)
 (exfalso;omega)
 refine qm<|qm<|qn ?_
 refine qf Ty.fd55_6 ?_
 refine qv (v_fieldAddr Ty.fd53_1 rfl) ?_
 refine ql (Var.at1 Ty.sc27 (.there (.there .here)) (GetN.lit rfl)) ?_
 refine qv (v_leq rfl rfl) ?_
 refine qv (v_pick_false rfl rfl)<|qt ?_
 refine cw_dec rfl (fun hc27=>?_) (fun hc27=>?_)
 refine cw_ret ?_
 refine xw_then_ret ?_
 refine ret0 rfl ?_
 rotate_left
 refine cw_skip<|xw_then<|qs<|qm<|qm<|qn ?_
 refine qf Ty.fd55_6 ?_
 refine qv (v_fieldAddr Ty.fd53_1 rfl) ?_
 refine ql (Var.at1 Ty.sc27 (.there (.there .here)) (GetN.lit rfl)) ?_
 refine qv (v_sub rfl rfl (nw_u64 zom zom))<|qa<|qt ?_
 refine qs<|qm<|qm<|qn ?_
 refine qf Ty.fd55_6 ?_
 refine ow_val rfl rfl (v_load rfl (Var.atN Ty.ag53 (.there (.there .here)) ((GetN.mid (vs:=x.got.cells) rfl)) zra)) ?_
 refine qm ?_
 refine qv (v_call rfl rfl (gotUse_c hw2 zom))<|qm ?_
 refine qv (v_extract rfl rfl) ?_
 refine qv (v_extract rfl rfl)<|qn ?_
 refine qf Ty.fd55_6 ?_
 refine ow_storeN rfl rfl rfl Ty.ag53 zra zao (.there (.there .here)) ((SetN.mid (l':=SmM.cells {x with got:=x.got.use (f.off+f.data.length-x.got.used)} q) (Nat.le_of_ble_eq_true rfl) rfl)) ?_
 refine qt<|cw_region<|qm<|qm<|qn ?_
 refine qf Ty.fd73_1 ?_
 refine ow_val rfl rfl (v_load rfl (Var.atN Ty.ag53 (.there .here) ((GetN.mid (vs:=M.got.cells) rfl)) zra)) ?_
 refine qm ?_
 refine qv (v_call rfl rfl (gotUse_c hw1 zom))<|qm ?_
 refine qv (v_extract rfl rfl) ?_
 refine qv (v_extract rfl rfl)<|qn ?_
 refine qf Ty.fd73_1 ?_
 refine ow_storeN rfl rfl rfl Ty.ag53 zra zao (.there .here) ((SetN.mid (l':=SsM.cells {M with got:=M.got.use (f.off+f.data.length-x.got.used)} p) (Nat.le_of_ble_eq_true rfl) rfl)) ?_
 refine ow_nil ?_
 refine ret0n rfl ?_
 rotate_left
 ·have e0:M.spend i x (f.off+f.data.length)=M:=by
   unfold SsM.spend
   rw[if_pos hc27]
   exact SsM.setS_same hi
  rw[e0]
  exact⟨c,rfl,hM,(zcv1 hc)⟩
 ·have e0:M.spend i x (f.off+f.data.length)={M with str:=M.str.set i {x with got:=x.got.use (f.off+f.data.length-x.got.used)},got:=M.got.use (f.off+f.data.length-x.got.used)}:=by
   unfold SsM.spend
   rw[if_neg hc27]
  rw[e0]
  obtain⟨c',h1,h2⟩:=back {M with str:=M.str.set i {x with got:=x.got.use (f.off+f.data.length-x.got.used)},got:=M.got.use (f.off+f.data.length-x.got.used)} {x with got:=x.got.use (f.off+f.data.length-x.got.used)} q ci co rfl rfl rfl rfl hI hO
  have e1:(SsM.cells {M with str:=M.str.set i {x with got:=x.got.use (f.off+f.data.length-x.got.used)},got:=M.got.use (f.off+f.data.length-x.got.used)} p)=SsM.cells {M with got:=M.got.use (f.off+f.data.length-x.got.used)} p:=rfl
  rw[e1]at h2
  exact⟨c',rfl,h1,(zcv1 h2)⟩
end Go.Proofs.YtnlaffkihohfkaaGreat
namespace Go.Proofs.YtnlaffkihohfkaaGreat
open Go Go.Sl Go.Proofs
variable {B:Nat}{w0:World}{G:List Hp}{R:Hp→List Hp}
theorem SsM.mine_idOf {M:SsM}{m:Bool}{k n:Int}:M.mine (idOf M.cl m k n)=m:=by
 unfold SsM.mine
 rw[idOf_odd]
 cases M.cl<;>cases m<;>rfl
theorem SsM.next_none {M:SsM}(hw:M.WF){k:Int}(hk:k=0∨k=1):idxS M.str (M.nextId k)=none:=by
 cases hx:idxS M.str (M.nextId k)with
 |none=>rfl
 |some i=>
  obtain⟨hi,he⟩:=idxS_lt hx
  obtain⟨h1,h2,h3⟩:=hw.ex _ (List.getElem_mem hi)
  rw[he,SsM.nextId,SsM.mine_idOf,if_pos rfl,idOf_cn hk,SsM.kd_kn,idOf_kd hk]at h3
  omega
theorem SsM.next_b {M:SsM}(hw:M.WF){k:Int}(hk:k=0∨k=1):0≤M.nextId k∧M.nextId k≤18446744073709551615:=by
 have h0:=hw.k0.op
 have h1:=hw.k1.op
 unfold SsM.nextId idOf SsM.kn
 rcases hk with rfl|rfl
 ·rw[if_pos rfl]
  split<;>omega
 ·rw[if_neg (by decide)]
  split<;>omega
theorem SsAt.swap {M N:SsM}{ps:List Nat}{b:Nat}{p:SsP}{cm cr0 cr1 cs:Hp}(hMp:MapG .u64 (ptrOf M.str ps) p.bm cm)(hR0:Ls enRn 103 (.slice p.a0 M.r0.length p.c0) cr0 M.r0)(hR1:Ls enRn 103 (.slice p.a1 M.r1.length p.c1) cr1 M.r1)(hS:Strs M.str ps cs)(h1:N.str=M.str)(h2:N.r0=M.r0)(h3:N.r1=M.r1):
  SsAt N ps b ([(b,.cells (N.cells p).toArray 73 (0,0))]++(cm++(cr0++(cr1++cs)))):=by
 refine⟨p,cm,cr0,cr1,cs,rfl,?_,?_,?_,?_⟩
 ·rw[h1];exact hMp
 ·rw[h2];exact hR0
 ·rw[h3];exact hR1
 ·rw[h1];exact hS
theorem openNo_c {M:SsM}{ps:List Nat}{b:Nat}{c:Hp}{uni:Bool}(hM:SsAt M ps b c)(hs:Sub c G)(hn:(M.kn (if uni=true then 1 else 0)).may≤(M.kn (if uni=true then 1 else 0)).op):
  Go.Sl.Fn Tryz.prog 17 #[.pointer (some ⟨b,0,none⟩),.bool uni] B w0 G fun u G'=>u=.tuple #[.int .u64 0,.int .i64 15]∧G'=G:=by
 refine Fn.pure ?_
 obtain⟨p,cm,cr0,cr1,cs,rfl,hMp,hR0,hR1,hS⟩:=hM
 have hs1:=hs.left
 cases uni with
 |false=>
  replace hn:M.k0.may≤M.k0.op:=hn
  refine fn_enter Tryz.func17 rfl (by kernel_rfl) Tryz.ntmps17 (by simp) ?_
  refine qs<|qa<|qa<|qt<|cw_seq<|qs<|qm ?_
  refine qv (v_eql_nil_some Tryz.underlying35 rfl)<|qt ?_
  refine cw_false rfl<|cw_skip<|xw_then ?_
  refine qs<|qa<|qt<|cw_seq<|qs<|qm<|qt ?_
  refine cw_false rfl<|cw_skip<|xw_then<|cw_seq<|cw_seq ?_
  refine cw_quiet Ty.mixed zdk ?_
  refine kmv ?_
  refine kmv ?_
  refine kv (v_nilCheck rfl) ?_
  refine kv (v_fieldAddr0 Ty.fd73_7 rfl) ?_
  refine kv (v_indexAddrA Tryz.underlying71 Ty.el71 rfl rfl (Int.toNat_of_nonneg zom).symm zom) ?_
  refine kv (v_load rfl (Var.sub1 Ty.sc27 zthr (.head _) (GetN.lit rfl))) ?_
  refine kmv ?_
  refine kmv ?_
  refine kv (v_nilCheck rfl) ?_
  refine kv (v_fieldAddr0 Ty.fd73_8 rfl) ?_
  refine kv (v_indexAddrA Tryz.underlying71 Ty.el71 rfl rfl (Int.toNat_of_nonneg zom).symm zom) ?_
  refine kv (v_load rfl (Var.sub1 Ty.sc27 zthr (.head _) (GetN.lit rfl))) ?_
  refine kv (v_geq rfl rfl) ?_
  refine kw_nil<|xw_then ?_
  refine cw_dec rfl (fun hc23=>?_) (fun hc23=>?_)
  rotate_left;(exfalso;omega);rotate_right
  refine qs<|qa<|qa<|qt ?_
  refine cw_ret ?_
  refine xw_then_ret ?_
  refine ret2 rfl (res_tmp rfl) (res_tmp rfl) ?_
  exact⟨rfl,zcov⟩
 |true=>
  replace hn:M.k1.may≤M.k1.op:=hn
  refine fn_enter Tryz.func17 rfl (by kernel_rfl) Tryz.ntmps17 (by simp) ?_
  refine qs<|qa<|qa<|qt<|cw_seq<|qs<|qm ?_
  refine qv (v_eql_nil_some Tryz.underlying35 rfl)<|qt ?_
  refine cw_false rfl<|cw_skip<|xw_then ?_
  refine qs<|qa<|qt<|cw_seq<|qs<|qm<|qt ?_
  refine cw_true rfl<|cw_region<|qa<|qt<|cw_seq ?_
  refine cw_seq ?_
  refine cw_quiet Ty.mixed zdk ?_
  refine kmv ?_
  refine kmv ?_
  refine kv (v_nilCheck rfl) ?_
  refine kv (v_fieldAddr0 Ty.fd73_7 rfl) ?_
  refine kv (v_indexAddrA Tryz.underlying71 Ty.el71 rfl rfl (Int.toNat_of_nonneg zom).symm zom) ?_
  refine kv (v_load rfl (Var.sub1 Ty.sc27 zthr (.head _) (GetN.lit rfl))) ?_
  refine kmv ?_
  refine kmv ?_
  refine kv (v_nilCheck rfl) ?_
  refine kv (v_fieldAddr0 Ty.fd73_8 rfl) ?_
  refine kv (v_indexAddrA Tryz.underlying71 Ty.el71 rfl rfl (Int.toNat_of_nonneg zom).symm zom) ?_
  refine kv (v_load rfl (Var.sub1 Ty.sc27 zthr (.head _) (GetN.lit rfl))) ?_
  refine kv (v_geq rfl rfl) ?_
  refine kw_nil<|xw_then ?_
  refine cw_dec rfl (fun hc23=>?_) (fun hc23=>?_)
  rotate_left;(exfalso;omega);rotate_right
  refine qs<|qa<|qa<|qt ?_
  refine cw_ret ?_
  refine xw_then_ret ?_
  refine ret2 rfl (res_tmp rfl) (res_tmp rfl) ?_
  exact⟨rfl,zcov⟩
set_option maxHeartbeats 1000000 in
theorem open0_c {M:SsM}{ps:List Nat}{b:Nat}{c:Hp}(hsel:Sel G c R)(hM:SsAt M ps b c)(hw:M.WF)(hn:M.k0.op<M.k0.may):
  Go.Sl.Fn Tryz.prog 17 #[.pointer (some ⟨b,0,none⟩),.bool false] B w0 G fun u G'=>∃y:List Nat×Hp,u=.tuple #[.int .u64 (M.nextId 0),.int .i64 0]∧SsAt (M.opened 0) y.1 b y.2∧G'=R y.2:=by
 refine Fn.sel0 hsel fun F hR hF=>?_
 have hM':=hM
 obtain⟨p,cm,cr0,cr1,cs,rfl,hMp,hR0,hR1,hS⟩:=hM
 have hop:=hw.k0.op
 have hnb:=M.next_b hw (k:=0) (.inl rfl)
 have hnn:=M.next_none hw (k:=0) (.inl rfl)
 have e1:idOf M.cl true 0 M.k0.op=M.nextId 0:=rfl
 have e2:(M.cells p).set (18+Int.toNat 0*1) (.int .u64 (M.k0.op+1))=SsM.cells (M.setK 0 {M.k0 with op:=M.k0.op+1}) p:=rfl
 have hN:SsAt (M.setK 0 {M.k0 with op:=M.k0.op+1}) ps b ([(b,.cells (SsM.cells (M.setK 0 {M.k0 with op:=M.k0.op+1}) p).toArray 73 (0,0))]++(cm++(cr0++(cr1++cs)))):=SsAt.swap hMp hR0 hR1 hS rfl rfl rfl
 have hgb:=granted_b (M:=M.setK 0 {M.k0 with op:=M.k0.op+1}) (id:=M.nextId 0) hw.their
 refine fn_enter Tryz.func17 rfl (by kernel_rfl) Tryz.ntmps17 (by simp) ?_
 refine qs<|qa<|qa<|qt<|cw_seq<|qs<|qm ?_
 refine qv (v_eql_nil_some Tryz.underlying35 rfl)<|qt ?_
 refine cw_false rfl<|cw_skip<|xw_then ?_
 refine qs<|qa<|qt<|cw_seq<|qs<|qm<|qt ?_
 refine cw_false rfl<|cw_skip<|xw_then<|cw_seq<|cw_seq ?_
 refine cw_quiet Ty.mixed zdk ?_
 refine kmv ?_
 refine kmv ?_
 refine kv (v_nilCheck rfl) ?_
 refine kv (v_fieldAddr0 Ty.fd73_7 rfl) ?_
 refine kv (v_indexAddrA Tryz.underlying71 Ty.el71 rfl rfl (Int.toNat_of_nonneg zom).symm zom) ?_
 refine kv (v_load rfl (Var.get1 Ty.sc27 .here (.head _) (GetN.lit rfl))) ?_
 refine kmv ?_
 refine kmv ?_
 refine kv (v_nilCheck rfl) ?_
 refine kv (v_fieldAddr0 Ty.fd73_8 rfl) ?_
 refine kv (v_indexAddrA Tryz.underlying71 Ty.el71 rfl rfl (Int.toNat_of_nonneg zom).symm zom) ?_
 refine kv (v_load rfl (Var.get1 Ty.sc27 .here (.head _) (GetN.lit rfl))) ?_
 refine kv (v_geq rfl rfl) ?_
 refine kw_nil<|xw_then ?_
 refine cw_dec rfl (fun hc23=>?_) (fun hc23=>?_)
 (exfalso;omega)
 refine cw_skip<|xw_then<|qs<|qm<|qm<|qm<|qm<|qn ?_
 refine qf Ty.fd73_7 ?_
 refine qv (v_indexAddrA Tryz.underlying71 Ty.el71 rfl rfl (Int.toNat_of_nonneg zom).symm zom) ?_
 refine ql (Var.get1 Ty.sc27 .here (.head _) (GetN.lit rfl)) ?_
 refine ow_val rfl rfl (v_call rfl rfl (number_c hM' zhas (.inl rfl) zom)) ?_
 refine qa<|qt ?_
 rw[e1]
 refine cw_split ?_
 refine cw_seq ?_
 refine cw_mix [] [10] [0,1,2,3,4,5,6,7,8,9] Ty.mixed rfl rfl rfl rfl zdk ?_
 refine hmv ?_
 refine hmv ?_
 refine hw_pure rfl rfl (v_nilCheck rfl) rfl ?_
 refine hw_pure rfl rfl (v_fieldAddr0 Ty.fd73_7 rfl) rfl ?_
 refine hw_pure rfl rfl (v_indexAddrA Tryz.underlying71 Ty.el71 rfl rfl (Int.toNat_of_nonneg zom).symm zom) rfl ?_
 refine hw_read rfl rfl rfl (v_load rfl (Var.at1 Ty.sc27 .here (GetN.lit rfl))) ?_
 refine hw_pure rfl rfl (v_add rfl rfl (nw_u64 zom zom)) rfl ?_
 refine hw_pure rfl rfl (v_nilCheck rfl) rfl ?_
 refine hw_pure rfl rfl (v_fieldAddr0 Ty.fd73_7 rfl) rfl ?_
 refine hw_pure rfl rfl (v_indexAddrA Tryz.underlying71 Ty.el71 rfl rfl (Int.toNat_of_nonneg zom).symm zom) rfl ?_
 refine hw_nil ?_
 refine sw_nil ?_
 refine ow_store1 rfl rfl rfl rfl Ty.sc27 .here (SetN.one zdn)<|ow_nil ?_
 refine xw_np<|xw_then ?_
 rw[e2]
 refine cw_cov (([(b,.cells (SsM.cells (M.setK 0 {M.k0 with op:=M.k0.op+1}) p).toArray 73 (0,0))]++(cm++(cr0++(cr1++cs))))::F) zcov ?_
 refine qs<|qm<|qm<|qm<|qm ?_
 refine qv (v_call rfl rfl (granted_c hN zhas hnb)) ?_
 (refine ow_call rfl rfl rfl rfl (create_c zsel hN hw.own hnn hnb zom) ?_;rintro _ _ ⟨x48,rfl,hq48,rfl⟩)
 refine qt<|qs<|qm<|qa<|qa<|qt ?_
 refine cw_ret ?_
 refine ret2 rfl (res_tmp rfl) (res_tmp rfl) ?_
 exact⟨(ps++[x48.1],x48.2),rfl,hq48,zcov⟩
set_option maxHeartbeats 1000000 in
theorem open1_c {M:SsM}{ps:List Nat}{b:Nat}{c:Hp}(hsel:Sel G c R)(hM:SsAt M ps b c)(hw:M.WF)(hn:M.k1.op<M.k1.may):
  Go.Sl.Fn Tryz.prog 17 #[.pointer (some ⟨b,0,none⟩),.bool true] B w0 G fun u G'=>∃y:List Nat×Hp,u=.tuple #[.int .u64 (M.nextId 1),.int .i64 0]∧SsAt (M.opened 1) y.1 b y.2∧G'=R y.2:=by
 refine Fn.sel0 hsel fun F hR hF=>?_
 have hM':=hM
 obtain⟨p,cm,cr0,cr1,cs,rfl,hMp,hR0,hR1,hS⟩:=hM
 have hop:=hw.k1.op
 have hnb:=M.next_b hw (k:=1) (.inr rfl)
 have hnn:=M.next_none hw (k:=1) (.inr rfl)
 have e1:idOf M.cl true 1 M.k1.op=M.nextId 1:=rfl
 have e2:(M.cells p).set (18+Int.toNat 1*1) (.int .u64 (M.k1.op+1))=SsM.cells (M.setK 1 {M.k1 with op:=M.k1.op+1}) p:=rfl
 have hN:SsAt (M.setK 1 {M.k1 with op:=M.k1.op+1}) ps b ([(b,.cells (SsM.cells (M.setK 1 {M.k1 with op:=M.k1.op+1}) p).toArray 73 (0,0))]++(cm++(cr0++(cr1++cs)))):=SsAt.swap hMp hR0 hR1 hS rfl rfl rfl
 have hgb:=granted_b (M:=M.setK 1 {M.k1 with op:=M.k1.op+1}) (id:=M.nextId 1) hw.their
 refine fn_enter Tryz.func17 rfl (by kernel_rfl) Tryz.ntmps17 (by simp) ?_
 refine qs<|qa<|qa<|qt<|cw_seq<|qs<|qm ?_
 refine qv (v_eql_nil_some Tryz.underlying35 rfl)<|qt ?_
 refine cw_false rfl<|cw_skip<|xw_then ?_
 refine qs<|qa<|qt<|cw_seq<|qs<|qm<|qt ?_
 refine cw_true rfl<|cw_region<|qa<|qt<|cw_seq ?_
 refine cw_seq ?_
 refine cw_quiet Ty.mixed zdk ?_
 refine kmv ?_
 refine kmv ?_
 refine kv (v_nilCheck rfl) ?_
 refine kv (v_fieldAddr0 Ty.fd73_7 rfl) ?_
 refine kv (v_indexAddrA Tryz.underlying71 Ty.el71 rfl rfl (Int.toNat_of_nonneg zom).symm zom) ?_
 refine kv (v_load rfl (Var.get1 Ty.sc27 .here (.head _) (GetN.lit rfl))) ?_
 refine kmv ?_
 refine kmv ?_
 refine kv (v_nilCheck rfl) ?_
 refine kv (v_fieldAddr0 Ty.fd73_8 rfl) ?_
 refine kv (v_indexAddrA Tryz.underlying71 Ty.el71 rfl rfl (Int.toNat_of_nonneg zom).symm zom) ?_
 refine kv (v_load rfl (Var.get1 Ty.sc27 .here (.head _) (GetN.lit rfl))) ?_
 refine kv (v_geq rfl rfl) ?_
 refine kw_nil<|xw_then ?_
 refine cw_dec rfl (fun hc23=>?_) (fun hc23=>?_)
 (exfalso;omega)
 refine cw_skip<|xw_then<|qs<|qm<|qm<|qm<|qm<|qn ?_
 refine qf Ty.fd73_7 ?_
 refine qv (v_indexAddrA Tryz.underlying71 Ty.el71 rfl rfl (Int.toNat_of_nonneg zom).symm zom) ?_
 refine ql (Var.get1 Ty.sc27 .here (.head _) (GetN.lit rfl)) ?_
 refine ow_val rfl rfl (v_call rfl rfl (number_c hM' zhas (.inr rfl) zom)) ?_
 refine qa<|qt ?_
 rw[e1]
 refine cw_split ?_
 refine cw_seq ?_
 refine cw_mix [] [10] [0,1,2,3,4,5,6,7,8,9] Ty.mixed rfl rfl rfl rfl zdk ?_
 refine hmv ?_
 refine hmv ?_
 refine hw_pure rfl rfl (v_nilCheck rfl) rfl ?_
 refine hw_pure rfl rfl (v_fieldAddr0 Ty.fd73_7 rfl) rfl ?_
 refine hw_pure rfl rfl (v_indexAddrA Tryz.underlying71 Ty.el71 rfl rfl (Int.toNat_of_nonneg zom).symm zom) rfl ?_
 refine hw_read rfl rfl rfl (v_load rfl (Var.at1 Ty.sc27 .here (GetN.lit rfl))) ?_
 refine hw_pure rfl rfl (v_add rfl rfl (nw_u64 zom zom)) rfl ?_
 refine hw_pure rfl rfl (v_nilCheck rfl) rfl ?_
 refine hw_pure rfl rfl (v_fieldAddr0 Ty.fd73_7 rfl) rfl ?_
 refine hw_pure rfl rfl (v_indexAddrA Tryz.underlying71 Ty.el71 rfl rfl (Int.toNat_of_nonneg zom).symm zom) rfl ?_
 refine hw_nil ?_
 refine sw_nil ?_
 refine ow_store1 rfl rfl rfl rfl Ty.sc27 .here (SetN.one zdn)<|ow_nil ?_
 refine xw_np<|xw_then ?_
 rw[e2]
 refine cw_cov (([(b,.cells (SsM.cells (M.setK 1 {M.k1 with op:=M.k1.op+1}) p).toArray 73 (0,0))]++(cm++(cr0++(cr1++cs))))::F) zcov ?_
 refine qs<|qm<|qm<|qm<|qm ?_
 refine qv (v_call rfl rfl (granted_c hN zhas hnb)) ?_
 (refine ow_call rfl rfl rfl rfl (create_c zsel hN hw.own hnn hnb zom) ?_;rintro _ _ ⟨x48,rfl,hq48,rfl⟩)
 refine qt<|qs<|qm<|qa<|qa<|qt ?_
 refine cw_ret ?_
 refine ret2 rfl (res_tmp rfl) (res_tmp rfl) ?_
 exact⟨(ps++[x48.1],x48.2),rfl,hq48,zcov⟩
theorem reach_has_c {M:SsM}{ps:List Nat}{b:Nat}{c:Hp}{id:Int}(hsel:Sel G c R)(hM:SsAt M ps b c)(hw:M.WF)(hid:0≤id∧id≤18446744073709551615)(hh:M.has id):
  Go.Sl.Fn Tryz.prog 78 #[.pointer (some ⟨b,0,none⟩),.int .u64 id] B w0 G fun u G'=>∃y:Nat×List Nat×Hp,u=.tuple #[.pointer (some ⟨y.2.1.getD y.1 0,0,none⟩),.int .i64 0]∧(idxS (M.touch id).str id=some y.1∧SsAt (M.touch id) y.2.1 b y.2.2)∧G'=R y.2.2:=by
 refine Fn.sel0 hsel fun F hR hF=>?_
 refine fn_enter Tryz.func78 rfl (by kernel_rfl) Tryz.ntmps78 (by simp) ?_
 refine qs<|qa<|qa<|qt<|cw_seq<|qs<|qm<|qm ?_
 (refine ow_call rfl rfl rfl rfl (get_has_c zsel hM hw hid hh) ?_;rintro _ _ ⟨x11,rfl,hq11,rfl⟩)
 refine qa<|qt<|qs<|qm<|qv (v_neq_nil_some Tryz.underlying45 rfl)<|qt<|cw_true rfl<|qs<|qm<|qa<|qa<|qt ?_
 refine cw_ret<|xw_then_ret<|ret2 rfl (res_tmp rfl) (res_tmp rfl) ?_
 exact⟨x11,rfl,hq11,zcov⟩
theorem reach_over_c {M:SsM}{ps:List Nat}{b:Nat}{c:Hp}{id:Int}(hs:Sub c G)(hM:SsAt M ps b c)(hw:M.WF)(hid:0≤id∧id≤18446744073709551615)(hh:¬M.has id)(hm:M.mine id=false)(hg:(M.kd id).giv≤cnI id):
  Go.Sl.Fn Tryz.prog 78 #[.pointer (some ⟨b,0,none⟩),.int .u64 id] B w0 G fun u G'=>u=.tuple #[.pointer none,.int .i64 15]∧G'=G:=by
 refine Fn.pure ?_
 have hmd:¬decide (oddI id=0)=M.cl:=fun h=>by
  unfold SsM.mine at hm
  rw[decide_eq_true h]at hm
  cases hm
 have hM':=hM
 have hs0:=hs
 obtain⟨p,cm,cr0,cr1,cs,rfl,hMp,hR0,hR1,hS⟩:=hM
 have hs1:=hs.left
 rcases kdI_or (id:=id)with hk|hk
 ·rw[M.kd0 hk]at hg
  replace hg:M.k0.giv≤id/4:=hg
  refine fn_enter Tryz.func78 rfl (by kernel_rfl) Tryz.ntmps78 (by simp) ?_
  refine qs<|qa<|qa<|qt<|cw_seq<|qs<|qm<|qm ?_
  refine ow_val rfl rfl (v_call rfl rfl (get_none_c hs0 hM' hw hid hh)) ?_
  refine qa<|qt<|qs<|qm ?_
  refine qv (v_neq_nil_none Tryz.underlying45 rfl)<|qt ?_
  refine cw_false rfl<|cw_skip<|xw_then<|cw_seq<|qs<|qm ?_
  refine qm ?_
  refine ow_val rfl rfl (v_call rfl rfl (mine_c hM' hs0 hid)) ?_
  refine qt ?_
  refine cw_dec rfl (fun hc17=>?_) (fun hc17=>?_)
  refine qs<|qa<|qa<|qt ?_
  refine cw_ret ?_
  refine xw_then_ret ?_
  refine ret2 rfl (res_tmp rfl) (res_tmp rfl) ?_
  rotate_left
  refine cw_skip<|xw_then<|qs<|qm ?_
  refine qv (v_call rfl rfl (kindK_c hk hid))<|qm ?_
  refine ow_val rfl rfl (v_shrP (p:=4) rfl rfl zom (by decide) zom (by decide)) ?_
  refine qa<|qa<|qt<|cw_seq<|qs<|qm<|qm<|qm<|qn ?_
  refine qf Ty.fd73_10 ?_
  refine qv (v_indexAddrA Tryz.underlying71 Ty.el71 rfl rfl (Int.toNat_of_nonneg zom).symm zom) ?_
  refine ql (Var.sub1 Ty.sc27 zthr (.head _) (GetN.lit rfl)) ?_
  refine qv (v_geq rfl rfl)<|qt ?_
  refine cw_dec rfl (fun hc29=>?_) (fun hc29=>?_)
  rotate_left;(exfalso;omega);rotate_right
  refine qs<|qa<|qa<|qt ?_
  refine cw_ret ?_
  refine xw_then_ret ?_
  refine ret2 rfl (res_tmp rfl) (res_tmp rfl) ?_
  rotate_left
  ·exact absurd hc17 hmd
  ·exact⟨rfl,zcov⟩
 ·rw[M.kd1 hk]at hg
  replace hg:M.k1.giv≤id/4:=hg
  refine fn_enter Tryz.func78 rfl (by kernel_rfl) Tryz.ntmps78 (by simp) ?_
  refine qs<|qa<|qa<|qt<|cw_seq<|qs<|qm<|qm ?_
  refine ow_val rfl rfl (v_call rfl rfl (get_none_c hs0 hM' hw hid hh)) ?_
  refine qa<|qt<|qs<|qm ?_
  refine qv (v_neq_nil_none Tryz.underlying45 rfl)<|qt ?_
  refine cw_false rfl<|cw_skip<|xw_then<|cw_seq<|qs<|qm ?_
  refine qm ?_
  refine ow_val rfl rfl (v_call rfl rfl (mine_c hM' hs0 hid)) ?_
  refine qt ?_
  refine cw_dec rfl (fun hc17=>?_) (fun hc17=>?_)
  refine qs<|qa<|qa<|qt ?_
  refine cw_ret ?_
  refine xw_then_ret ?_
  refine ret2 rfl (res_tmp rfl) (res_tmp rfl) ?_
  rotate_left
  refine cw_skip<|xw_then<|qs<|qm ?_
  refine qv (v_call rfl rfl (kindK_c hk hid))<|qm ?_
  refine ow_val rfl rfl (v_shrP (p:=4) rfl rfl zom (by decide) zom (by decide)) ?_
  refine qa<|qa<|qt<|cw_seq<|qs<|qm<|qm<|qm<|qn ?_
  refine qf Ty.fd73_10 ?_
  refine qv (v_indexAddrA Tryz.underlying71 Ty.el71 rfl rfl (Int.toNat_of_nonneg zom).symm zom) ?_
  refine ql (Var.sub1 Ty.sc27 zthr (.head _) (GetN.lit rfl)) ?_
  refine qv (v_geq rfl rfl)<|qt ?_
  refine cw_dec rfl (fun hc29=>?_) (fun hc29=>?_)
  rotate_left;(exfalso;omega);rotate_right
  refine qs<|qa<|qa<|qt ?_
  refine cw_ret ?_
  refine xw_then_ret ?_
  refine ret2 rfl (res_tmp rfl) (res_tmp rfl) ?_
  rotate_left
  ·exact absurd hc17 hmd
  ·exact⟨rfl,zcov⟩
theorem b_run {a b' g:Int}:Build Tryz.prog 103 #[(0,.int .u64 a),(1,.int .u64 b'),(2,.int .u64 g)] (.agg (RunM.cells ⟨a,b',g⟩).toArray):=fun w=>by kernel_rfl
theorem grantedB_c {M:SsM}{p:SsP}{b:Nat}{id:Int}(hs:Sub [(b,.cells (M.cells p).toArray 73 (0,0))] G)(h:0≤id∧id≤18446744073709551615):
  Go.Sl.Fn Tryz.prog 47 #[.pointer (some ⟨b,0,none⟩),.int .u64 id] B w0 G fun u G'=>u=.int .u64 (M.granted id)∧G'=G:=by
 refine Fn.pure ?_
 refine fn_enter Tryz.func47 rfl (by kernel_rfl) Tryz.ntmps47 (by simp) ?_
 refine qs<|qa<|qt<|cw_seq<|cw_block<|qs<|qm<|qv (v_call rfl rfl (kind_c h))<|qv (v_eql rfl rfl)<|qa<|qt ?_
 refine cw_dec rfl (fun hc5=>?_) (fun hc5=>?_)
 refine qs<|qm<|qn<|qf Ty.fd73_4<|qv (v_fieldAddr Ty.fd59_2 rfl)<|ql (Var.sub1 Ty.sc27 zthr (.head _) (GetN.lit rfl))<|qa<|qt<|cw_ret<|xw_block_ret<|xw_then_ret<|ret1 rfl (res_tmp rfl) ?_
 rotate_left
 refine qs<|qm<|qm<|qv (v_call rfl rfl (mineB_c hs h))<|qa<|qt ?_
 refine cw_dec rfl (fun hc14=>?_) (fun hc14=>?_)
 refine qs<|qm<|qn<|qf Ty.fd73_4<|qv (v_fieldAddr Ty.fd59_1 rfl)<|ql (Var.sub1 Ty.sc27 zthr (.head _) (GetN.lit rfl))<|qa<|qt<|cw_ret<|xw_block_ret<|xw_then_ret<|ret1 rfl (res_tmp rfl) ?_
 rotate_left
 refine cw_skip<|xw_block<|xw_then<|qs<|qm<|qn<|qf Ty.fd73_4<|qv (v_fieldAddr Ty.fd59_0 rfl)<|ql (Var.sub1 Ty.sc27 zthr (.head _) (GetN.lit rfl))<|qa<|qt<|cw_ret ?_
 refine ret1 rfl (res_tmp rfl) ?_
 rotate_left
 ·unfold SsM.granted
  rw[if_pos hc5]
  exact⟨rfl,zcov⟩
 ·unfold SsM.granted
  rw[if_neg hc5,if_pos (by unfold SsM.mine;exact decide_eq_true hc14)]
  exact⟨rfl,zcov⟩
 ·unfold SsM.granted
  rw[if_neg hc5,if_neg (by unfold SsM.mine;simpa using hc14)]
  exact⟨rfl,zcov⟩
set_option maxHeartbeats 1000000 in
theorem reach_new0_c {M:SsM}{ps:List Nat}{b:Nat}{c:Hp}{id:Int}(hsel:Sel G c R)(hM:SsAt M ps b c)(hw:M.WF)(hid:0≤id∧id≤18446744073709551615)(hh:¬M.has id)(hm:M.mine id=false)(hg:cnI id<(M.kd id).giv)(hk:kdI id=0)(hw':(M.reached id).WF)(hh':(M.reached id).has id):
  Go.Sl.Fn Tryz.prog 78 #[.pointer (some ⟨b,0,none⟩),.int .u64 id] B w0 G fun u G'=>∃y:Nat×List Nat×Hp,u=.tuple #[.pointer (some ⟨y.2.1.getD y.1 0,0,none⟩),.int .i64 0]∧(idxS ((M.reached id).touch id).str id=some y.1∧SsAt ((M.reached id).touch id) y.2.1 b y.2.2)∧G'=R y.2.2:=by
 refine Fn.sel0 hsel fun F hR hF=>?_
 have hmd:¬decide (oddI id=0)=M.cl:=fun h=>by
  unfold SsM.mine at hm
  rw[decide_eq_true h]at hm
  cases hm
 have hM':=hM
 obtain⟨p,cm,cr0,cr1,cs,rfl,hMp,hR0,hR1,hS⟩:=hM
 have er:M.reached id={M with r0:=M.r0++[⟨M.k0.came,id/4+1,M.granted id⟩],k0:={M.k0 with came:=id/4+1}}:=by
  unfold SsM.reached
  rw[hk,M.kd0 hk]
  rfl
 rw[er]at hw' hh'⊢
 rw[M.kd0 hk]at hg
 replace hg:id/4<M.k0.giv:=hg
 have hn0:=hw.n0
 have hok1:enRn.ok ⟨M.k0.came,id/4+1,M.granted id⟩:=trivial
 refine fn_enter Tryz.func78 rfl (by kernel_rfl) Tryz.ntmps78 (by simp) ?_
 refine qs<|qa<|qa<|qt<|cw_seq<|qs<|qm<|qm ?_
 refine ow_val rfl rfl (v_call rfl rfl (get_none_c zhas hM' hw hid hh)) ?_
 refine qa<|qt<|qs<|qm ?_
 refine qv (v_neq_nil_none Tryz.underlying45 rfl)<|qt ?_
 refine cw_false rfl<|cw_skip<|xw_then<|cw_seq<|qs<|qm ?_
 refine qm ?_
 refine ow_val rfl rfl (v_call rfl rfl (mine_c hM' zhas hid)) ?_
 refine qt ?_
 refine cw_dec rfl (fun hc17=>?_) (fun hc17=>?_)
 refine qs<|qa<|qa<|qt ?_
 refine cw_ret ?_
 refine xw_then_ret ?_
 refine ret2 rfl (res_tmp rfl) (res_tmp rfl) ?_
 rotate_left
 refine cw_skip<|xw_then<|qs<|qm ?_
 refine qv (v_call rfl rfl (kindK_c hk hid))<|qm ?_
 refine ow_val rfl rfl (v_shrP (p:=4) rfl rfl zom (by decide) zom (by decide)) ?_
 refine qa<|qa<|qt<|cw_seq<|qs<|qm<|qm<|qm<|qn ?_
 refine qf Ty.fd73_10 ?_
 refine qv (v_indexAddrA Tryz.underlying71 Ty.el71 rfl rfl (Int.toNat_of_nonneg zom).symm zom) ?_
 refine ql (Var.get1 Ty.sc27 .here (.head _) (GetN.lit rfl)) ?_
 refine qv (v_geq rfl rfl)<|qt ?_
 refine cw_dec rfl (fun hc29=>?_) (fun hc29=>?_)
 (exfalso;omega)
 refine cw_skip<|xw_then ?_
 rotate_left
 ·exact absurd hc17 hmd
 ·refine cw_split4 ?_
  refine cw_seq ?_
  refine cw_mix [20] [21,24,25] [0,1,2,3,4,5,6,7,8,9,10,11,12,13,14,15,16,17,18,19,22,23] Ty.mixed rfl rfl rfl rfl zdk ?_
  refine hmv ?_
  refine hmv ?_
  refine hmv ?_
  refine hmv ?_
  refine hw_pure rfl rfl (v_nilCheck rfl) rfl ?_
  refine hw_pure rfl rfl (v_fieldAddr0 Ty.fd73_6 rfl) rfl ?_
  refine hw_pure rfl rfl (v_indexAddrA Tryz.underlying70 Ty.el70 rfl rfl (Int.toNat_of_nonneg zom).symm zom) rfl ?_
  refine hw_read rfl rfl rfl (v_load rfl (Var.at1 Ty.sc69 .here (GetN.lit rfl))) ?_
  refine hmv ?_
  refine hmv ?_
  refine hw_pure rfl rfl (v_nilCheck rfl) rfl ?_
  refine hw_pure rfl rfl (v_fieldAddr0 Ty.fd73_9 rfl) rfl ?_
  refine hw_pure rfl rfl (v_indexAddrA Tryz.underlying71 Ty.el71 rfl rfl (Int.toNat_of_nonneg zom).symm zom) rfl ?_
  refine hw_read rfl rfl rfl (v_load rfl (Var.at1 Ty.sc27 .here (GetN.lit rfl))) ?_
  refine hmv ?_
  refine hw_pure rfl rfl (v_add rfl rfl (nw_u64 zom zom)) rfl ?_
  refine hmv ?_
  refine hmv ?_
  refine hw_read rfl rfl rfl (v_call rfl rfl (grantedB_c zhas hid)) ?_
  refine hw_pure rfl rfl (v_build rfl (b_run)) rfl ?_
  refine hw_pure rfl rfl (v_nilCheck rfl) rfl ?_
  refine hw_pure rfl rfl (v_fieldAddr0 Ty.fd73_6 rfl) rfl ?_
  refine hw_nil ?_
  (refine sw_buildL (es:=([_])) rfl rfl Tryz.underlying69 Ty.em69 (rnTy) rfl rfl (by first|(simp[*];done)|(repeat (first|exact List.forall_mem_nil _|refine List.forall_mem_cons.2 ⟨?_,?_⟩|assumption|(show _∧_;omega)))) (by simp only[List.length_cons,List.length_nil];decide) ?_;intro ao50 c50 hL50)
  refine sw_nil ?_
  (refine ow_appendL rfl rfl Tryz.underlying69 Tryz.underlying69 Ty.em69 (rnTy) rfl rfl zas zsel (Go.Sl.Ls.vw zas zhas) zlo zlo ?_;intro ao51 cap51 c51 hL51)
  refine qv (v_indexAddrA Tryz.underlying70 Ty.el70 rfl rfl (Int.toNat_of_nonneg zom).symm zom) ?_
  refine ow_store1 rfl rfl rfl rfl Ty.sc69 (.there .here) (SetN.one zdn)<|ow_nil ?_
  refine xw_np<|xw_then<|qs<|qm<|qm<|qm ?_
  refine qv (v_add rfl rfl (nw_u64 zom zom))<|qn ?_
  refine qf Ty.fd73_9 ?_
  refine qv (v_indexAddrA Tryz.underlying71 Ty.el71 rfl rfl (Int.toNat_of_nonneg zom).symm zom) ?_
  refine ow_store1 rfl rfl rfl rfl Ty.sc27 (.there .here) (SetN.one zdn)<|qt ?_
  have hN:SsAt {M with r0:=M.r0++[⟨M.k0.came,id/4+1,M.granted id⟩],k0:={M.k0 with came:=id/4+1}} ps b ([(b,.cells (SsM.cells {M with r0:=M.r0++[⟨M.k0.came,id/4+1,M.granted id⟩],k0:={M.k0 with came:=id/4+1}} {p with a0:=ao51,c0:=cap51}).toArray 73 (0,0))]++(cm++(c51++(cr1++cs)))):=⟨{p with a0:=ao51,c0:=cap51},cm,c51,cr1,cs,rfl,hMp,hL51,hR1,hS⟩
  have ec:((M.cells p).set (16+Int.toNat 0*1) (Value.slice ao51 (M.r0++[(⟨M.k0.came,id/4+1,M.granted id⟩:RunM)]).length cap51)).set (22+Int.toNat 0*1) (Value.int IntKind.u64 (id/4+1))=SsM.cells {M with r0:=M.r0++[⟨M.k0.came,id/4+1,M.granted id⟩],k0:={M.k0 with came:=id/4+1}} {p with a0:=ao51,c0:=cap51}:=rfl
  rw[ec]
  refine cw_cov (([(b,.cells (SsM.cells {M with r0:=M.r0++[⟨M.k0.came,id/4+1,M.granted id⟩],k0:={M.k0 with came:=id/4+1}} {p with a0:=ao51,c0:=cap51}).toArray 73 (0,0))]++(cm++(c51++(cr1++cs))))::F) zcov ?_
  refine qs<|qm<|qm ?_
  (refine ow_call rfl rfl rfl rfl (get_has_c zsel hN hw' hid hh') ?_;rintro _ _ ⟨x64,rfl,hq64,rfl⟩)
  refine qa<|qa<|qt ?_
  refine cw_ret ?_
  refine ret2 rfl (res_tmp rfl) (res_tmp rfl) ?_
  exact⟨x64,rfl,hq64,zcov⟩
set_option maxHeartbeats 1000000 in
theorem reach_new1_c {M:SsM}{ps:List Nat}{b:Nat}{c:Hp}{id:Int}(hsel:Sel G c R)(hM:SsAt M ps b c)(hw:M.WF)(hid:0≤id∧id≤18446744073709551615)(hh:¬M.has id)(hm:M.mine id=false)(hg:cnI id<(M.kd id).giv)(hk:kdI id=1)(hw':(M.reached id).WF)(hh':(M.reached id).has id):
  Go.Sl.Fn Tryz.prog 78 #[.pointer (some ⟨b,0,none⟩),.int .u64 id] B w0 G fun u G'=>∃y:Nat×List Nat×Hp,u=.tuple #[.pointer (some ⟨y.2.1.getD y.1 0,0,none⟩),.int .i64 0]∧(idxS ((M.reached id).touch id).str id=some y.1∧SsAt ((M.reached id).touch id) y.2.1 b y.2.2)∧G'=R y.2.2:=by
 refine Fn.sel0 hsel fun F hR hF=>?_
 have hmd:¬decide (oddI id=0)=M.cl:=fun h=>by
  unfold SsM.mine at hm
  rw[decide_eq_true h]at hm
  cases hm
 have hM':=hM
 obtain⟨p,cm,cr0,cr1,cs,rfl,hMp,hR0,hR1,hS⟩:=hM
 have er:M.reached id={M with r1:=M.r1++[⟨M.k1.came,id/4+1,M.granted id⟩],k1:={M.k1 with came:=id/4+1}}:=by
  unfold SsM.reached
  rw[hk,M.kd1 hk]
  rfl
 rw[er]at hw' hh'⊢
 rw[M.kd1 hk]at hg
 replace hg:id/4<M.k1.giv:=hg
 have hn0:=hw.n1
 have hok1:enRn.ok ⟨M.k1.came,id/4+1,M.granted id⟩:=trivial
 refine fn_enter Tryz.func78 rfl (by kernel_rfl) Tryz.ntmps78 (by simp) ?_
 refine qs<|qa<|qa<|qt<|cw_seq<|qs<|qm<|qm ?_
 refine ow_val rfl rfl (v_call rfl rfl (get_none_c zhas hM' hw hid hh)) ?_
 refine qa<|qt<|qs<|qm ?_
 refine qv (v_neq_nil_none Tryz.underlying45 rfl)<|qt ?_
 refine cw_false rfl<|cw_skip<|xw_then<|cw_seq<|qs<|qm ?_
 refine qm ?_
 refine ow_val rfl rfl (v_call rfl rfl (mine_c hM' zhas hid)) ?_
 refine qt ?_
 refine cw_dec rfl (fun hc17=>?_) (fun hc17=>?_)
 refine qs<|qa<|qa<|qt ?_
 refine cw_ret ?_
 refine xw_then_ret ?_
 refine ret2 rfl (res_tmp rfl) (res_tmp rfl) ?_
 rotate_left
 refine cw_skip<|xw_then<|qs<|qm ?_
 refine qv (v_call rfl rfl (kindK_c hk hid))<|qm ?_
 refine ow_val rfl rfl (v_shrP (p:=4) rfl rfl zom (by decide) zom (by decide)) ?_
 refine qa<|qa<|qt<|cw_seq<|qs<|qm<|qm<|qm<|qn ?_
 refine qf Ty.fd73_10 ?_
 refine qv (v_indexAddrA Tryz.underlying71 Ty.el71 rfl rfl (Int.toNat_of_nonneg zom).symm zom) ?_
 refine ql (Var.get1 Ty.sc27 .here (.head _) (GetN.lit rfl)) ?_
 refine qv (v_geq rfl rfl)<|qt ?_
 refine cw_dec rfl (fun hc29=>?_) (fun hc29=>?_)
 (exfalso;omega)
 refine cw_skip<|xw_then ?_
 rotate_left
 ·exact absurd hc17 hmd
 ·refine cw_cov ([(b,.cells (M.cells p).toArray 73 (0,0))]::cm::cr1::(cr0++cs)::F) zcov ?_
  refine cw_seq ?_
  refine cw_mix [20] [21,24,25] [0,1,2,3,4,5,6,7,8,9,10,11,12,13,14,15,16,17,18,19,22,23] Ty.mixed rfl rfl rfl rfl zdk ?_
  refine hmv ?_
  refine hmv ?_
  refine hmv ?_
  refine hmv ?_
  refine hw_pure rfl rfl (v_nilCheck rfl) rfl ?_
  refine hw_pure rfl rfl (v_fieldAddr0 Ty.fd73_6 rfl) rfl ?_
  refine hw_pure rfl rfl (v_indexAddrA Tryz.underlying70 Ty.el70 rfl rfl (Int.toNat_of_nonneg zom).symm zom) rfl ?_
  refine hw_read rfl rfl rfl (v_load rfl (Var.at1 Ty.sc69 .here (GetN.lit rfl))) ?_
  refine hmv ?_
  refine hmv ?_
  refine hw_pure rfl rfl (v_nilCheck rfl) rfl ?_
  refine hw_pure rfl rfl (v_fieldAddr0 Ty.fd73_9 rfl) rfl ?_
  refine hw_pure rfl rfl (v_indexAddrA Tryz.underlying71 Ty.el71 rfl rfl (Int.toNat_of_nonneg zom).symm zom) rfl ?_
  refine hw_read rfl rfl rfl (v_load rfl (Var.at1 Ty.sc27 .here (GetN.lit rfl))) ?_
  refine hmv ?_
  refine hw_pure rfl rfl (v_add rfl rfl (nw_u64 zom zom)) rfl ?_
  refine hmv ?_
  refine hmv ?_
  refine hw_read rfl rfl rfl (v_call rfl rfl (grantedB_c zhas hid)) ?_
  refine hw_pure rfl rfl (v_build rfl (b_run)) rfl ?_
  refine hw_pure rfl rfl (v_nilCheck rfl) rfl ?_
  refine hw_pure rfl rfl (v_fieldAddr0 Ty.fd73_6 rfl) rfl ?_
  refine hw_nil ?_
  (refine sw_buildL (es:=([_])) rfl rfl Tryz.underlying69 Ty.em69 (rnTy) rfl rfl (by first|(simp[*];done)|(repeat (first|exact List.forall_mem_nil _|refine List.forall_mem_cons.2 ⟨?_,?_⟩|assumption|(show _∧_;omega)))) (by simp only[List.length_cons,List.length_nil];decide) ?_;intro ao50 c50 hL50)
  refine sw_nil ?_
  (refine ow_appendL rfl rfl Tryz.underlying69 Tryz.underlying69 Ty.em69 (rnTy) rfl rfl zas zsel (Go.Sl.Ls.vw zas zhas) zlo zlo ?_;intro ao51 cap51 c51 hL51)
  refine qv (v_indexAddrA Tryz.underlying70 Ty.el70 rfl rfl (Int.toNat_of_nonneg zom).symm zom) ?_
  refine ow_store1 rfl rfl rfl rfl Ty.sc69 (.there .here) (SetN.one zdn)<|ow_nil ?_
  refine xw_np<|xw_then<|qs<|qm<|qm<|qm ?_
  refine qv (v_add rfl rfl (nw_u64 zom zom))<|qn ?_
  refine qf Ty.fd73_9 ?_
  refine qv (v_indexAddrA Tryz.underlying71 Ty.el71 rfl rfl (Int.toNat_of_nonneg zom).symm zom) ?_
  refine ow_store1 rfl rfl rfl rfl Ty.sc27 (.there .here) (SetN.one zdn)<|qt ?_
  have hN:SsAt {M with r1:=M.r1++[⟨M.k1.came,id/4+1,M.granted id⟩],k1:={M.k1 with came:=id/4+1}} ps b ([(b,.cells (SsM.cells {M with r1:=M.r1++[⟨M.k1.came,id/4+1,M.granted id⟩],k1:={M.k1 with came:=id/4+1}} {p with a1:=ao51,c1:=cap51}).toArray 73 (0,0))]++(cm++(cr0++(c51++cs)))):=⟨{p with a1:=ao51,c1:=cap51},cm,cr0,c51,cs,rfl,hMp,hR0,hL51,hS⟩
  have ec:((M.cells p).set (16+Int.toNat 1*1) (Value.slice ao51 (M.r1++[(⟨M.k1.came,id/4+1,M.granted id⟩:RunM)]).length cap51)).set (22+Int.toNat 1*1) (Value.int IntKind.u64 (id/4+1))=SsM.cells {M with r1:=M.r1++[⟨M.k1.came,id/4+1,M.granted id⟩],k1:={M.k1 with came:=id/4+1}} {p with a1:=ao51,c1:=cap51}:=rfl
  rw[ec]
  refine cw_cov (([(b,.cells (SsM.cells {M with r1:=M.r1++[⟨M.k1.came,id/4+1,M.granted id⟩],k1:={M.k1 with came:=id/4+1}} {p with a1:=ao51,c1:=cap51}).toArray 73 (0,0))]++(cm++(cr0++(c51++cs))))::F) zcov ?_
  refine qs<|qm<|qm ?_
  (refine ow_call rfl rfl rfl rfl (get_has_c zsel hN hw' hid hh') ?_;rintro _ _ ⟨x64,rfl,hq64,rfl⟩)
  refine qa<|qa<|qt ?_
  refine cw_ret ?_
  refine ret2 rfl (res_tmp rfl) (res_tmp rfl) ?_
  exact⟨x64,rfl,hq64,zcov⟩
end Go.Proofs.YtnlaffkihohfkaaGreat
namespace Go.Proofs.YtnlaffkihohfkaaGreat
open Go Go.Sl Go.Proofs
variable {B:Nat}{w0:World}{G:List Hp}{R:Hp→List Hp}
def Reach (B:Nat)(w0:World)(M M1:SsM)(b:Nat)(ps:List Nat)(c:Hp)(id:Int):Prop:=∀(G:List Hp) (R:Hp→List Hp),Sel G c R→
  Go.Sl.Fn Tryz.prog 78 #[.pointer (some ⟨b,0,none⟩),.int .u64 id] B w0 G fun u G'=>∃y:Nat×List Nat×Hp,u=.tuple #[.pointer (some ⟨y.2.1.getD y.1 0,0,none⟩),.int .i64 0]∧(idxS M1.str id=some y.1∧SsAt M1 y.2.1 b y.2.2)∧G'=R y.2.2
def SsM.come (M:SsM)(id:Int):SsM:=if M.has id then M.touch id else (M.reached id).touch id
theorem reached_kd {M:SsM}{id j:Int}:(M.reached id).kd j=if kdI j=kdI id then {M.kd j with came:=cnI id+1} else M.kd j:=by
 unfold SsM.reached SsM.setK SsM.setR SsM.kd SsM.rn
 rcases kdI_or (id:=j)with h1|h1<;>rcases kdI_or (id:=id)with h2|h2<;>simp[h1,h2]
theorem SsM.reached_has {M:SsM}{id:Int}(hid:0≤id)(hm:M.mine id=false):(M.reached id).has id:=by
 have h1:(M.reached id).mine id=M.mine id:=by
  unfold SsM.reached SsM.setK SsM.setR
  split<;>rfl
 refine⟨hid,?_⟩
 rw[h1,hm,reached_kd,if_pos rfl]
 show cnI id<cnI id+1
 omega
theorem RunsOK.snoc {rs:List RunM}{came n g:Int}(h:RunsOK rs came g)(h1:came≤n)(h0:0≤came)(h2:n<1000000):RunsOK (rs++[⟨came,n+1,g⟩]) (n+1) g:=by
 refine⟨?_,?_,?_,?_,?_,?_⟩
 ·rw[List.pairwise_append]
  refine⟨h.up,List.pairwise_singleton _ _,fun x hx y hy=>?_⟩
  have:=h.top x hx
  simp only[List.mem_singleton]at hy
  subst hy
  show x.b≤n+1
  omega
 ·intro r hr
  rcases List.mem_append.1 hr with hr|hr
  ·exact h.got r hr
  ·simp only[List.mem_singleton]at hr
   subst hr
   rfl
 ·intro r hr
  rcases List.mem_append.1 hr with hr|hr
  ·exact h.rng r hr
  ·simp only[List.mem_singleton]at hr
   subst hr
   show (0≤came∧came≤1000000000)∧(0≤n+1∧n+1≤1000000000)
   omega
 ·exact fun _=>⟨⟨came,n+1,g⟩,by simp,rfl⟩
 ·intro r hr
  rcases List.mem_append.1 hr with hr|hr
  ·have:=h.top r hr
   omega
  ·simp only[List.mem_singleton]at hr
   subst hr
   exact Int.le_refl _
 ·rw[List.length_append,List.length_singleton]
  have:=h.few
  omega
theorem SsM.reached_wf {M:SsM}{id:Int}(hw:M.WF)(hid:0≤id)(hm:M.mine id=false)(hh:¬M.has id)(hg:cnI id<(M.kd id).giv)(hg':(M.kd id).giv≤1000000):(M.reached id).WF:=by
 have hc:(M.kd id).came≤cnI id:=by
  refine Int.not_lt.1 fun h=>hh ⟨hid,?_⟩
  rw[if_neg (by rw[hm];decide)]
  exact h
 have hmj:∀j,(M.reached id).mine j=M.mine j:=fun j=>by
  unfold SsM.reached SsM.setK SsM.setR
  split<;>rfl
 have hst:(M.reached id).str=M.str:=by
  unfold SsM.reached SsM.setK SsM.setR
  split<;>rfl
 have hop:∀j,((M.reached id).kd j).op=(M.kd j).op:=fun j=>by
  rw[reached_kd]
  split<;>rfl
 have hcm:∀j,(M.kd j).came≤((M.reached id).kd j).came:=fun j=>by
  rw[reached_kd]
  split
  ·next h=>
   show (M.kd j).came≤cnI id+1
   have:M.kd j=M.kd id:=by unfold SsM.kd;rw[h]
   rw[this]
   omega
  ·exact Int.le_refl _
 have hex:∀x∈(M.reached id).str,x.id≤18446744073709551615∧0≤x.id∧(if (M.reached id).mine x.id=true then cnI x.id<((M.reached id).kd x.id).op else cnI x.id<((M.reached id).kd x.id).came):=by
  rw[hst]
  intro x hx
  obtain⟨h1,h2,h3⟩:=hw.ex x hx
  refine⟨h1,h2,?_⟩
  rw[hmj,hop]
  have:=hcm x.id
  split at h3
  ·next h=>rw[if_pos h];exact h3
  ·next h=>rw[if_neg h];omega
 have hmn:∀j,0≤j→(M.reached id).mine j=true→cnI j<((M.reached id).kd j).op→∃i,idxS (M.reached id).str j=some i:=by
  intro j h0 h1 h2
  rw[hst]
  rw[hmj]at h1
  rw[hop]at h2
  exact hw.mn j h0 h1 h2
 have hcn:0≤cnI id:=by unfold cnI;omega
 rcases kdI_or (id:=id)with hk|hk
 ·rw[M.kd0 hk]at hc hg hg'
  have er:M.reached id={M with r0:=M.r0++[⟨M.k0.came,cnI id+1,M.granted id⟩],k0:={M.k0 with came:=cnI id+1}}:=by
   unfold SsM.reached
   rw[hk,M.kd0 hk]
   rfl
  have hgr:M.granted id=M.their.l:=by
   unfold SsM.granted
   rw[if_neg zom,hm]
   rfl
  rw[er]at hex hmn⊢
  have h0:=hw.k0
  refine⟨hw.giv,hw.got,hw.own,hw.their,hw.str,hw.nd,hex,⟨h0.op,h0.may,?_,h0.giv,h0.told⟩,hw.k1,?_,hw.r1,hmn⟩
  ·show 0≤cnI id+1∧cnI id+1≤1000000
   omega
  ·rw[hgr]
   exact hw.r0.snoc hc h0.came.1 zom
 ·rw[M.kd1 hk]at hc hg hg'
  have er:M.reached id={M with r1:=M.r1++[⟨M.k1.came,cnI id+1,M.granted id⟩],k1:={M.k1 with came:=cnI id+1}}:=by
   unfold SsM.reached
   rw[hk,M.kd1 hk]
   rfl
  have hgr:M.granted id=M.their.u:=by
   unfold SsM.granted
   rw[if_pos hk]
  rw[er]at hex hmn⊢
  have h0:=hw.k1
  refine⟨hw.giv,hw.got,hw.own,hw.their,hw.str,hw.nd,hex,hw.k0,⟨h0.op,h0.may,?_,h0.giv,h0.told⟩,hw.r0,?_,hmn⟩
  ·show 0≤cnI id+1∧cnI id+1≤1000000
   omega
  ·rw[hgr]
   exact hw.r1.snoc hc h0.came.1 zom
theorem reach_ok {M:SsM}{ps:List Nat}{b:Nat}{c:Hp}{id:Int}(hM:SsAt M ps b c)(hw:M.WF)(hid:0≤id∧id≤18446744073709551615)(hh:M.has id∨(M.mine id=false∧cnI id<(M.kd id).giv∧(M.kd id).giv≤1000000)):Reach B w0 M (M.come id) b ps c id:=fun G R hsel=>by
 unfold SsM.come
 by_cases h:M.has id
 ·rw[if_pos h]
  exact reach_has_c hsel hM hw hid h
 ·rw[if_neg h]
  obtain⟨h1,h2,h3⟩:=hh.resolve_left h
  rcases kdI_or (id:=id)with hk|hk
  ·exact reach_new0_c hsel hM hw hid h h1 h2 hk (SsM.reached_wf hw hid.1 h1 h h2 h3) (SsM.reached_has hid.1 h1)
  ·exact reach_new1_c hsel hM hw hid h h1 h2 hk (SsM.reached_wf hw hid.1 h1 h h2 h3) (SsM.reached_has hid.1 h1)
theorem sub_of_R {F:List Hp}{R:Hp→List Hp}{cd:Hp}(hR:∀x,(R x).Perm (x::F))(h:∀c',Sub cd (R c')):Sub cd F:=fun p hp=>by
 have h1:=h [] p hp
 have h2:=(hR []).flatten.mem_iff (a:=p)
 simpa using h2.1 h1
theorem Sub.app {a b:Hp}{G:List Hp}(h1:Sub a G)(h2:Sub b G):Sub (a++b) G:=fun p hp=>(List.mem_append.1 hp).elim (h1 p) (h2 p)
set_option maxHeartbeats 4000000 in
theorem data_c {M M1:SsM}{ps:List Nat}{b:Nat}{c cd:Hp}{f:FsM}{ao:Option Addr}{cap:Nat}{x:SmM}{m:InM}(hsel:Sel G c R)(hre:Reach B w0 M M1 b ps c f.id)(hx:∀i,idxS M1.str f.id=some i→M1.str[i]?=some x)(hxw:x.WF)(hgw:M1.giv.WF)(hr:x.recv=1)(hm:x.inn=some m)
  (hD:Ls enB 5 (.slice ao f.data.length cap) cd f.data) (hsd:∀c',Sub cd (R c')) (hf:0≤f.off∧f.off+f.data.length≤1000000000) (hag:m.Agree (max f.off m.read) (m.fresh f.off f.data)) (hroom:M1.roomE x (m.more (f.off+f.data.length))=0) (hadd:m.addE f.off f.data f.fin=0):
  Go.Sl.Fn Tryz.prog 51 #[.pointer (some ⟨b,0,none⟩),.agg (f.cells ao cap).toArray] B w0 G fun u G'=>∃y:Nat×List Nat×Hp,u=.int .i64 0∧(idxS M1.str f.id=some y.1∧SsAt (M1.data y.1 x m f) y.2.1 b y.2.2)∧G'=R y.2.2:=by
 refine Fn.sel0 hsel fun F hR hF=>?_
 have hcd:=sub_of_R hR hsd
 have fl:=f.len (ao:=ao) (cap:=cap)
 have fo:=f.one (ao:=ao) (cap:=cap)
 have hmw:=hxw.inn m hm
 have e0:x.rise (f.off+f.data.length)=m.more (f.off+f.data.length):=by
  unfold SmM.rise SmM.high InM.more
  rw[hm]
  rfl
 have hmo:0≤m.more (f.off+f.data.length)∧m.more (f.off+f.data.length)≤1000000000:=by
  have:=hmw.rd
  unfold InM.more
  split<;>omega
 refine fn_enter Tryz.func51 rfl (by kernel_rfl) Tryz.ntmps51 (by simp) ?_
 refine qs ?_
 refine ow_box rfl rfl rfl rfl fun b3=>qa<|qt<|cw_seq<|qs<|qm ?_
 refine qv (v_eql_nil_some Tryz.underlying35 rfl)<|qt ?_
 refine cw_false rfl<|cw_skip<|xw_then ?_
 refine qs<|qm ?_
 refine qf Ty.fd82_1 ?_
 refine ql (Var.at1 Ty.sc27 .here (GetN.lit rfl)) ?_
 (refine ow_call rfl rfl rfl rfl (hre _ _ zsel) ?_;rintro _ _ ⟨x18,rfl,hq18,rfl⟩)
 refine qm ?_
 refine qv (v_extract rfl rfl) ?_
 refine qv (v_extract rfl rfl)<|qa<|qa<|qt<|cw_seq<|qs<|qm ?_
 refine qv (v_neq rfl rfl)<|qt ?_
 refine cw_false rfl ?_
 refine cw_skip<|xw_then ?_
 obtain⟨hi,hM1⟩:=hq18
 have hxi:=hx _ hi
 obtain⟨p,q,ci,co,cr,hc,hI,hO,back⟩:=hM1.open hxi
 generalize hb1:x18.2.1.getD x18.1 0=b1 at hc back⊢
 have hI0:=hI
 rw[hm]at hI
 obtain⟨bi,hqi,hI⟩:=hI
 obtain⟨qi,qo⟩:=q
 dsimp only at hqi
 subst hqi
 refine cw_cov ([(b3,.cells (f.cells ao cap).toArray 82 (0,0))]::[(b,.cells (M1.cells p).toArray 73 (0,0))]::[(b1,.cells (x.cells ⟨some ⟨bi,0,none⟩,qo⟩).toArray 55 (0,0))]::ci::co::cr::F) (zcv1 hc) ?_
 have hxs:∀(X Y:Hp),Sub ([(b1,.cells (x.cells ⟨some ⟨bi,0,none⟩,qo⟩).toArray 55 (0,0))]++(ci++co)) (X::Y::[(b1,.cells (x.cells ⟨some ⟨bi,0,none⟩,qo⟩).toArray 55 (0,0))]::ci::co::cr::F):=fun X Y=>Sub.app Sub.here.there.there (Sub.app Sub.here.there.there.there Sub.here.there.there.there.there)
 have hxat:SmAt x b1 ([(b1,.cells (x.cells ⟨some ⟨bi,0,none⟩,qo⟩).toArray 55 (0,0))]++(ci++co)):=⟨_,ci,co,rfl,hI0,hO⟩
 have hr0:x.recv≠0:=by omega
 refine cw_seq<|qs<|qm<|qn ?_
 refine qf Ty.fd55_2 ?_
 refine ql (Var.at1 Ty.sc47 (.there (.there .here)) (GetN.lit rfl))<|qt ?_
 refine cw_block<|qs ?_
 refine qv (v_eql rfl rfl)<|qa<|qt ?_
 refine cw_dec rfl (fun hc28=>?_) (fun hc28=>?_)
 (exfalso;omega)
 refine cw_seq<|qs ?_
 refine qv (v_eql rfl rfl)<|qa<|qt ?_
 refine cw_dec rfl (fun hc30=>?_) (fun hc30=>?_)
 (exfalso;omega)
 refine cw_region ?_
 refine qv (v_eql rfl rfl)<|qa<|qt ?_
 refine cw_dec rfl (fun hc30=>?_) (fun hc30=>?_)
 (exfalso;omega)
 refine cw_skip ?_
 refine xw_block<|xw_then<|qs ?_
 refine qf Ty.fd82_2 ?_
 refine ql (Var.at1 Ty.sc27 .here (GetN.lit rfl)) ?_
 refine qf Ty.fd82_5 ?_
 refine ql (Var.at1 Ty.sc28 .here (GetN.lit rfl)) ?_
 refine qv (v_len rfl Tryz.underlying28 rfl) ?_
 refine qv (v_convert Tryz.underlying3 Tryz.underlying27 rfl (nw_u64 zom zom)) ?_
 refine qv (v_add rfl rfl (nw_u64 zom zom))<|qa ?_
 refine qt<|cw_seq<|qs<|qm ?_
 refine qf Ty.fd82_2 ?_
 refine ql (Var.at1 Ty.sc27 .here (GetN.lit rfl)) ?_
 refine qv (v_lss rfl rfl)<|qt ?_
 refine cw_dec rfl (fun hc43=>?_) (fun hc43=>?_)
 (exfalso;omega)
 refine cw_skip<|xw_then<|cw_seq<|qs<|qm<|qm<|qm<|qm ?_
 refine qv (v_call rfl rfl (smRise_c (hxs _ _) hxat hxw hr0 zom)) ?_
 refine qv (v_call rfl rfl (roomS_c zhas zhas hgw hxw.giv zom))<|qa<|qt ?_
 rw[e0,hroom]
 refine qs<|qm ?_
 refine qv (v_neq rfl rfl)<|qt ?_
 refine cw_false rfl<|cw_skip<|xw_then ?_
 refine cw_cut2 (ι:=(Hp)) [(0,_),(1,_),(4,_),(5,_)] ⟨rfl,rfl,rfl,rfl,trivial⟩ ((fun _=>[(9,.int .u64 (m.more (f.off+f.data.length))),(6,.int .i64 0)])) ((fun z=>InAt (m.add f.off f.data f.fin) bi z)) ((fun z=>[(b3,.cells (f.cells ao cap).toArray 82 (0,0))]::[(b,.cells (M1.cells p).toArray 73 (0,0))]::[(b1,.cells (x.cells ⟨some ⟨bi,0,none⟩,qo⟩).toArray 55 (0,0))]::z::co::cr::F)) ?_ ?_
 ·refine cw_any Ty.mixed ?_
  refine aw_pure 0 rfl zdk rfl rfl (v_move rfl) rfl ?_
  refine aw_pure 1 rfl zdk rfl rfl (v_nilCheck rfl) rfl ?_
  refine aw_pure 2 rfl zdk rfl rfl (v_fieldAddr0 Ty.fd55_3 rfl) rfl ?_
  refine aw_pure 4 rfl zdk rfl rfl (v_fieldAddr0 Ty.fd82_2 rfl) rfl ?_
  refine aw_pure 6 rfl zdk rfl rfl (v_fieldAddr0 Ty.fd82_5 rfl) rfl ?_
  refine aw_pure 8 rfl zdk rfl rfl (v_fieldAddr0 Ty.fd82_6 rfl) rfl ?_
  refine aw_step4 3 5 7 9 zdk rfl rfl rfl rfl ?_ ?_ ?_ ?_
  refine ql (Var.at1 Ty.sc48 (.there (.there .here)) (GetN.lit rfl))<|qx ?_
  refine aw_step3 5 7 9 zdk rfl rfl rfl ?_ ?_ ?_
  refine ql (Var.at1 Ty.sc27 .here (GetN.lit rfl))<|qx ?_
  refine aw_step2 7 9 zdk rfl rfl ?_ ?_
  refine ql (Var.at1 Ty.sc28 .here (GetN.lit rfl))<|qx ?_
  refine aw_step1 9 zdk rfl ?_
  refine ql (Var.at1 Ty.sc4 .here (GetN.lit rfl))<|qx ?_
  refine aw_step1 10 zdk rfl ?_
  (refine ow_call rfl rfl rfl rfl (inAdd_c (d:=f.data) zsel hI hmw zom hag (fun c'=>hD.vw zhas)) ?_;rintro _ _ ⟨x64,rfl,hq64,rfl⟩)
  refine qx ?_
  refine aw_pure 11 rfl zdk rfl rfl (v_move rfl) rfl ?_
  refine aw_pure 12 rfl zdk rfl rfl (v_extract rfl rfl) rfl ?_
  refine aw_pure 13 rfl zdk rfl rfl (v_extract rfl rfl) rfl ?_
  refine aw_pure 14 rfl zdk rfl rfl (v_assign rfl) rfl ?_
  refine aw_pure 15 rfl zdk rfl rfl (v_assign rfl) rfl ?_
  refine aw_end zdk ?_
  refine xw_np ?_
  rotate_left
  refine ql (Var.at1 Ty.sc4 .here (GetN.lit rfl))<|qx ?_
  refine aw_step1 7 zdk rfl ?_
  refine ql (Var.at1 Ty.sc28 .here (GetN.lit rfl))<|qx ?_
  refine aw_step1 10 zdk rfl ?_
  (refine ow_call rfl rfl rfl rfl (inAdd_c (d:=f.data) zsel hI hmw zom hag (fun c'=>hD.vw zhas)) ?_;rintro _ _ ⟨x64,rfl,hq64,rfl⟩)
  refine qx ?_
  refine aw_pure 11 rfl zdk rfl rfl (v_move rfl) rfl ?_
  refine aw_pure 12 rfl zdk rfl rfl (v_extract rfl rfl) rfl ?_
  refine aw_pure 13 rfl zdk rfl rfl (v_extract rfl rfl) rfl ?_
  refine aw_pure 14 rfl zdk rfl rfl (v_assign rfl) rfl ?_
  refine aw_pure 15 rfl zdk rfl rfl (v_assign rfl) rfl ?_
  refine aw_end zdk ?_
  refine xw_np ?_
  rotate_left
  refine ql (Var.at1 Ty.sc28 .here (GetN.lit rfl))<|qx ?_
  refine aw_step2 5 9 zdk rfl rfl ?_ ?_
  refine ql (Var.at1 Ty.sc27 .here (GetN.lit rfl))<|qx ?_
  refine aw_step1 9 zdk rfl ?_
  refine ql (Var.at1 Ty.sc4 .here (GetN.lit rfl))<|qx ?_
  refine aw_step1 10 zdk rfl ?_
  (refine ow_call rfl rfl rfl rfl (inAdd_c (d:=f.data) zsel hI hmw zom hag (fun c'=>hD.vw zhas)) ?_;rintro _ _ ⟨x64,rfl,hq64,rfl⟩)
  refine qx ?_
  refine aw_pure 11 rfl zdk rfl rfl (v_move rfl) rfl ?_
  refine aw_pure 12 rfl zdk rfl rfl (v_extract rfl rfl) rfl ?_
  refine aw_pure 13 rfl zdk rfl rfl (v_extract rfl rfl) rfl ?_
  refine aw_pure 14 rfl zdk rfl rfl (v_assign rfl) rfl ?_
  refine aw_pure 15 rfl zdk rfl rfl (v_assign rfl) rfl ?_
  refine aw_end zdk ?_
  refine xw_np ?_
  rotate_left
  refine ql (Var.at1 Ty.sc4 .here (GetN.lit rfl))<|qx ?_
  refine aw_step1 5 zdk rfl ?_
  refine ql (Var.at1 Ty.sc27 .here (GetN.lit rfl))<|qx ?_
  refine aw_step1 10 zdk rfl ?_
  (refine ow_call rfl rfl rfl rfl (inAdd_c (d:=f.data) zsel hI hmw zom hag (fun c'=>hD.vw zhas)) ?_;rintro _ _ ⟨x64,rfl,hq64,rfl⟩)
  refine qx ?_
  refine aw_pure 11 rfl zdk rfl rfl (v_move rfl) rfl ?_
  refine aw_pure 12 rfl zdk rfl rfl (v_extract rfl rfl) rfl ?_
  refine aw_pure 13 rfl zdk rfl rfl (v_extract rfl rfl) rfl ?_
  refine aw_pure 14 rfl zdk rfl rfl (v_assign rfl) rfl ?_
  refine aw_pure 15 rfl zdk rfl rfl (v_assign rfl) rfl ?_
  refine aw_end zdk ?_
  refine xw_np ?_
  rotate_left
  refine ql (Var.at1 Ty.sc4 .here (GetN.lit rfl))<|qx ?_
  refine aw_step2 5 7 zdk rfl rfl ?_ ?_
  refine ql (Var.at1 Ty.sc27 .here (GetN.lit rfl))<|qx ?_
  refine aw_step1 7 zdk rfl ?_
  refine ql (Var.at1 Ty.sc28 .here (GetN.lit rfl))<|qx ?_
  refine aw_step1 10 zdk rfl ?_
  (refine ow_call rfl rfl rfl rfl (inAdd_c (d:=f.data) zsel hI hmw zom hag (fun c'=>hD.vw zhas)) ?_;rintro _ _ ⟨x64,rfl,hq64,rfl⟩)
  refine qx ?_
  refine aw_pure 11 rfl zdk rfl rfl (v_move rfl) rfl ?_
  refine aw_pure 12 rfl zdk rfl rfl (v_extract rfl rfl) rfl ?_
  refine aw_pure 13 rfl zdk rfl rfl (v_extract rfl rfl) rfl ?_
  refine aw_pure 14 rfl zdk rfl rfl (v_assign rfl) rfl ?_
  refine aw_pure 15 rfl zdk rfl rfl (v_assign rfl) rfl ?_
  refine aw_end zdk ?_
  refine xw_np ?_
  rotate_left
  refine ql (Var.at1 Ty.sc28 .here (GetN.lit rfl))<|qx ?_
  refine aw_step1 5 zdk rfl ?_
  refine ql (Var.at1 Ty.sc27 .here (GetN.lit rfl))<|qx ?_
  refine aw_step1 10 zdk rfl ?_
  (refine ow_call rfl rfl rfl rfl (inAdd_c (d:=f.data) zsel hI hmw zom hag (fun c'=>hD.vw zhas)) ?_;rintro _ _ ⟨x64,rfl,hq64,rfl⟩)
  refine qx ?_
  refine aw_pure 11 rfl zdk rfl rfl (v_move rfl) rfl ?_
  refine aw_pure 12 rfl zdk rfl rfl (v_extract rfl rfl) rfl ?_
  refine aw_pure 13 rfl zdk rfl rfl (v_extract rfl rfl) rfl ?_
  refine aw_pure 14 rfl zdk rfl rfl (v_assign rfl) rfl ?_
  refine aw_pure 15 rfl zdk rfl rfl (v_assign rfl) rfl ?_
  refine aw_end zdk ?_
  refine xw_np ?_
  rotate_left
  refine ql (Var.at1 Ty.sc27 .here (GetN.lit rfl))<|qx ?_
  refine aw_step3 3 7 9 zdk rfl rfl rfl ?_ ?_ ?_
  refine ql (Var.at1 Ty.sc48 (.there (.there .here)) (GetN.lit rfl))<|qx ?_
  refine aw_step2 7 9 zdk rfl rfl ?_ ?_
  refine ql (Var.at1 Ty.sc28 .here (GetN.lit rfl))<|qx ?_
  refine aw_step1 9 zdk rfl ?_
  refine ql (Var.at1 Ty.sc4 .here (GetN.lit rfl))<|qx ?_
  refine aw_step1 10 zdk rfl ?_
  (refine ow_call rfl rfl rfl rfl (inAdd_c (d:=f.data) zsel hI hmw zom hag (fun c'=>hD.vw zhas)) ?_;rintro _ _ ⟨x64,rfl,hq64,rfl⟩)
  refine qx ?_
  refine aw_pure 11 rfl zdk rfl rfl (v_move rfl) rfl ?_
  refine aw_pure 12 rfl zdk rfl rfl (v_extract rfl rfl) rfl ?_
  refine aw_pure 13 rfl zdk rfl rfl (v_extract rfl rfl) rfl ?_
  refine aw_pure 14 rfl zdk rfl rfl (v_assign rfl) rfl ?_
  refine aw_pure 15 rfl zdk rfl rfl (v_assign rfl) rfl ?_
  refine aw_end zdk ?_
  refine xw_np ?_
  rotate_left
  refine ql (Var.at1 Ty.sc4 .here (GetN.lit rfl))<|qx ?_
  refine aw_step1 7 zdk rfl ?_
  refine ql (Var.at1 Ty.sc28 .here (GetN.lit rfl))<|qx ?_
  refine aw_step1 10 zdk rfl ?_
  (refine ow_call rfl rfl rfl rfl (inAdd_c (d:=f.data) zsel hI hmw zom hag (fun c'=>hD.vw zhas)) ?_;rintro _ _ ⟨x64,rfl,hq64,rfl⟩)
  refine qx ?_
  refine aw_pure 11 rfl zdk rfl rfl (v_move rfl) rfl ?_
  refine aw_pure 12 rfl zdk rfl rfl (v_extract rfl rfl) rfl ?_
  refine aw_pure 13 rfl zdk rfl rfl (v_extract rfl rfl) rfl ?_
  refine aw_pure 14 rfl zdk rfl rfl (v_assign rfl) rfl ?_
  refine aw_pure 15 rfl zdk rfl rfl (v_assign rfl) rfl ?_
  refine aw_end zdk ?_
  refine xw_np ?_
  rotate_left
  refine ql (Var.at1 Ty.sc28 .here (GetN.lit rfl))<|qx ?_
  refine aw_step2 3 9 zdk rfl rfl ?_ ?_
  refine ql (Var.at1 Ty.sc48 (.there (.there .here)) (GetN.lit rfl))<|qx ?_
  refine aw_step1 9 zdk rfl ?_
  refine ql (Var.at1 Ty.sc4 .here (GetN.lit rfl))<|qx ?_
  refine aw_step1 10 zdk rfl ?_
  (refine ow_call rfl rfl rfl rfl (inAdd_c (d:=f.data) zsel hI hmw zom hag (fun c'=>hD.vw zhas)) ?_;rintro _ _ ⟨x64,rfl,hq64,rfl⟩)
  refine qx ?_
  refine aw_pure 11 rfl zdk rfl rfl (v_move rfl) rfl ?_
  refine aw_pure 12 rfl zdk rfl rfl (v_extract rfl rfl) rfl ?_
  refine aw_pure 13 rfl zdk rfl rfl (v_extract rfl rfl) rfl ?_
  refine aw_pure 14 rfl zdk rfl rfl (v_assign rfl) rfl ?_
  refine aw_pure 15 rfl zdk rfl rfl (v_assign rfl) rfl ?_
  refine aw_end zdk ?_
  refine xw_np ?_
  rotate_left
  refine ql (Var.at1 Ty.sc4 .here (GetN.lit rfl))<|qx ?_
  refine aw_step1 3 zdk rfl ?_
  refine ql (Var.at1 Ty.sc48 (.there (.there .here)) (GetN.lit rfl))<|qx ?_
  refine aw_step1 10 zdk rfl ?_
  (refine ow_call rfl rfl rfl rfl (inAdd_c (d:=f.data) zsel hI hmw zom hag (fun c'=>hD.vw zhas)) ?_;rintro _ _ ⟨x64,rfl,hq64,rfl⟩)
  refine qx ?_
  refine aw_pure 11 rfl zdk rfl rfl (v_move rfl) rfl ?_
  refine aw_pure 12 rfl zdk rfl rfl (v_extract rfl rfl) rfl ?_
  refine aw_pure 13 rfl zdk rfl rfl (v_extract rfl rfl) rfl ?_
  refine aw_pure 14 rfl zdk rfl rfl (v_assign rfl) rfl ?_
  refine aw_pure 15 rfl zdk rfl rfl (v_assign rfl) rfl ?_
  refine aw_end zdk ?_
  refine xw_np ?_
  rotate_left
  refine ql (Var.at1 Ty.sc4 .here (GetN.lit rfl))<|qx ?_
  refine aw_step2 3 7 zdk rfl rfl ?_ ?_
  refine ql (Var.at1 Ty.sc48 (.there (.there .here)) (GetN.lit rfl))<|qx ?_
  refine aw_step1 7 zdk rfl ?_
  refine ql (Var.at1 Ty.sc28 .here (GetN.lit rfl))<|qx ?_
  refine aw_step1 10 zdk rfl ?_
  (refine ow_call rfl rfl rfl rfl (inAdd_c (d:=f.data) zsel hI hmw zom hag (fun c'=>hD.vw zhas)) ?_;rintro _ _ ⟨x64,rfl,hq64,rfl⟩)
  refine qx ?_
  refine aw_pure 11 rfl zdk rfl rfl (v_move rfl) rfl ?_
  refine aw_pure 12 rfl zdk rfl rfl (v_extract rfl rfl) rfl ?_
  refine aw_pure 13 rfl zdk rfl rfl (v_extract rfl rfl) rfl ?_
  refine aw_pure 14 rfl zdk rfl rfl (v_assign rfl) rfl ?_
  refine aw_pure 15 rfl zdk rfl rfl (v_assign rfl) rfl ?_
  refine aw_end zdk ?_
  refine xw_np ?_
  rotate_left
  refine ql (Var.at1 Ty.sc28 .here (GetN.lit rfl))<|qx ?_
  refine aw_step1 3 zdk rfl ?_
  refine ql (Var.at1 Ty.sc48 (.there (.there .here)) (GetN.lit rfl))<|qx ?_
  refine aw_step1 10 zdk rfl ?_
  (refine ow_call rfl rfl rfl rfl (inAdd_c (d:=f.data) zsel hI hmw zom hag (fun c'=>hD.vw zhas)) ?_;rintro _ _ ⟨x64,rfl,hq64,rfl⟩)
  refine qx ?_
  refine aw_pure 11 rfl zdk rfl rfl (v_move rfl) rfl ?_
  refine aw_pure 12 rfl zdk rfl rfl (v_extract rfl rfl) rfl ?_
  refine aw_pure 13 rfl zdk rfl rfl (v_extract rfl rfl) rfl ?_
  refine aw_pure 14 rfl zdk rfl rfl (v_assign rfl) rfl ?_
  refine aw_pure 15 rfl zdk rfl rfl (v_assign rfl) rfl ?_
  refine aw_end zdk ?_
  refine xw_np ?_
  rotate_left
  refine ql (Var.at1 Ty.sc28 .here (GetN.lit rfl))<|qx ?_
  refine aw_step3 3 5 9 zdk rfl rfl rfl ?_ ?_ ?_
  refine ql (Var.at1 Ty.sc48 (.there (.there .here)) (GetN.lit rfl))<|qx ?_
  refine aw_step2 5 9 zdk rfl rfl ?_ ?_
  refine ql (Var.at1 Ty.sc27 .here (GetN.lit rfl))<|qx ?_
  refine aw_step1 9 zdk rfl ?_
  refine ql (Var.at1 Ty.sc4 .here (GetN.lit rfl))<|qx ?_
  refine aw_step1 10 zdk rfl ?_
  (refine ow_call rfl rfl rfl rfl (inAdd_c (d:=f.data) zsel hI hmw zom hag (fun c'=>hD.vw zhas)) ?_;rintro _ _ ⟨x64,rfl,hq64,rfl⟩)
  refine qx ?_
  refine aw_pure 11 rfl zdk rfl rfl (v_move rfl) rfl ?_
  refine aw_pure 12 rfl zdk rfl rfl (v_extract rfl rfl) rfl ?_
  refine aw_pure 13 rfl zdk rfl rfl (v_extract rfl rfl) rfl ?_
  refine aw_pure 14 rfl zdk rfl rfl (v_assign rfl) rfl ?_
  refine aw_pure 15 rfl zdk rfl rfl (v_assign rfl) rfl ?_
  refine aw_end zdk ?_
  refine xw_np ?_
  rotate_left
  refine ql (Var.at1 Ty.sc4 .here (GetN.lit rfl))<|qx ?_
  refine aw_step1 5 zdk rfl ?_
  refine ql (Var.at1 Ty.sc27 .here (GetN.lit rfl))<|qx ?_
  refine aw_step1 10 zdk rfl ?_
  (refine ow_call rfl rfl rfl rfl (inAdd_c (d:=f.data) zsel hI hmw zom hag (fun c'=>hD.vw zhas)) ?_;rintro _ _ ⟨x64,rfl,hq64,rfl⟩)
  refine qx ?_
  refine aw_pure 11 rfl zdk rfl rfl (v_move rfl) rfl ?_
  refine aw_pure 12 rfl zdk rfl rfl (v_extract rfl rfl) rfl ?_
  refine aw_pure 13 rfl zdk rfl rfl (v_extract rfl rfl) rfl ?_
  refine aw_pure 14 rfl zdk rfl rfl (v_assign rfl) rfl ?_
  refine aw_pure 15 rfl zdk rfl rfl (v_assign rfl) rfl ?_
  refine aw_end zdk ?_
  refine xw_np ?_
  rotate_left
  refine ql (Var.at1 Ty.sc27 .here (GetN.lit rfl))<|qx ?_
  refine aw_step2 3 9 zdk rfl rfl ?_ ?_
  refine ql (Var.at1 Ty.sc48 (.there (.there .here)) (GetN.lit rfl))<|qx ?_
  refine aw_step1 9 zdk rfl ?_
  refine ql (Var.at1 Ty.sc4 .here (GetN.lit rfl))<|qx ?_
  refine aw_step1 10 zdk rfl ?_
  (refine ow_call rfl rfl rfl rfl (inAdd_c (d:=f.data) zsel hI hmw zom hag (fun c'=>hD.vw zhas)) ?_;rintro _ _ ⟨x64,rfl,hq64,rfl⟩)
  refine qx ?_
  refine aw_pure 11 rfl zdk rfl rfl (v_move rfl) rfl ?_
  refine aw_pure 12 rfl zdk rfl rfl (v_extract rfl rfl) rfl ?_
  refine aw_pure 13 rfl zdk rfl rfl (v_extract rfl rfl) rfl ?_
  refine aw_pure 14 rfl zdk rfl rfl (v_assign rfl) rfl ?_
  refine aw_pure 15 rfl zdk rfl rfl (v_assign rfl) rfl ?_
  refine aw_end zdk ?_
  refine xw_np ?_
  rotate_left
  refine ql (Var.at1 Ty.sc4 .here (GetN.lit rfl))<|qx ?_
  refine aw_step1 3 zdk rfl ?_
  refine ql (Var.at1 Ty.sc48 (.there (.there .here)) (GetN.lit rfl))<|qx ?_
  refine aw_step1 10 zdk rfl ?_
  (refine ow_call rfl rfl rfl rfl (inAdd_c (d:=f.data) zsel hI hmw zom hag (fun c'=>hD.vw zhas)) ?_;rintro _ _ ⟨x64,rfl,hq64,rfl⟩)
  refine qx ?_
  refine aw_pure 11 rfl zdk rfl rfl (v_move rfl) rfl ?_
  refine aw_pure 12 rfl zdk rfl rfl (v_extract rfl rfl) rfl ?_
  refine aw_pure 13 rfl zdk rfl rfl (v_extract rfl rfl) rfl ?_
  refine aw_pure 14 rfl zdk rfl rfl (v_assign rfl) rfl ?_
  refine aw_pure 15 rfl zdk rfl rfl (v_assign rfl) rfl ?_
  refine aw_end zdk ?_
  refine xw_np ?_
  rotate_left
  refine ql (Var.at1 Ty.sc4 .here (GetN.lit rfl))<|qx ?_
  refine aw_step2 3 5 zdk rfl rfl ?_ ?_
  refine ql (Var.at1 Ty.sc48 (.there (.there .here)) (GetN.lit rfl))<|qx ?_
  refine aw_step1 5 zdk rfl ?_
  refine ql (Var.at1 Ty.sc27 .here (GetN.lit rfl))<|qx ?_
  refine aw_step1 10 zdk rfl ?_
  (refine ow_call rfl rfl rfl rfl (inAdd_c (d:=f.data) zsel hI hmw zom hag (fun c'=>hD.vw zhas)) ?_;rintro _ _ ⟨x64,rfl,hq64,rfl⟩)
  refine qx ?_
  refine aw_pure 11 rfl zdk rfl rfl (v_move rfl) rfl ?_
  refine aw_pure 12 rfl zdk rfl rfl (v_extract rfl rfl) rfl ?_
  refine aw_pure 13 rfl zdk rfl rfl (v_extract rfl rfl) rfl ?_
  refine aw_pure 14 rfl zdk rfl rfl (v_assign rfl) rfl ?_
  refine aw_pure 15 rfl zdk rfl rfl (v_assign rfl) rfl ?_
  refine aw_end zdk ?_
  refine xw_np ?_
  rotate_left
  refine ql (Var.at1 Ty.sc27 .here (GetN.lit rfl))<|qx ?_
  refine aw_step1 3 zdk rfl ?_
  refine ql (Var.at1 Ty.sc48 (.there (.there .here)) (GetN.lit rfl))<|qx ?_
  refine aw_step1 10 zdk rfl ?_
  (refine ow_call rfl rfl rfl rfl (inAdd_c (d:=f.data) zsel hI hmw zom hag (fun c'=>hD.vw zhas)) ?_;rintro _ _ ⟨x64,rfl,hq64,rfl⟩)
  refine qx ?_
  refine aw_pure 11 rfl zdk rfl rfl (v_move rfl) rfl ?_
  refine aw_pure 12 rfl zdk rfl rfl (v_extract rfl rfl) rfl ?_
  refine aw_pure 13 rfl zdk rfl rfl (v_extract rfl rfl) rfl ?_
  refine aw_pure 14 rfl zdk rfl rfl (v_assign rfl) rfl ?_
  refine aw_pure 15 rfl zdk rfl rfl (v_assign rfl) rfl ?_
  refine aw_end zdk ?_
  refine xw_np ?_
  rotate_left
  refine ql (Var.at1 Ty.sc4 .here (GetN.lit rfl))<|qx ?_
  refine aw_step3 3 5 7 zdk rfl rfl rfl ?_ ?_ ?_
  refine ql (Var.at1 Ty.sc48 (.there (.there .here)) (GetN.lit rfl))<|qx ?_
  refine aw_step2 5 7 zdk rfl rfl ?_ ?_
  refine ql (Var.at1 Ty.sc27 .here (GetN.lit rfl))<|qx ?_
  refine aw_step1 7 zdk rfl ?_
  refine ql (Var.at1 Ty.sc28 .here (GetN.lit rfl))<|qx ?_
  refine aw_step1 10 zdk rfl ?_
  (refine ow_call rfl rfl rfl rfl (inAdd_c (d:=f.data) zsel hI hmw zom hag (fun c'=>hD.vw zhas)) ?_;rintro _ _ ⟨x64,rfl,hq64,rfl⟩)
  refine qx ?_
  refine aw_pure 11 rfl zdk rfl rfl (v_move rfl) rfl ?_
  refine aw_pure 12 rfl zdk rfl rfl (v_extract rfl rfl) rfl ?_
  refine aw_pure 13 rfl zdk rfl rfl (v_extract rfl rfl) rfl ?_
  refine aw_pure 14 rfl zdk rfl rfl (v_assign rfl) rfl ?_
  refine aw_pure 15 rfl zdk rfl rfl (v_assign rfl) rfl ?_
  refine aw_end zdk ?_
  refine xw_np ?_
  rotate_left
  refine ql (Var.at1 Ty.sc28 .here (GetN.lit rfl))<|qx ?_
  refine aw_step1 5 zdk rfl ?_
  refine ql (Var.at1 Ty.sc27 .here (GetN.lit rfl))<|qx ?_
  refine aw_step1 10 zdk rfl ?_
  (refine ow_call rfl rfl rfl rfl (inAdd_c (d:=f.data) zsel hI hmw zom hag (fun c'=>hD.vw zhas)) ?_;rintro _ _ ⟨x64,rfl,hq64,rfl⟩)
  refine qx ?_
  refine aw_pure 11 rfl zdk rfl rfl (v_move rfl) rfl ?_
  refine aw_pure 12 rfl zdk rfl rfl (v_extract rfl rfl) rfl ?_
  refine aw_pure 13 rfl zdk rfl rfl (v_extract rfl rfl) rfl ?_
  refine aw_pure 14 rfl zdk rfl rfl (v_assign rfl) rfl ?_
  refine aw_pure 15 rfl zdk rfl rfl (v_assign rfl) rfl ?_
  refine aw_end zdk ?_
  refine xw_np ?_
  rotate_left
  refine ql (Var.at1 Ty.sc27 .here (GetN.lit rfl))<|qx ?_
  refine aw_step2 3 7 zdk rfl rfl ?_ ?_
  refine ql (Var.at1 Ty.sc48 (.there (.there .here)) (GetN.lit rfl))<|qx ?_
  refine aw_step1 7 zdk rfl ?_
  refine ql (Var.at1 Ty.sc28 .here (GetN.lit rfl))<|qx ?_
  refine aw_step1 10 zdk rfl ?_
  (refine ow_call rfl rfl rfl rfl (inAdd_c (d:=f.data) zsel hI hmw zom hag (fun c'=>hD.vw zhas)) ?_;rintro _ _ ⟨x64,rfl,hq64,rfl⟩)
  refine qx ?_
  refine aw_pure 11 rfl zdk rfl rfl (v_move rfl) rfl ?_
  refine aw_pure 12 rfl zdk rfl rfl (v_extract rfl rfl) rfl ?_
  refine aw_pure 13 rfl zdk rfl rfl (v_extract rfl rfl) rfl ?_
  refine aw_pure 14 rfl zdk rfl rfl (v_assign rfl) rfl ?_
  refine aw_pure 15 rfl zdk rfl rfl (v_assign rfl) rfl ?_
  refine aw_end zdk ?_
  refine xw_np ?_
  rotate_left
  refine ql (Var.at1 Ty.sc28 .here (GetN.lit rfl))<|qx ?_
  refine aw_step1 3 zdk rfl ?_
  refine ql (Var.at1 Ty.sc48 (.there (.there .here)) (GetN.lit rfl))<|qx ?_
  refine aw_step1 10 zdk rfl ?_
  (refine ow_call rfl rfl rfl rfl (inAdd_c (d:=f.data) zsel hI hmw zom hag (fun c'=>hD.vw zhas)) ?_;rintro _ _ ⟨x64,rfl,hq64,rfl⟩)
  refine qx ?_
  refine aw_pure 11 rfl zdk rfl rfl (v_move rfl) rfl ?_
  refine aw_pure 12 rfl zdk rfl rfl (v_extract rfl rfl) rfl ?_
  refine aw_pure 13 rfl zdk rfl rfl (v_extract rfl rfl) rfl ?_
  refine aw_pure 14 rfl zdk rfl rfl (v_assign rfl) rfl ?_
  refine aw_pure 15 rfl zdk rfl rfl (v_assign rfl) rfl ?_
  refine aw_end zdk ?_
  refine xw_np ?_
  rotate_left
  refine ql (Var.at1 Ty.sc28 .here (GetN.lit rfl))<|qx ?_
  refine aw_step2 3 5 zdk rfl rfl ?_ ?_
  refine ql (Var.at1 Ty.sc48 (.there (.there .here)) (GetN.lit rfl))<|qx ?_
  refine aw_step1 5 zdk rfl ?_
  refine ql (Var.at1 Ty.sc27 .here (GetN.lit rfl))<|qx ?_
  refine aw_step1 10 zdk rfl ?_
  (refine ow_call rfl rfl rfl rfl (inAdd_c (d:=f.data) zsel hI hmw zom hag (fun c'=>hD.vw zhas)) ?_;rintro _ _ ⟨x64,rfl,hq64,rfl⟩)
  refine qx ?_
  refine aw_pure 11 rfl zdk rfl rfl (v_move rfl) rfl ?_
  refine aw_pure 12 rfl zdk rfl rfl (v_extract rfl rfl) rfl ?_
  refine aw_pure 13 rfl zdk rfl rfl (v_extract rfl rfl) rfl ?_
  refine aw_pure 14 rfl zdk rfl rfl (v_assign rfl) rfl ?_
  refine aw_pure 15 rfl zdk rfl rfl (v_assign rfl) rfl ?_
  refine aw_end zdk ?_
  refine xw_np ?_
  rotate_left
  refine ql (Var.at1 Ty.sc27 .here (GetN.lit rfl))<|qx ?_
  refine aw_step1 3 zdk rfl ?_
  refine ql (Var.at1 Ty.sc48 (.there (.there .here)) (GetN.lit rfl))<|qx ?_
  refine aw_step1 10 zdk rfl ?_
  (refine ow_call rfl rfl rfl rfl (inAdd_c (d:=f.data) zsel hI hmw zom hag (fun c'=>hD.vw zhas)) ?_;rintro _ _ ⟨x64,rfl,hq64,rfl⟩)
  refine qx ?_
  refine aw_pure 11 rfl zdk rfl rfl (v_move rfl) rfl ?_
  refine aw_pure 12 rfl zdk rfl rfl (v_extract rfl rfl) rfl ?_
  refine aw_pure 13 rfl zdk rfl rfl (v_extract rfl rfl) rfl ?_
  refine aw_pure 14 rfl zdk rfl rfl (v_assign rfl) rfl ?_
  refine aw_pure 15 rfl zdk rfl rfl (v_assign rfl) rfl ?_
  refine aw_end zdk ?_
  refine xw_np ?_
  rotate_left
  all_goals rw[hadd,if_pos rfl]
  all_goals exact xw_joint x64 hq64 zcov zenv
 rintro ci' hI'
 refine cw_seq<|qs<|qm ?_
 refine qv (v_neq rfl rfl)<|qt ?_
 refine cw_false rfl<|cw_skip<|xw_then ?_
 have hmd:(x.data m f).recv=x.recv:=rfl
 obtain⟨c2,hM2,hc2⟩:=back (M1.setS x18.1 (x.data m f)) (x.data m f) ⟨some ⟨bi,0,none⟩,qo⟩ ci' co rfl rfl rfl rfl ⟨bi,rfl,hI'⟩ hO
 have e2:SsM.cells (M1.setS x18.1 (x.data m f)) p=M1.cells p:=rfl
 have e3:SmM.cells (x.data m f) ⟨some ⟨bi,0,none⟩,qo⟩=x.cells ⟨some ⟨bi,0,none⟩,qo⟩:=rfl
 rw[e2,e3]at hc2
 refine cw_cov (c2::[(b3,.cells (f.cells ao cap).toArray 82 (0,0))]::F) (zcv1 hc2) ?_
 subst hb1
 obtain⟨hil,hie⟩:=List.getElem?_eq_some_iff.1 hxi
 have hx2:(M1.setS x18.1 (x.data m f)).str[x18.1]?=some (x.data m f):=List.getElem?_set_self hil
 refine qs<|qm<|qm<|qm ?_
 (refine ow_call rfl rfl rfl rfl (use_c zsel hM2 hx2 hgw hxw.giv zom) ?_;rintro _ _ ⟨x73,rfl,hq73,rfl⟩)
 refine qt ?_
 have hx3:((M1.setS x18.1 (x.data m f)).use x18.1 (x.data m f) (m.more (f.off+f.data.length))).str[x18.1]?=some (x.dataG m f):=List.getElem?_set_self (by simpa [SsM.setS] using hil)
 obtain⟨p2,q2,ci2,co2,cr2,hc3,hI3,hO3,back2⟩:=hq73.open hx3
 generalize x18.2.1.getD x18.1 0=b1 at hc3 back2⊢
 have hI4:=hI3
 obtain⟨bi2,hqi,hI3⟩:=hI3
 obtain⟨qi2,qo2⟩:=q2
 dsimp only at hqi
 subst hqi
 generalize hN2:(M1.setS x18.1 (x.data m f)).use x18.1 (x.data m f) (m.more (f.off+f.data.length))=N2 at hc3 back2 hx3 hq73
 have es:N2.str=(M1.str.set x18.1 (x.data m f)).set x18.1 (x.dataG m f):=by rw[←hN2];rfl
 have ey:(m.add f.off f.data f.fin).known=(m.add f.off f.data f.fin).known:=rfl
 refine cw_cov ([(b,.cells (N2.cells p2).toArray 73 (0,0))]::[(b1,.cells (SmM.cells (x.dataG m f) ⟨some ⟨bi2,0,none⟩,qo2⟩).toArray 55 (0,0))]::ci2::co2::cr2::[(b3,.cells (f.cells ao cap).toArray 82 (0,0))]::F) (zcv1 hc3) ?_
 have hxr:(x.dataG m f).recv=1:=hr
 refine cw_seq<|qs<|qm<|qn ?_
 refine qf Ty.fd55_3 ?_
 refine ql (Var.at1 Ty.sc48 (.there .here) (GetN.lit rfl)) ?_
 refine qv (v_call rfl rfl (inFinal_c hI3 zhas))<|qm ?_
 refine qv (v_extract rfl rfl) ?_
 refine qv (v_extract rfl rfl)<|qa<|qa ?_
 refine qt<|qs<|qm<|qm ?_
 refine ow_bool 83 rfl (fun hc83=>?_) (fun hc83=>?_)
 refine qm<|qn ?_
 refine qf Ty.fd55_2 ?_
 refine ql (Var.at1 Ty.sc47 (.there .here) (GetN.lit rfl)) ?_
 refine qv (v_eql rfl rfl) ?_
 refine qv (v_pick_true rfl rfl)<|qt ?_
 refine cw_dec rfl (fun hc89=>?_) (fun hc89=>?_)
 rotate_left;(exfalso;omega);rotate_right
 refine cw_region<|qm<|qn ?_
 refine qf Ty.fd55_2 ?_
 refine ow_store1 rfl rfl rfl rfl Ty.sc47 (.there .here) (SetN.one zdn)<|qt<|qs<|qa<|qt ?_
 refine cw_ret ?_
 refine ret1 rfl (res_tmp rfl) ?_
 rotate_left
 refine qk ?_
 refine qk ?_
 refine qk ?_
 refine qk ?_
 refine qk ?_
 refine qv (v_pick_false rfl rfl)<|qt ?_
 refine cw_false rfl<|cw_skip<|xw_then<|qs<|qa ?_
 refine qt ?_
 refine cw_ret ?_
 refine ret1 rfl (res_tmp rfl) ?_
 rotate_left
 all_goals
  obtain⟨c',h1,h2⟩:=back2 (M1.data x18.1 x m f) (x.dataE m f) ⟨some ⟨bi2,0,none⟩,qo2⟩ ci2 co2 (by rw[es];simp[SsM.data]) (by rw[←hN2];rfl) (by rw[←hN2];rfl) rfl hI4 hO3
  have g1:SsM.cells (M1.data x18.1 x m f) p2=N2.cells p2:=by rw[←hN2];rfl
  rw[g1]at h2
  clear hc hc2 hc3
 ·have g2:SmM.cells (x.dataE m f) ⟨some ⟨bi2,0,none⟩,qo2⟩=(SmM.cells (x.dataG m f) ⟨some ⟨bi2,0,none⟩,qo2⟩).set 2 (.int .u8 2):=by
   unfold SmM.dataE
   rw[if_pos hc83]
   rfl
  rw[g2]at h2
  exact⟨(x18.1,x18.2.1,c'),rfl,⟨hi,h1⟩,(zcv1 h2)⟩
 ·have g2:SmM.cells (x.dataE m f) ⟨some ⟨bi2,0,none⟩,qo2⟩=SmM.cells (x.dataG m f) ⟨some ⟨bi2,0,none⟩,qo2⟩:=by
   unfold SmM.dataE
   rw[if_neg (by rw[hc83];decide)]
   rfl
  rw[g2]at h2
  exact⟨(x18.1,x18.2.1,c'),rfl,⟨hi,h1⟩,(zcv1 h2)⟩
end Go.Proofs.YtnlaffkihohfkaaGreat
