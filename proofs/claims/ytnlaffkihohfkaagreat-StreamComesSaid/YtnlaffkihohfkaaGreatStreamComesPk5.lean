/- Streams: what comes from the other side: resets, stops, credit. Conditions: numbers fit; there is room. A region that draws: reads first (all else waits for them), then all orders of what is left. Conditions: none. A region that draws: reads and calls that only read first, whatever new blocks come between; then all orders of what is left. Conditions: none. A region that draws, where what is read is held by a condition on the world: reads of cells that nobody writes are taken first. Conditions: none; nothing here speaks of a given program. Streams: what one has to send next. Conditions: numbers fit. Streams: a frame was sent, has come, was lost. Conditions: numbers fit. Streams: what tells that more may be opened; it was sent, or lost. Conditions: numbers fit. Sorting, plainly: arrays of numbers beside lists; the kit's functions of the sort. Conditions: none. Elements of lists that are sorted. Conditions: none. The library's sort at lists of small numbers. Conditions: lists are short. The library's sort at lists of small numbers: the heap. Conditions: lists are short. The library's sort at lists of small numbers: the partitions. Conditions: lists are short. -/
import Derived.Test.YtnlaffkihohfkaaGreatStreamComesPk4
import Derived.Test.YtnlaffkihohfkaaGreatStreamComesPk2
import Derived.OrdersHeld
import Derived.Test.YtnlaffkihohfkaaGreatStreamComesPk3
import Derived.Sort.AssemblyPlain
import Derived.Lib.Tables
set_option maxRecDepth 20000
set_option linter.unusedVariables false
set_option linter.unusedSimpArgs false
namespace Go.Proofs.YtnlaffkihohfkaaGreat
open Go Go.Sl Go.Proofs
variable {B:Nat}{w0:World}{G:List Hp}{R:Hp→List Hp}
set_option maxHeartbeats 4000000 in
theorem rst_c {M M1:SsM}{ps:List Nat}{b:Nat}{c:Hp}{f:FsM}{ao:Option Addr}{cap:Nat}{x:SmM}{m:InM}(hsel:Sel G c R)(hre:Reach B w0 M M1 b ps c f.id)(hx:∀i,idxS M1.str f.id=some i→M1.str[i]?=some x)(hxw:x.WF)(hgw:M1.giv.WF)(hr:x.recv=1)(hm:x.inn=some m)
  (hf:m.read≤f.lim∧f.lim≤1000000000) (hroom:M1.roomE x (m.more f.lim)=0) (hend:m.stopE f.lim=0):
  Go.Sl.Fn Tryz.prog 52 #[.pointer (some ⟨b,0,none⟩),.agg (f.cells ao cap).toArray] B w0 G fun u G'=>∃y:Nat×List Nat×Hp,u=.int .i64 0∧(idxS M1.str f.id=some y.1∧SsAt (M1.rst y.1 x m f) y.2.1 b y.2.2)∧G'=R y.2.2:=by
 refine Fn.sel0 hsel fun F hR hF=>?_
 have fl:=f.len (ao:=ao) (cap:=cap)
 have fo:=f.one (ao:=ao) (cap:=cap)
 have hmw:=hxw.inn m hm
 have hrd:=hmw.rd
 have hrs:(m.stop f.lim).read=m.read:=by
  unfold InM.stop InM.rise
  split<;>(try split)<;>rfl
 have e0:x.rise f.lim=m.more f.lim:=by
  unfold SmM.rise SmM.high InM.more
  rw[hm]
  rfl
 have hmo:0≤m.more f.lim∧m.more f.lim≤1000000000:=by
  unfold InM.more
  split<;>omega
 refine fn_enter Tryz.func52 rfl (by kernel_rfl) Tryz.ntmps52 (by simp) ?_
 refine qs ?_
 refine ow_box rfl rfl rfl rfl fun b3=>qa<|qt<|cw_seq<|qs<|qm ?_
 refine qv (v_eql_nil_some Tryz.underlying35 rfl)<|qt ?_
 refine cw_false rfl<|cw_skip<|xw_then ?_
 refine qs<|qm ?_
 refine qf Ty.fd82_1 ?_
 refine ql (Var.at1 Ty.sc27 .here (GetN.lit rfl)) ?_
 (refine ow_call rfl rfl rfl rfl (hre _ _ zsel) ?_;rintro _ _ ⟨x17,rfl,hq17,rfl⟩)
 refine qm ?_
 refine qv (v_extract rfl rfl) ?_
 refine qv (v_extract rfl rfl)<|qa<|qa<|qt<|cw_seq<|qs<|qm ?_
 refine qv (v_neq rfl rfl)<|qt ?_
 refine cw_false rfl ?_
 refine cw_skip<|xw_then ?_
 obtain⟨hi,hM1⟩:=hq17
 have hxi:=hx _ hi
 obtain⟨p,q,ci,co,cr,hc,hI,hO,back⟩:=hM1.open hxi
 generalize hb1:x17.2.1.getD x17.1 0=b1 at hc back⊢
 have hI0:=hI
 rw[hm]at hI
 obtain⟨bi,hqi,hI⟩:=hI
 obtain⟨qi,qo⟩:=q
 dsimp only at hqi
 subst hqi
 refine cw_cov ([(b3,.cells (f.cells ao cap).toArray 82 (0,0))]::[(b,.cells (M1.cells p).toArray 73 (0,0))]::[(b1,.cells (x.cells ⟨some ⟨bi,0,none⟩,qo⟩).toArray 55 (0,0))]::ci::co::cr::F) (zcv1 hc) ?_
 have hxs:∀(X Y:Hp),Sub ([(b1,.cells (x.cells ⟨some ⟨bi,0,none⟩,qo⟩).toArray 55 (0,0))]++(ci++co)) (X::Y::[(b1,.cells (x.cells ⟨some ⟨bi,0,none⟩,qo⟩).toArray 55 (0,0))]::ci::co::cr::F):=fun X Y=>Sub.app Sub.here.there.there (Sub.app Sub.here.there.there.there Sub.here.there.there.there.there)
 have hxat:SmAt x b1 ([(b1,.cells (x.cells ⟨some ⟨bi,0,none⟩,qo⟩).toArray 55 (0,0))]++(ci++co)):=⟨_,ci,co,rfl,hI0,hO⟩
 have hr0:x.recv≠0:=by omega
 refine cw_seq<|qs<|qm<|qn ?_
 refine qf Ty.fd55_2 ?_
 refine ql (Var.at1 Ty.sc47 (.there (.there .here)) (GetN.lit rfl)) ?_
 refine qv (v_eql rfl rfl)<|qt ?_
 refine cw_dec rfl (fun hc27=>?_) (fun hc27=>?_)
 (exfalso;omega)
 refine cw_skip<|xw_then<|cw_seq<|qs<|qm<|qm<|qm ?_
 refine qf Ty.fd82_3 ?_
 refine ql (Var.at1 Ty.sc27 .here (GetN.lit rfl)) ?_
 refine qv (v_call rfl rfl (smRise_c (hxs _ _) hxat hxw hr0 zom)) ?_
 refine qv (v_call rfl rfl (roomS_c zhas zhas hgw hxw.giv zom))<|qa ?_
 refine qt ?_
 rw[e0,hroom]
 refine qs<|qm ?_
 refine qv (v_neq rfl rfl)<|qt ?_
 refine cw_false rfl<|cw_skip<|xw_then ?_
 refine cw_cut2 (ι:=(Hp)) [(0,_),(3,_),(4,_),(5,_),(11,_)] ⟨rfl,rfl,rfl,rfl,rfl,trivial⟩ ((fun _=>[(8,.int .u64 (m.more f.lim)),(6,.int .i64 0)])) ((fun z=>InAt (m.stop f.lim) bi z)) ((fun z=>[(b3,.cells (f.cells ao cap).toArray 82 (0,0))]::[(b,.cells (M1.cells p).toArray 73 (0,0))]::[(b1,.cells (x.cells ⟨some ⟨bi,0,none⟩,qo⟩).toArray 55 (0,0))]::z::co::cr::F)) ?_ ?_
 ·refine cw_any Ty.mixed ?_
  refine aw_pure 0 rfl zdk rfl rfl (v_move rfl) rfl ?_
  refine aw_pure 1 rfl zdk rfl rfl (v_nilCheck rfl) rfl ?_
  refine aw_pure 2 rfl zdk rfl rfl (v_fieldAddr0 Ty.fd55_3 rfl) rfl ?_
  refine aw_pure 4 rfl zdk rfl rfl (v_fieldAddr0 Ty.fd82_3 rfl) rfl ?_
  refine aw_step2 3 5 zdk rfl rfl ?_ ?_
  refine ql (Var.at1 Ty.sc48 (.there (.there .here)) (GetN.lit rfl))<|qx ?_
  refine aw_step1 5 zdk rfl ?_
  refine ql (Var.at1 Ty.sc27 .here (GetN.lit rfl))<|qx ?_
  refine aw_step1 6 zdk rfl ?_
  (refine ow_call rfl rfl rfl rfl (inEnd_c zsel hI zom zom) ?_;rintro _ _ ⟨x45,rfl,hq45,rfl⟩)
  refine qx ?_
  refine aw_pure 7 rfl zdk rfl rfl (v_move rfl) rfl ?_
  refine aw_pure 8 rfl zdk rfl rfl (v_extract rfl rfl) rfl ?_
  refine aw_pure 9 rfl zdk rfl rfl (v_extract rfl rfl) rfl ?_
  refine aw_pure 10 rfl zdk rfl rfl (v_assign rfl) rfl ?_
  refine aw_pure 11 rfl zdk rfl rfl (v_assign rfl) rfl ?_
  refine aw_end zdk ?_
  refine xw_np ?_
  rotate_left
  refine ql (Var.at1 Ty.sc27 .here (GetN.lit rfl))<|qx ?_
  refine aw_step1 3 zdk rfl ?_
  refine ql (Var.at1 Ty.sc48 (.there (.there .here)) (GetN.lit rfl))<|qx ?_
  refine aw_step1 6 zdk rfl ?_
  (refine ow_call rfl rfl rfl rfl (inEnd_c zsel hI zom zom) ?_;rintro _ _ ⟨x45,rfl,hq45,rfl⟩)
  refine qx ?_
  refine aw_pure 7 rfl zdk rfl rfl (v_move rfl) rfl ?_
  refine aw_pure 8 rfl zdk rfl rfl (v_extract rfl rfl) rfl ?_
  refine aw_pure 9 rfl zdk rfl rfl (v_extract rfl rfl) rfl ?_
  refine aw_pure 10 rfl zdk rfl rfl (v_assign rfl) rfl ?_
  refine aw_pure 11 rfl zdk rfl rfl (v_assign rfl) rfl ?_
  refine aw_end zdk ?_
  refine xw_np ?_
  rotate_left
  all_goals rw[hend,if_pos rfl]
  all_goals exact xw_joint x45 hq45 zcov zenv
 rintro ci' hI'
 refine cw_seq<|qs<|qm ?_
 refine qv (v_neq rfl rfl)<|qt ?_
 refine cw_false rfl<|cw_skip<|xw_then ?_
 obtain⟨c2,hM2,hc2⟩:=back (M1.setS x17.1 (x.rst1 m f)) (x.rst1 m f) ⟨some ⟨bi,0,none⟩,qo⟩ ci' co rfl rfl rfl rfl ⟨bi,rfl,hI'⟩ hO
 have e2:SsM.cells (M1.setS x17.1 (x.rst1 m f)) p=M1.cells p:=rfl
 have e3:SmM.cells (x.rst1 m f) ⟨some ⟨bi,0,none⟩,qo⟩=x.cells ⟨some ⟨bi,0,none⟩,qo⟩:=rfl
 rw[e2,e3]at hc2
 refine cw_cov (c2::[(b3,.cells (f.cells ao cap).toArray 82 (0,0))]::F) (zcv1 hc2) ?_
 subst hb1
 obtain⟨hil,hie⟩:=List.getElem?_eq_some_iff.1 hxi
 have hx2:(M1.setS x17.1 (x.rst1 m f)).str[x17.1]?=some (x.rst1 m f):=List.getElem?_set_self hil
 refine qs<|qm<|qm<|qm ?_
 (refine ow_call rfl rfl rfl rfl (use_c zsel hM2 hx2 hgw hxw.giv zom) ?_;rintro _ _ ⟨x54,rfl,hq54,rfl⟩)
 refine qt ?_
 have hx3:((M1.setS x17.1 (x.rst1 m f)).use x17.1 (x.rst1 m f) (m.more f.lim)).str[x17.1]?=some (x.rst2 m f):=List.getElem?_set_self (by simpa [SsM.setS] using hil)
 obtain⟨p2,q2,ci2,co2,cr2,hc3,hI3,hO3,back2⟩:=hq54.open hx3
 generalize x17.2.1.getD x17.1 0=b1 at hc3 back2⊢
 obtain⟨bi2,hqi,hI3⟩:=hI3
 obtain⟨qi2,qo2⟩:=q2
 dsimp only at hqi
 subst hqi
 have gw2:(M1.giv.use (m.more f.lim)).WF:=GivM.use_wf hgw hmo.1
 generalize hN2:(M1.setS x17.1 (x.rst1 m f)).use x17.1 (x.rst1 m f) (m.more f.lim)=N2 at hc3 back2 hx3 hq54
 have es:N2.str=(M1.str.set x17.1 (x.rst1 m f)).set x17.1 (x.rst2 m f):=by rw[←hN2];rfl
 have eg:N2.giv=M1.giv.use (m.more f.lim):=by rw[←hN2];rfl
 rw[←eg]at gw2
 refine cw_cov ([(b,.cells (N2.cells p2).toArray 73 (0,0))]::[(b1,.cells (SmM.cells (x.rst2 m f) ⟨some ⟨bi2,0,none⟩,qo2⟩).toArray 55 (0,0))]::ci2::co2::cr2::[(b3,.cells (f.cells ao cap).toArray 82 (0,0))]::F) (zcv1 hc3) ?_
 have hxr:(x.rst2 m f).recv=1:=hr
 have o1:=(N2.giv.take (f.lim-(m.stop f.lim).read)).one
 refine cw_seq<|qs<|qm<|qn ?_
 refine qf Ty.fd55_2 ?_
 refine ql (Var.at1 Ty.sc47 (.there .here) (GetN.lit rfl)) ?_
 refine qv (v_eql rfl rfl)<|qm ?_
 refine ow_dec 60 rfl (fun hc60=>?_) (fun hc60=>?_)
 rotate_left;(exfalso;omega);rotate_right
 refine qk ?_
 refine qk ?_
 refine qk ?_
 refine qk ?_
 refine qk ?_
 refine qk ?_
 refine qk ?_
 refine qk ?_
 refine qk ?_
 refine qk ?_
 refine qk ?_
 refine qk ?_
 refine qk ?_
 refine qv (v_pick_true rfl rfl)<|qt ?_
 refine cw_true rfl<|qs<|qm<|qn ?_
 refine qf Ty.fd55_3 ?_
 refine ql (Var.at1 Ty.sc48 (.there .here) (GetN.lit rfl)) ?_
 refine qv (v_call rfl rfl (inPlaces_c hI3 zhas))<|qm ?_
 refine qv (v_extract rfl rfl) ?_
 refine qv (v_extract rfl rfl)<|qa<|qa<|qt<|cw_seq ?_
 refine cw_mix [] [12] [0,1,2,3,4,5,6,7,8,9,10,11] Ty.mixed rfl rfl rfl rfl zdk ?_
 refine hmv ?_
 refine hmv ?_
 refine hw_pure rfl rfl (v_nilCheck rfl) rfl ?_
 refine hw_pure rfl rfl (v_fieldAddr0 Ty.fd73_0 rfl) rfl ?_
 refine hw_read rfl rfl rfl (v_load rfl (Var.atN Ty.ag51 .here ((GetN.mid (vs:=N2.giv.cells) rfl)) zra)) ?_
 refine hw_pure rfl rfl (v_fieldAddr0 Ty.fd82_3 rfl) rfl ?_
 refine hw_read rfl rfl rfl (v_load rfl (Var.at1 Ty.sc27 (.there (.there (.there (.there (.there .here))))) (GetN.lit rfl))) ?_
 refine hmv ?_
 refine hw_pure rfl rfl (v_sub rfl rfl (nw_u64 zom zom)) rfl ?_
 refine hw_read rfl rfl rfl (v_call rfl rfl (givTake_c gw2 zom)) ?_
 refine hw_pure rfl rfl (v_nilCheck rfl) rfl ?_
 refine hw_pure rfl rfl (v_fieldAddr0 Ty.fd73_0 rfl) rfl ?_
 refine hw_nil ?_
 refine sw_nil ?_
 refine ow_storeN rfl rfl rfl Ty.ag51 zra zao .here ((SetN.mid (l':=SsM.cells {N2 with giv:=N2.giv.take (f.lim-(m.stop f.lim).read)} p2) (Nat.le_of_ble_eq_true rfl) rfl)) ?_
 refine ow_nil ?_
 refine xw_np<|xw_then<|qs<|qm<|qn ?_
 refine qf Ty.fd55_2 ?_
 refine ow_store1 rfl rfl rfl rfl Ty.sc47 (.there .here) (SetN.one zdn)<|qt<|qs<|qm ?_
 refine qf Ty.fd82_4 ?_
 refine ql (Var.at1 Ty.sc27 (.there (.there (.there (.there (.there .here))))) (GetN.lit rfl))<|qn ?_
 refine qf Ty.fd55_7 ?_
 refine ow_store1 rfl rfl rfl rfl Ty.sc27 (.there .here) (SetN.one zdn)<|qt<|cw_region<|qm<|qn ?_
 refine qf Ty.fd55_11 ?_
 refine ow_store1 rfl rfl rfl rfl Ty.sc4 (.there .here) (SetN.one zdn)<|qt<|qs ?_
 refine qa<|qt ?_
 refine cw_ret ?_
 refine ret1 rfl (res_tmp rfl) ?_
 obtain⟨c',h1,h2⟩:=back2 (M1.rst x17.1 x m f) (x.rstE m f) ⟨some ⟨bi2,0,none⟩,qo2⟩ ci2 co2 (by rw[es];simp[SsM.rst]) (by rw[←hN2];rfl) (by rw[←hN2];rfl) rfl ⟨bi2,rfl,hI3⟩ hO3
 have g1:SsM.cells (M1.rst x17.1 x m f) p2=SsM.cells {N2 with giv:=N2.giv.take (f.lim-(m.stop f.lim).read)} p2:=by rw[←hN2];rfl
 have g2:SmM.cells (x.rstE m f) ⟨some ⟨bi2,0,none⟩,qo2⟩=(((SmM.cells (x.rst2 m f) ⟨some ⟨bi2,0,none⟩,qo2⟩).set 2 (.int .u8 4)).set 13 (.int .u64 f.code)).set 17 (.bool false):=rfl
 rw[g1,g2]at h2
 clear hc hc2 hc3
 exact⟨(x17.1,x17.2.1,c'),rfl,⟨hi,h1⟩,(zcv1 h2)⟩
def SmM.rz (x:SmM)(n:Int):SmM:={x with got:=x.got.raise n}
theorem giveUp_id {x:SmM}{n:Int}:(x.giveUp n).id=x.id:=by
 unfold SmM.giveUp
 split
 ·rfl
 ·split<;>rfl
theorem stp_c {M M1:SsM}{ps:List Nat}{b:Nat}{c:Hp}{f:FsM}{ao:Option Addr}{cap:Nat}{x:SmM}(hsel:Sel G c R)(hre:Reach B w0 M M1 b ps c f.id)(hx:∀i,idxS M1.str f.id=some i→M1.str[i]?=some x)(hr:x.send≠0)(hk:0≤f.code∧f.code≤18446744073709551615):
  Go.Sl.Fn Tryz.prog 53 #[.pointer (some ⟨b,0,none⟩),.agg (f.cells ao cap).toArray] B w0 G fun u G'=>∃y:Nat×List Nat×Hp,u=.int .i64 (x.giveUpE f.code)∧(idxS M1.str f.id=some y.1∧SsAt (M1.setS y.1 (x.giveUp f.code)) y.2.1 b y.2.2)∧G'=R y.2.2:=by
 refine Fn.sel0 hsel fun F hR hF=>?_
 have fl:=f.len (ao:=ao) (cap:=cap)
 have fo:=f.one (ao:=ao) (cap:=cap)
 refine fn_enter Tryz.func53 rfl (by kernel_rfl) Tryz.ntmps53 (by simp) ?_
 refine qs<|ow_box rfl rfl rfl rfl fun b3=>qa<|qt<|cw_seq<|qs<|qm<|qv (v_eql_nil_some Tryz.underlying35 rfl)<|qt<|cw_false rfl<|cw_skip<|xw_then ?_
 refine qs<|qm<|qf Ty.fd82_1<|ql (Var.at1 Ty.sc27 .here (GetN.lit rfl)) ?_
 (refine ow_call rfl rfl rfl rfl (hre _ _ zsel) ?_;rintro _ _ ⟨x13,rfl,hq13,rfl⟩)
 refine qm<|qv (v_extract rfl rfl)<|qv (v_extract rfl rfl)<|qa<|qa<|qt<|cw_seq<|qs<|qm<|qv (v_neq rfl rfl)<|qt<|cw_false rfl ?_
 refine cw_skip<|xw_then ?_
 obtain⟨hi,hM1⟩:=hq13
 have hxi:=hx _ hi
 obtain⟨p,q,ci,co,cr,hc,hI,hO,back⟩:=hM1.open hxi
 generalize hb1:x13.2.1.getD x13.1 0=b1 at hc back⊢
 have hxat:SmAt x b1 ([(b1,.cells (x.cells q).toArray 55 (0,0))]++(ci++co)):=⟨_,ci,co,rfl,hI,hO⟩
 refine cw_cov ([(b3,.cells (f.cells ao cap).toArray 82 (0,0))]::[(b,.cells (M1.cells p).toArray 73 (0,0))]::([(b1,.cells (x.cells q).toArray 55 (0,0))]++(ci++co))::cr::F) (zcv1 hc) ?_
 refine cw_seq<|qs<|qm<|qn<|qf Ty.fd55_1<|ql (Var.get1 Ty.sc47 (.there (.there .here)) (.head _) (GetN.lit rfl))<|qv (v_eql rfl rfl)<|qt ?_
 refine cw_dec rfl (fun hc23=>?_) (fun hc23=>?_)
 (exfalso;omega)
 refine cw_skip<|xw_then<|qs<|qm<|qf Ty.fd82_4<|ql (Var.at1 Ty.sc27 .here (GetN.lit rfl)) ?_
 (refine ow_call rfl rfl rfl rfl (smGiveUp_c zsel hxat hk) ?_;rintro _ _ ⟨x27,rfl,hq27,rfl⟩)
 refine qa<|qt<|cw_ret<|ret1 rfl (res_tmp rfl) ?_
 obtain⟨q',ci',co',rfl,hI',hO'⟩:=hq27
 obtain⟨c',h1,h2⟩:=back (M1.setS x13.1 (x.giveUp f.code)) (x.giveUp f.code) q' ci' co' rfl rfl rfl giveUp_id hI' hO'
 have e2:SsM.cells (M1.setS x13.1 (x.giveUp f.code)) p=M1.cells p:=rfl
 rw[e2]at h2
 clear hc
 exact⟨(x13.1,x13.2.1,c'),rfl,⟨hi,h1⟩,(zcv1 h2)⟩
theorem raise_c {M M1:SsM}{ps:List Nat}{b:Nat}{c:Hp}{f:FsM}{ao:Option Addr}{cap:Nat}{x:SmM}(hsel:Sel G c R)(hre:Reach B w0 M M1 b ps c f.id)(hx:∀i,idxS M1.str f.id=some i→M1.str[i]?=some x)(hr:x.send≠0):
  Go.Sl.Fn Tryz.prog 54 #[.pointer (some ⟨b,0,none⟩),.agg (f.cells ao cap).toArray] B w0 G fun u G'=>∃y:Nat×List Nat×Hp,u=.int .i64 0∧(idxS M1.str f.id=some y.1∧SsAt (M1.setS y.1 (x.rz f.lim)) y.2.1 b y.2.2)∧G'=R y.2.2:=by
 refine Fn.sel0 hsel fun F hR hF=>?_
 have fl:=f.len (ao:=ao) (cap:=cap)
 have fo:=f.one (ao:=ao) (cap:=cap)
 have o1:=(x.got.raise f.lim).one
 refine fn_enter Tryz.func54 rfl (by kernel_rfl) Tryz.ntmps54 (by simp) ?_
 refine qs<|ow_box rfl rfl rfl rfl fun b3=>qa<|qt<|cw_seq<|qs<|qm<|qv (v_eql_nil_some Tryz.underlying35 rfl)<|qt<|cw_false rfl<|cw_skip<|xw_then ?_
 refine qs<|qm<|qf Ty.fd82_1<|ql (Var.at1 Ty.sc27 .here (GetN.lit rfl)) ?_
 (refine ow_call rfl rfl rfl rfl (hre _ _ zsel) ?_;rintro _ _ ⟨x13,rfl,hq13,rfl⟩)
 refine qm<|qv (v_extract rfl rfl)<|qv (v_extract rfl rfl)<|qa<|qa<|qt<|cw_seq<|qs<|qm<|qv (v_neq rfl rfl)<|qt<|cw_false rfl ?_
 refine cw_skip<|xw_then ?_
 obtain⟨hi,hM1⟩:=hq13
 have hxi:=hx _ hi
 obtain⟨p,q,ci,co,cr,hc,hI,hO,back⟩:=hM1.open hxi
 generalize hb1:x13.2.1.getD x13.1 0=b1 at hc back⊢
 refine cw_cov ([(b3,.cells (f.cells ao cap).toArray 82 (0,0))]::[(b,.cells (M1.cells p).toArray 73 (0,0))]::[(b1,.cells (x.cells q).toArray 55 (0,0))]::ci::co::cr::F) (zcv1 hc) ?_
 refine cw_seq<|qs<|qm<|qn<|qf Ty.fd55_1<|ql (Var.at1 Ty.sc47 (.there (.there .here)) (GetN.lit rfl))<|qv (v_eql rfl rfl)<|qt ?_
 refine cw_dec rfl (fun hc23=>?_) (fun hc23=>?_)
 (exfalso;omega)
 refine cw_skip<|xw_then<|cw_seq ?_
 refine cw_mix [] [10] [0,1,2,3,4,5,6,7,8,9] Ty.mixed rfl rfl rfl rfl zdk ?_
 refine hmv<|hmv<|hw_pure rfl rfl (v_nilCheck rfl) rfl<|hw_pure rfl rfl (v_fieldAddr0 Ty.fd55_6 rfl) rfl ?_
 refine hw_read rfl rfl rfl (v_load rfl (Var.atN Ty.ag53 (.there (.there .here)) ((GetN.mid (vs:=x.got.cells) rfl)) zra)) ?_
 refine hw_pure rfl rfl (v_fieldAddr0 Ty.fd82_3 rfl) rfl<|hw_read rfl rfl rfl (v_load rfl (Var.at1 Ty.sc27 .here (GetN.lit rfl)))<|hw_read rfl rfl rfl (v_call rfl rfl (gotRaise_c))<|hw_pure rfl rfl (v_nilCheck rfl) rfl<|hw_pure rfl rfl (v_fieldAddr0 Ty.fd55_6 rfl) rfl<|hw_nil<|sw_nil ?_
 refine ow_storeN rfl rfl rfl Ty.ag53 zra zao (.there (.there .here)) ((SetN.mid (l':=SmM.cells (x.rz f.lim) q) (Nat.le_of_ble_eq_true rfl) rfl)) ?_
 refine ow_nil<|xw_np<|xw_then<|qs<|qa<|qt<|cw_ret<|ret1 rfl (res_tmp rfl) ?_
 obtain⟨c',h1,h2⟩:=back (M1.setS x13.1 (x.rz f.lim)) (x.rz f.lim) q ci co rfl rfl rfl rfl hI hO
 have e2:SsM.cells (M1.setS x13.1 (x.rz f.lim)) p=M1.cells p:=rfl
 rw[e2]at h2
 clear hc
 exact⟨(x13.1,x13.2.1,c'),rfl,⟨hi,h1⟩,(zcv1 h2)⟩
end Go.Proofs.YtnlaffkihohfkaaGreat
namespace Go.Sl
open Go.RowKit Go
variable {P:Program}{ops:Array Oper}{md:Region.Mode}{B:Nat}{w0:World}{Q:Exit→Act→World→Prop}{N:Nat}{G:List Hp}{E:Env}{ty T:TypeId}
def mixA (md:Region.Mode)(ops:Array Oper)(tl:List Nat):List Nat→Array Bool→Bool
 |[],listed=>(Region.ready md ops listed).all (tl.contains ·)
 |i::r,listed=>(Region.ready md ops listed).contains i&&Region.free md ops listed i&&!tl.contains i&&
   (match ops[i]? with|some o=>(!readsMem o||tl.all (waitsFor md ops · i))|none=>false)&&mixA md ops tl r (listed.setIfInBounds i true)
def listedA:List Nat→Array Bool→Array Bool
 |[],listed=>listed
 |i::r,listed=>listedA r (listed.setIfInBounds i true)
theorem wpM_of_any {tl:List Nat}:∀{fuel:Nat} {listed:Array Bool} {a:Act},(Region.ready md ops listed).all (tl.contains ·)=true→(fuel=0→tl=[])→(∀w,St B w0 G w→wpAny P md ops Q fuel listed a w)→wpM P md ops B w0 [] tl Q fuel listed G a
 |0,listed,a,hr,h0,h=>by
  have ht:=h0 rfl
  subst ht
  have hr':Region.ready md ops listed=[]:=by
   cases hq:Region.ready md ops listed with
   |nil=>rfl
   |cons x r=>rw[hq]at hr;simp at hr
  exact⟨hr',fun w hw=>(h w hw).2⟩
 |fuel+1,listed,a,hr,h0,h=>by
  refine⟨fun h1 w hw=>(h w hw).1 h1,fun i hi=>?_⟩
  have hc:tl.contains i=true:=(List.all_eq_true.1 hr) i hi
  rw[if_pos hc]
  exact fun w hw=>(h w hw).2 i hi
theorem wpM_of_mixA {tl:List Nat}{Q:Exit→Act→World→Prop}(hs:Region.noSelect ops=true)(hQ:∀c a w,¬Q (.panic c) a w):
  ∀(hd:List Nat) (os:List Oper) (listed:Array Bool) (a:Act),Closed md ops listed→hd.mapM (fun i=>ops[i]?)=some os→mixA md ops tl hd listed=true→
   wpHead P ops (St B w0 G) (fun a'=>∀w,St B w0 G w→wpAny P md ops Q tl.length (listedA hd listed) a' w) os a→wpM P md ops B w0 [] tl Q (hd.length+tl.length) listed G a:=by
 intro hd
 induction hd with
 |nil=>
  intro os listed a hcl hos hB h
  simp at hos
  subst hos
  simp only[List.length_nil,Nat.zero_add]
  exact wpM_of_any hB (fun h0=>List.length_eq_zero_iff.1 h0) h
 |cons i r ih=>
  intro os listed a hcl hos hB h
  simp only[List.mapM_cons]at hos
  cases h0:ops[i]? with
  |none=>rw[h0]at hos;simp at hos
  |some o=>
   rw[h0]at hos
   cases h1:r.mapM (fun i=>ops[i]?)with
   |none=>rw[h1]at hos;simp at hos
   |some os'=>
    rw[h1]at hos
    simp at hos
    subst hos
    simp only[mixA,Bool.and_eq_true,h0]at hB
    obtain⟨⟨⟨⟨hr,hf⟩,ht⟩,hm⟩,hB'⟩:=hB
    have hst:hOp P ops (St B w0 G) i (wpHead P ops (St B w0 G) (fun a'=>∀w,St B w0 G w→wpAny P md ops Q tl.length (listedA (i::r) listed) a' w) os') a:=by unfold hOp;simp only[h0];exact h
    obtain⟨v,hy,hK⟩:=yieldsH_of_hOp h0 hst
    have hlen:(i::r).length+tl.length=(r.length+tl.length)+1:=by simp;omega
    rw[hlen]
    refine wpM_first h0 (Region.noSelect_spec hs) hQ (by simpa using ht) (by simp) (fun hrm=>?_) (fun _=>by simp) (r.length+tl.length) listed G a hcl (Region.free_spec h0 hf) (by simpa using hr) hy ?_
    ·rw[hrm]at hm
     exact waits_spec (by simpa using hm)
    ·exact ih os' (listed.setIfInBounds i true) (a.put o.dst v) (hcl.add (by simpa using hr)) h1 hB' hK
def HWA (P:Program)(ops:Array Oper)(Q:Exit→Act→World→Prop)(B:Nat)(w0:World)(N:Nat)(G:List Hp)(E:Env)(rest:List Oper)(tail:Nat×Array Bool):Prop:=
 ∀a,EnvOK N E a→wpHead P ops (St B w0 G) (fun a'=>∀w,St B w0 G w→wpAny P .any ops (NP Q) tail.1 tail.2 a' w) rest a
theorem cw_mixA {id:Nat}{l:List Oper}(tl hd:List Nat)(LL:Array Bool){hs:List Oper}(hm:P.follows .mixedOrders=true)(hhs:picks l hd=some hs)(hlen:hd.length+tl.length=l.length)
  (hB:(Region.noSelect l.toArray&&mixA .any l.toArray tl hd (Array.replicate l.length false))=true) (hL:listedA hd (Array.replicate l.length false)=LL) (h:HWA P l.toArray Q B w0 N G E hs (tl.length,LL)):CW P Q B w0 N G E (.region id l.toArray true):=fun a w ha hw=>by
 subst hL
 simp only[Bool.and_eq_true]at hB
 refine wp_mono (Q:=NP Q) ?_ (fun e a w hq=>by cases e<;>first|exact hq|exact hq.elim)
 refine wp_region_any hm ?_
 have h1:=wpM_of_mixA (md:=.any) (Q:=NP Q) (tl:=tl) hB.1 (fun c a w hq=>hq) hd hs (Array.replicate l.length false) a (Closed.start _) (by rw[picks_eq]at hhs;simpa using hhs) hB.2 (h a ha)
 have h2:=wpAny_of_M (w:={w with drawn:=w.drawn+1}) _ _ _ _ hw.drewEq h1
 rw[hlen]at h2
 simpa using h2
theorem hwa_pure {d:Nat}{op:Op}{pos:String}{af:Array Edge}{g:Option (Nat×Bool)}{rest:List Oper}{tail:Nat×Array Bool}{v:Value}(hg:Env.guard E ops g=some true)(hd:Nat.blt d N=true)
  (hv : OpV P (fun _ => True) N E op ty v) (hc : readsMem ⟨none, op, ty, "", #[], none⟩ = false) (h : HWA P ops Q B w0 N G ((d, v) :: E) rest tail) :
  HWA P ops Q B w0 N G E (⟨some d,op,ty,pos,af,g⟩::rest) tail:=fun a ha=>by
 unfold wpHead
 rw[if_pos (ha.guard (o:=⟨some d,op,ty,pos,af,g⟩) hg)]
 have key : ∀ w, (execOp a.eval ⟨none, op, ty, "", #[], none⟩).run P w = .ok (.value v) w := fun w => by
  have h1:=hv a w ha trivial
  cases hr : (execOp a.eval ⟨none, op, ty, "", #[], none⟩).run P w with
  |halt x w'=>rw[hr]at h1;simp[Oper.quietUpon]at h1
  |ok n w'=>
   obtain⟨u,hu⟩:=pure_value hc hr
   subst hu
   rw[hr]at h1
   simp only[Oper.quietUpon]at h1
   rw[h1.1,h1.2]
 refine⟨v,⟨fun w' _=>?_,fun _ w=>key w⟩,h _ (ha.put (by simpa using hd) v)⟩
 have he : execOp a.eval ⟨some d, op, ty, pos, af, g⟩ = execOp a.eval ⟨none, op, ty, "", #[], none⟩ := rfl
 unfold Oper.quietAt
 rw[he,key w']
 exact⟨rfl,rfl⟩
theorem hwa_nil {fuel:Nat}{listed:Array Bool}(h:AW P .any ops (NP Q) B w0 N G E fuel listed):HWA P ops Q B w0 N G E [] (fuel,listed):=fun a ha w hw=>h a w ha hw
end Go.Sl
namespace Go.Sl
open Go.RowKit Go
variable {P:Program}{ops:Array Oper}{md:Region.Mode}{B:Nat}{w0:World}{Q:Exit→Act→World→Prop}{N:Nat}{G:List Hp}{E:Env}{ty T:TypeId}
def mixX (md:Region.Mode)(ops:Array Oper)(sf tl:List Nat):List Nat→Array Bool→Bool
 |[],listed=>true
 |i::r,listed=>(Region.ready md ops listed).contains i&&Region.free md ops listed i&&!tl.contains i&&!sf.contains i&&
   (match ops[i]? with|some o=>(!readsMem o||tl.all (waitsFor md ops · i))|none=>false)&&mixX md ops sf tl r (listed.setIfInBounds i true)
theorem wpM_of_mixX {sf tl:List Nat}{n:Nat}{Q:Exit→Act→World→Prop}{G:List Hp}(hs:Region.noSelect ops=true)(hQ:∀c a w,¬Q (.panic c) a w):
  ∀(hd:List Nat) (os:List Oper) (listed:Array Bool) (a:Act),Closed md ops listed→hd.mapM (fun i=>ops[i]?)=some os→mixX md ops sf tl hd listed=true→
   wpHeadR P ops B w0 G (fun a'=>wpM P md ops B w0 sf tl Q n (listedA hd listed) G a') os a→wpM P md ops B w0 sf tl Q (hd.length+n) listed G a:=by
 intro hd
 induction hd with
 |nil=>
  intro os listed a hcl hos hB h
  simp at hos
  subst hos
  simp only[List.length_nil,Nat.zero_add]
  exact h
 |cons i r ih=>
  intro os listed a hcl hos hB h
  simp only[List.mapM_cons]at hos
  cases h0:ops[i]? with
  |none=>rw[h0]at hos;simp at hos
  |some o=>
   rw[h0]at hos
   cases h1:r.mapM (fun i=>ops[i]?)with
   |none=>rw[h1]at hos;simp at hos
   |some os'=>
    rw[h1]at hos
    simp at hos
    subst hos
    simp only[mixX,Bool.and_eq_true,h0]at hB
    obtain⟨⟨⟨⟨⟨hr,hf⟩,ht⟩,hsf⟩,hm⟩,hB'⟩:=hB
    have hst:∃v,YieldsR P ops B w0 G o v a∧wpHeadR P ops B w0 G (fun a'=>wpM P md ops B w0 sf tl Q n (listedA (i::r) listed) G a') os' (a.put o.dst v):=by
     unfold wpHeadR at h
     by_cases hw:Region.wanted o (yielded ops a.tmps)=true
     ·rw[if_pos hw]at h
      obtain⟨v,h1,h2⟩:=h
      exact⟨v,fun X=>.inl ⟨hw,h1 X⟩,h2⟩
     ·rw[if_neg hw]at h
      exact⟨undef,fun X=>.inr ⟨by simpa using hw,rfl⟩,h⟩
    obtain⟨v,hy,hK⟩:=hst
    have hlen:(i::r).length+n=(r.length+n)+1:=by simp;omega
    rw[hlen]
    refine wpM_firstR h0 (Region.noSelect_spec hs) hQ (by simpa using ht) (by simpa using hsf) (fun hrm=>?_) (r.length+n) listed G a hcl (Region.free_spec h0 hf) (by simpa using hr) hy ?_
    ·have h3:=hm
     rw[hrm]at h3
     exact waits_spec (by simpa using h3)
    ·exact ih os' (listed.setIfInBounds i true) (a.put o.dst v) (hcl.add (by simpa using hr)) h1 hB' hK
def MW (P:Program)(ops:Array Oper)(Q:Exit→Act→World→Prop)(B:Nat)(w0:World)(N:Nat)(G:List Hp)(E:Env)(sf tl:List Nat)(fuel:Nat)(listed:Array Bool):Prop:=
 ∀a,EnvOK N E a→wpM P .any ops B w0 sf tl (NP Q) fuel listed G a
def HWX (P:Program)(ops:Array Oper)(Q:Exit→Act→World→Prop)(B:Nat)(w0:World)(N:Nat)(G:List Hp)(E:Env)(rest:List Oper)(tail:List Nat×List Nat×Nat×Array Bool):Prop:=
 ∀a,EnvOK N E a→wpHeadR P ops B w0 G (fun a'=>wpM P .any ops B w0 tail.1 tail.2.1 (NP Q) tail.2.2.1 tail.2.2.2 G a') rest a
theorem cw_mixX {id:Nat}{l:List Oper}(sf tl hd:List Nat)(n:Nat)(LL:Array Bool){hs:List Oper}(hm:P.follows .mixedOrders=true)(hhs:picks l hd=some hs)(hlen:hd.length+n=l.length)
  (hB:(Region.noSelect l.toArray&&mixX .any l.toArray sf tl hd (Array.replicate l.length false))=true) (hL:listedA hd (Array.replicate l.length false)=LL) (h:HWX P l.toArray Q B w0 N G E hs (sf,tl,n,LL)):CW P Q B w0 N G E (.region id l.toArray true):=fun a w ha hw=>by
 subst hL
 simp only[Bool.and_eq_true]at hB
 refine wp_mono (Q:=NP Q) ?_ (fun e a w hq=>by cases e<;>first|exact hq|exact hq.elim)
 refine wp_region_any hm ?_
 have h1:=wpM_of_mixX (md:=.any) (Q:=NP Q) (sf:=sf) (tl:=tl) (n:=n) hB.1 (fun c a w hq=>hq) hd hs (Array.replicate l.length false) a (Closed.start _) (by rw[picks_eq]at hhs;simpa using hhs) hB.2 (h a ha)
 have h2:=wpAny_of_M (w:={w with drawn:=w.drawn+1}) _ _ _ _ hw.drewEq h1
 rw[hlen]at h2
 simpa using h2
theorem mw_any {sf tl:List Nat}{fuel:Nat}{listed:Array Bool}(hr:(Region.ready .any ops listed).all (tl.contains ·)=true)(h:AW P .any ops (NP Q) B w0 N G E (fuel+1) listed):MW P ops Q B w0 N G E sf tl (fuel+1) listed:=fun a ha=>by
 refine⟨fun h1 w hw=>(h a w ha hw).1 h1,fun i hi=>?_⟩
 have hc:tl.contains i=true:=(List.all_eq_true.1 hr) i hi
 rw[if_pos hc]
 exact fun w hw=>(h a w ha hw).2 i hi
theorem mw_step2 (i k:Nat){sf tl:List Nat}{d':Option Tmp}{op':Op}{t':TypeId}{pos':String}{af':Array Edge}{g':Option (Nat×Bool)}{d:Nat}{t:TypeId}{pos:String}{af:Array Edge}{g:Option (Nat×Bool)}{fuel:Nat}{listed:Array Bool}{zs:List Value}(hr:((Region.ready .any ops listed).all (fun j=>j == i||j == k)&&!(Region.ready .any ops listed).isEmpty&&tl.contains i&&(!tl.contains k&&sf.contains k))=true)(hi:ops[i]?=some ⟨d',op',t',pos',af',g'⟩)(hk:ops[k]?=some ⟨some d,.alloc T,t,pos,af,g⟩)
  (hg:Env.guard E ops g=some true) (hd:Nat.blt d N=true) (hz:Zero P T zs) (h:OW P ops (Nx (wpAny P .any ops (NP Q) fuel (listed.setIfInBounds i true)) (NP Q)) B w0 N G E [⟨d',op',t',pos',af',g'⟩]) (h':∀b,MW P ops Q B w0 N ([(b,.cells zs.toArray T (0,0))]::G) ((d,.pointer (some ⟨b,0,none⟩))::E) sf tl fuel (listed.setIfInBounds k true)):MW P ops Q B w0 N G E sf tl (fuel+1) listed:=fun a ha=>by
 simp only[Bool.and_eq_true,Bool.not_eq_true']at hr
 obtain⟨⟨⟨hr1,hr2⟩,hr3⟩,hr4,hr5⟩:=hr
 refine⟨fun h0=>(by rw[h0]at hr2;cases hr2),fun j hj=>?_⟩
 have:=(List.all_eq_true.1 hr1) j hj
 simp only[Bool.or_eq_true,beq_iff_eq]at this
 rcases this with rfl|rfl
 ·rw[if_pos hr3]
  exact fun w hw=>wpOp_of_list hi (h a w ha hw)
 ·rw[if_neg (by rw[hr4];simp),if_pos hr5]
  unfold sOp
  simp only[hk]
  rw[if_pos (ha.guard (o:=⟨some d,.alloc T,t,pos,af,g⟩) hg)]
  exact⟨_,fun b=>.pointer (some ⟨b,0,none⟩),fun w _=>by
   obtain⟨z,h1,h2⟩:=hz.run w
   simp[execOp,Instr.alloc,h1,newVar,newRow,h2],fun b=>h' b _ (ha.put (by simpa using hd) _)⟩
theorem hwx_pure {d:Nat}{op:Op}{pos:String}{af:Array Edge}{g:Option (Nat×Bool)}{rest:List Oper}{tail:List Nat×List Nat×Nat×Array Bool}{v:Value}(hg:Env.guard E ops g=some true)(hd:Nat.blt d N=true)
  (hv : OpV P (fun _ => True) N E op ty v) (hc : readsMem ⟨none, op, ty, "", #[], none⟩ = false) (h : HWX P ops Q B w0 N G ((d, v) :: E) rest tail) :
  HWX P ops Q B w0 N G E (⟨some d,op,ty,pos,af,g⟩::rest) tail:=fun a ha=>by
 unfold wpHeadR
 rw[if_pos (ha.guard (o:=⟨some d,op,ty,pos,af,g⟩) hg)]
 have key : ∀ w, (execOp a.eval ⟨none, op, ty, "", #[], none⟩).run P w = .ok (.value v) w := fun w => by
  have h1:=hv a w ha trivial
  cases hr : (execOp a.eval ⟨none, op, ty, "", #[], none⟩).run P w with
  |halt x w'=>rw[hr]at h1;simp[Oper.quietUpon]at h1
  |ok n w'=>
   obtain⟨u,hu⟩:=pure_value hc hr
   subst hu
   rw[hr]at h1
   simp only[Oper.quietUpon]at h1
   rw[h1.1,h1.2]
 refine⟨v,fun X=>⟨fun w' _=>?_,fun _ w=>key w⟩,h _ (ha.put (by simpa using hd) v)⟩
 have he : execOp a.eval ⟨some d, op, ty, pos, af, g⟩ = execOp a.eval ⟨none, op, ty, "", #[], none⟩ := rfl
 unfold Oper.quietAt
 rw[he,key w']
 exact⟨rfl,rfl⟩
theorem hwx_load {d:Nat}{op:Op}{pos:String}{af:Array Edge}{g:Option (Nat×Bool)}{rest:List Oper}{tail:List Nat×List Nat×Nat×Array Bool}{v:Value}(hg:Env.guard E ops g=some true)(hd:Nat.blt d N=true)
  (hr:readsMem ⟨some d,op,ty,pos,af,g⟩=true) (hn:noCall ⟨some d,op,ty,pos,af,g⟩=true) (hv:OpV P (St B w0 G) N E op ty v) (h:HWX P ops Q B w0 N G ((d,v)::E) rest tail):
  HWX P ops Q B w0 N G E (⟨some d,op,ty,pos,af,g⟩::rest) tail:=fun a ha=>by
 unfold wpHeadR
 rw[if_pos (ha.guard (o:=⟨some d,op,ty,pos,af,g⟩) hg)]
 exact⟨v,headAt.moreN hn ⟨fun w' hw'=>hv.quietAt ha w' hw',fun h0=>by rw[hr]at h0;cases h0⟩,h _ (ha.put (by simpa using hd) v)⟩
theorem hwx_call {d:Nat}{op:Op}{pos:String}{af:Array Edge}{g:Option (Nat×Bool)}{rest:List Oper}{tail:List Nat×List Nat×Nat×Array Bool}{v:Value}(hg:Env.guard E ops g=some true)(hd:Nat.blt d N=true)
  (hr:readsMem ⟨some d,op,ty,pos,af,g⟩=true) (hv:∀X:List Hp,OpV P (St B w0 (X++G)) N E op ty v) (h:HWX P ops Q B w0 N G ((d,v)::E) rest tail):
  HWX P ops Q B w0 N G E (⟨some d,op,ty,pos,af,g⟩::rest) tail:=fun a ha=>by
 unfold wpHeadR
 rw[if_pos (ha.guard (o:=⟨some d,op,ty,pos,af,g⟩) hg)]
 exact⟨v,fun X=>⟨fun w' hw'=>(hv X).quietAt ha w' hw',fun h0=>by rw[hr]at h0;cases h0⟩,h _ (ha.put (by simpa using hd) v)⟩
theorem hwx_nil {sf tl:List Nat}{n:Nat}{listed:Array Bool}(h:MW P ops Q B w0 N G E sf tl n listed):HWX P ops Q B w0 N G E [] (sf,tl,n,listed):=fun a ha=>h a ha
end Go.Sl
namespace Go.Sl
open Go.RowKit Go Go.Instr
variable {P:Program}{ops:Array Oper}{md:Region.Mode}{Q:Exit→Act→World→Prop}{S:World→Prop}{B:Nat}{w0:World}{N:Nat}{G:List Hp}{E:Env}{ty T:TypeId}
def AH (P:Program)(md:Region.Mode)(ops:Array Oper)(Q:Exit→Act→World→Prop)(S:World→Prop)(B:Nat)(w0:World)(N:Nat)(G:List Hp)(E:Env)(fuel:Nat)(listed:Array Bool):Prop:=
 ∀a w,EnvOK N E a→St B w0 G w→wpAnyH P md ops Q S fuel listed a w
def Runs (P : Program) (S : World → Prop) (N : Nat) (E : Env) (op : Op) (ty : TypeId) (v : Value) : Prop := ∀ a w, EnvOK N E a → S w → (execOp a.eval ⟨none, op, ty, "", #[], none⟩).run P w = .ok (.value v) w
theorem runs_pure {op : Op} {v : Value} (hv : OpV P (fun _ => True) N E op ty v) (hc : readsMem ⟨none, op, ty, "", #[], none⟩ = false) : Runs P S N E op ty v := fun a w ha _ => by
 have h1:=hv a w ha trivial
 cases hr : (execOp a.eval ⟨none, op, ty, "", #[], none⟩).run P w with
 |halt x w'=>rw[hr]at h1;simp[Oper.quietUpon]at h1
 |ok n w'=>
  obtain⟨u,hu⟩:=pure_value hc hr
  subst hu
  rw[hr]at h1
  simp only[Oper.quietUpon]at h1
  rw[h1.1,h1.2]
theorem runs_load {x:Operand}{p:Addr}{v:Value}(hx:Env.ev E x=some (.pointer (some p)))(hv:Var P S T p v):Runs P S N E (.load T x) ty v:=fun a w ha hw=>by
 simp[execOp,ha.ev hx,Instr.loadAt,Instr.sureAddr,hv w hw]
theorem ah_take (i:Nat){d:Nat}{op:Op}{t:TypeId}{pos:String}{af:Array Edge}{fuel:Nat}{listed:Array Bool}{v:Value}(hi:ops[i]?=some ⟨some d,op,t,pos,af,none⟩)
  (hB:(Region.noSelect ops&&(Region.free md ops listed i&&(Region.ready md ops listed).contains i))=true) (hQ:∀c a w,¬Q (.panic c) a w) (hd:Nat.blt d N=true) (hv:Runs P S N E op t v) (hS:∀w,St B w0 G w→S w)
  (h:AH P md ops Q S B w0 N G ((d,v)::E) fuel (listed.setIfInBounds i true)):AH P md ops Q S B w0 N G E (fuel+1) listed:=fun a w ha hw=>by
 simp only[Bool.and_eq_true]at hB
 refine wpAnyH_take hi hB.1 hB.2.1 hB.2.2 (fun c a w hq=>absurd hq (hQ c _ w)) (v:=v) (.inl ⟨rfl,fun w' hw'=>hv a w' ha hw'⟩) (hS w hw) ?_
 exact h _ _ (ha.put (by simpa using hd) v) hw
theorem ah_all (is:List Nat){fuel:Nat}{listed:Array Bool}(hr:decide (Region.ready md ops listed=is)=true)(hne:is≠[])(h:∀j∈is,∃o,ops[j]?=some o∧OW P ops (Nx (fun a' w'=>S w'∧wpAnyH P md ops Q S fuel (listed.setIfInBounds j true) a' w') Q) B w0 N G E [o]):AH P md ops Q S B w0 N G E (fuel+1) listed:=fun a w ha hw=>by
 refine wpAnyH_all (by simpa using hr) hne fun j hj=>?_
 obtain⟨o,ho,h1⟩:=h j hj
 exact wpOp_of_list ho (h1 a w ha hw)
theorem ow_held {fuel:Nat}{listed:Array Bool}(hS:∀w,St B w0 G w→S w)(h:AH P md ops Q S B w0 N G E fuel listed):OW P ops (Nx (fun a' w'=>S w'∧wpAnyH P md ops Q S fuel listed a' w') Q) B w0 N G E []:=fun a w ha hw=>⟨hS w hw,h a w ha hw⟩
theorem ah_end {fuel:Nat}{listed:Array Bool}(hr:(Region.ready md ops listed).isEmpty=true)(h:XW Q B w0 N G E .normal):AH P md ops Q S B w0 N G E fuel listed:=fun a w ha hw=>wpAnyH_done (by simpa using hr) (h a w ha hw) fuel
theorem aw_held (S:World→Prop){fuel:Nat}{listed:Array Bool}(h:AH P md ops Q S B w0 N G E fuel listed):AW P md ops Q B w0 N G E fuel listed:=fun a w ha hw=>wpAny_of_held _ _ _ _ (h a w ha hw)
end Go.Sl
namespace Go.Sl
theorem mem_cnt {p:Nat×Obj}{l:Hp}(h:p∈l):0<cnt p l:=by
 unfold cnt
 exact List.countP_pos_iff.2 ⟨p,h,by simp⟩
end Go.Sl
namespace Go.Proofs.YtnlaffkihohfkaaGreat
open Go Go.Sl Go.Proofs
variable {B:Nat}{w0:World}{G:List Hp}{R:Hp→List Hp}
theorem SsAt.look {M:SsM}{ps:List Nat}{b:Nat}{c:Hp}{i:Nat}{x:SmM}(h:SsAt M ps b c)(hi:M.str[i]?=some x):
  ∃(p:SsP) (q:SmP) (ci co:Hp),InO x.inn q.ip ci∧OutO x.out q.op co∧∀G,Go.Sl.Sub c G→Go.Sl.Sub [(b,.cells (M.cells p).toArray 73 (0,0))] G∧Go.Sl.Sub [(ps.getD i 0,.cells (x.cells q).toArray 55 (0,0))] G∧Go.Sl.Sub ci G∧Go.Sl.Sub co G:=by
 obtain⟨p,q,ci,co,cr,hc,hI,hO,_⟩:=h.open hi
 refine⟨p,q,ci,co,hI,hO,fun G hs=>⟨fun z hz=>?_,fun z hz=>?_,fun z hz=>?_,fun z hz=>?_⟩⟩
 all_goals
  have h1:=Go.Sl.mem_cnt hz
  have h2:=hc z
  exact hs z (cnt_pos zom)
def SsM.next (M:SsM)(x:SmM)(most:Int):FsM×Bool:=
 if x.resets=true∧x.send=4 then (⟨4,x.id,0,x.got.used,x.reset,[],false⟩,true)
 else if x.stops=true∧liveS x.recv=true then (⟨5,x.id,0,0,x.stop,[],false⟩,true)
 else if x.recv=1∧x.giv.wants=true then (⟨17,x.id,0,x.giv.lim,0,[],false⟩,true)
 else if liveS x.send=false then (fs0 0,false)
 else match x.out with
  |none=>(fs0 0,false)
  |some o=>if (o.next most (x.got.used+min x.got.room M.got.room)).2=true then (⟨8,x.id,(o.next most (x.got.used+min x.got.room M.got.room)).1.at_,0,0,(o.next most (x.got.used+min x.got.room M.got.room)).1.data,(o.next most (x.got.used+min x.got.room M.got.room)).1.fin⟩,true) else (fs0 0,false)
theorem b_fr0:Build Tryz.prog 82 #[] (.agg ((fs0 0).cells none 0).toArray):=fun w=>by kernel_rfl
theorem b_fr1 {n:Int}:Build Tryz.prog 82 #[(1,.int .u64 n)] (.agg ((fs0 n).cells none 0).toArray):=fun w=>by kernel_rfl
theorem SsM.next_1 {M:SsM}{x:SmM}{most:Int}(h:x.resets=true∧x.send=4):M.next x most=(⟨4,x.id,0,x.got.used,x.reset,[],false⟩,true):=if_pos h
theorem SsM.next_2 {M:SsM}{x:SmM}{most:Int}(h0:¬(x.resets=true∧x.send=4))(h:x.stops=true∧liveS x.recv=true):M.next x most=(⟨5,x.id,0,0,x.stop,[],false⟩,true):=by
 rw[SsM.next,if_neg h0,if_pos h]
theorem SsM.next_3 {M:SsM}{x:SmM}{most:Int}(h0:¬(x.resets=true∧x.send=4))(h1:¬(x.stops=true∧liveS x.recv=true))(h:x.recv=1∧x.giv.wants=true):M.next x most=(⟨17,x.id,0,x.giv.lim,0,[],false⟩,true):=by
 rw[SsM.next,if_neg h0,if_neg h1,if_pos h]
theorem SsM.next_4 {M:SsM}{x:SmM}{most:Int}(h0:¬(x.resets=true∧x.send=4))(h1:¬(x.stops=true∧liveS x.recv=true))(h2:¬(x.recv=1∧x.giv.wants=true))(h:liveS x.send=false):M.next x most=(fs0 0,false):=by
 rw[SsM.next,if_neg h0,if_neg h1,if_neg h2,if_pos h]
def SsM.part (M:SsM)(x:SmM)(o:BufM)(most:Int):PartM×Bool:=o.next most (x.got.used+min x.got.room M.got.room)
theorem SsM.next_5 {M:SsM}{x:SmM}{most:Int}{o:BufM}(h0:¬(x.resets=true∧x.send=4))(h1:¬(x.stops=true∧liveS x.recv=true))(h2:¬(x.recv=1∧x.giv.wants=true))(h:liveS x.send=true)(ho:x.out=some o):
  M.next x most=if (M.part x o most).2=true then (⟨8,x.id,(M.part x o most).1.at_,0,0,(M.part x o most).1.data,(M.part x o most).1.fin⟩,true) else (fs0 0,false):=by
 rw[SsM.next,if_neg h0,if_neg h1,if_neg h2,if_neg (by rw[h];simp),ho]
 rfl
theorem wants_iff {g:GivM}:g.wants=true↔g.ahead/2<roomM g.lim g.told:=by simp[GivM.wants]
set_option maxHeartbeats 4000000 in
theorem next_c {M:SsM}{ps:List Nat}{b i:Nat}{c:Hp}{x:SmM}{most:Int}(hs:Sub c G)(hM:SsAt M ps b c)(hi:M.str[i]?=some x)(hgw:M.got.WF)(hxw:x.WF)(hm: -9223372036854775808≤most∧most≤1000000):
    Go.Sl.Fn Tryz.prog 28 #[.pointer (some ⟨b,0,none⟩),.pointer (some ⟨ps.getD i 0,0,none⟩),.int .i64 most] B w0 G fun u G'=>∃y:Option Addr×Nat×Hp,u=.tuple #[.agg ((M.next x most).1.cells y.1 y.2.1).toArray,.bool (M.next x most).2]∧Ls enB 5 (.slice y.1 (M.next x most).1.data.length y.2.1) y.2.2 (M.next x most).1.data∧G'=[y.2.2]++G:=by
  refine Fn.new ?_
  obtain⟨p,q,ci,co,hI,hO,hsub⟩:=hM.look hi
  generalize ps.getD i 0=b1 at hsub⊢
  obtain⟨hs1,hs2,hs3,hs4⟩:=hsub G hs
  have fo:=@FsM.one
  have fl:=@FsM.len
  have hxg:=hxw.got
  refine fn_enter Tryz.func28 rfl (by kernel_rfl) Tryz.ntmps28 (by simp) ?_
  refine qs ?_
  refine ow_alloc rfl rfl Ty.ze82 fun b6=>?_
  refine qa ?_
  refine qt ?_
  refine cw_cov ([(b6,.cells ((fs0 0).cells none 0).toArray 82 (0,0))]::G) (Cov.refl _) ?_
  refine cw_seq ?_
  refine qs ?_
  refine qm ?_
  refine qv (v_eql_nil_some Tryz.underlying35 rfl) ?_
  refine qm ?_
  refine qm ?_
  refine qv (v_eql_nil_some Tryz.underlying45 rfl) ?_
  refine qv (v_pick_false rfl rfl) ?_
  refine qt ?_
  refine cw_false rfl ?_
  refine cw_skip ?_
  refine xw_then ?_
  refine qs ?_
  refine qm ?_
  refine qn ?_
  refine qf Ty.fd55_0 ?_
  refine ql (Var.sub1 Ty.sc27 zthr (.head _) (GetN.lit rfl)) ?_
  refine qv (v_build rfl (b_fr1)) ?_
  refine ow_alloc rfl rfl Ty.ze82 fun b8=>?_
  refine ow_storeN rfl rfl rfl Ty.ag82 zra zao .here (SetN.all zsa) ?_
  refine qt ?_
  refine cw_cut2 (ι:=(Unit)) [(0,_),(1,_),(2,_),(6,_),(8,_)] ⟨rfl,rfl,rfl,rfl,rfl,trivial⟩ ((fun _=>[])) ((fun _=>(¬(x.resets=true∧x.send=4))∧(¬(x.stops=true∧liveS x.recv=true))∧(¬(x.recv=1∧x.giv.wants=true)))) ((fun _=>[(b8,.cells ((fs0 x.id).cells none 0).toArray 82 (0,0))]::[(b6,.cells ((fs0 0).cells none 0).toArray 82 (0,0))]::G)) ?_ ?_
  · refine cw_block ?_
    refine qs ?_
    refine qm ?_
    refine qn ?_
    refine qf Ty.fd55_9 ?_
    refine ql (Var.sub1 Ty.sc4 zthr (.head _) (GetN.lit rfl)) ?_
    refine qm ?_
    refine ow_bool 28 rfl (fun hc28=>?_) (fun hc28=>?_)
    refine qm ?_
    refine qn ?_
    refine qf Ty.fd55_1 ?_
    refine ql (Var.sub1 Ty.sc47 zthr (.head _) (GetN.lit rfl)) ?_
    refine qv (v_eql rfl rfl) ?_
    refine qv (v_pick_true rfl rfl) ?_
    refine qa ?_
    refine qt ?_
    refine cw_dec rfl (fun hc23=>?_) (fun hc23=>?_)
    refine cw_seq ?_
    refine cw_any Ty.mixed ?_
    refine aw_pure 0 rfl zdk rfl rfl (v_move rfl) rfl ?_
    refine aw_pure 1 rfl zdk rfl rfl (v_nilCheck rfl) rfl ?_
    refine aw_pure 2 rfl zdk rfl rfl (v_fieldAddr0 Ty.fd55_8 rfl) rfl ?_
    refine aw_pure 4 rfl zdk rfl rfl (v_move rfl) rfl ?_
    refine aw_pure 5 rfl zdk rfl rfl (v_nilCheck rfl) rfl ?_
    refine aw_pure 6 rfl zdk rfl rfl (v_fieldAddr0 Ty.fd55_6 rfl) rfl ?_
    refine aw_pure 7 rfl zdk rfl rfl (v_fieldAddr Ty.fd53_1 rfl) rfl ?_
    refine aw_pure 9 rfl zdk rfl rfl (v_fieldAddr0 Ty.fd82_0 rfl) rfl ?_
    refine aw_step3 3 8 10 zdk rfl rfl rfl ?_ ?_ ?_
    refine ql (Var.sub1 Ty.sc27 zthr (.head _) (GetN.lit rfl)) ?_
    refine qx ?_
    refine aw_step2 8 10 zdk rfl rfl ?_ ?_
    refine ql (Var.sub1 Ty.sc27 zthr (.head _) (GetN.lit rfl)) ?_
    refine qx ?_
    refine aw_step1 10 zdk rfl ?_
    refine ow_store1 rfl rfl rfl rfl Ty.sc76 .here (SetN.one zdn) ?_
    refine qx ?_
    refine aw_pure 11 rfl zdk rfl rfl (v_fieldAddr0 Ty.fd82_4 rfl) rfl ?_
    refine aw_step1 12 zdk rfl ?_
    refine ow_store1 rfl rfl rfl rfl Ty.sc27 .here (SetN.one zdn) ?_
    refine qx ?_
    refine aw_pure 13 rfl zdk rfl rfl (v_fieldAddr0 Ty.fd82_3 rfl) rfl ?_
    refine aw_step1 14 zdk rfl ?_
    refine ow_store1 rfl rfl rfl rfl Ty.sc27 .here (SetN.one zdn) ?_
    refine qx ?_
    refine aw_end zdk ?_
    refine xw_np ?_
    refine xw_then ?_
    refine qs ?_
    refine ql (Var.atN Ty.ag82 .here GetN.all zra) ?_
    refine ow_storeN rfl rfl rfl Ty.ag82 zra zao (.there .here) (SetN.all zsa) ?_
    refine qa ?_
    refine qt ?_
    refine cw_ret ?_
    refine xw_block_ret ?_
    refine xw_joint_ret ?_
    refine ret2 rfl (res_cell rfl (Var.atN Ty.ag82 (.there .here) GetN.all zra)) (res_tmp rfl) ?_
    rotate_left
    refine ow_store1 rfl rfl rfl rfl Ty.sc76 .here (SetN.one zdn) ?_
    refine qx ?_
    refine aw_pure 11 rfl zdk rfl rfl (v_fieldAddr0 Ty.fd82_4 rfl) rfl ?_
    refine aw_step2 8 12 zdk rfl rfl ?_ ?_
    refine ql (Var.sub1 Ty.sc27 zthr (.head _) (GetN.lit rfl)) ?_
    refine qx ?_
    refine aw_step1 12 zdk rfl ?_
    refine ow_store1 rfl rfl rfl rfl Ty.sc27 .here (SetN.one zdn) ?_
    refine qx ?_
    refine aw_pure 13 rfl zdk rfl rfl (v_fieldAddr0 Ty.fd82_3 rfl) rfl ?_
    refine aw_step1 14 zdk rfl ?_
    refine ow_store1 rfl rfl rfl rfl Ty.sc27 .here (SetN.one zdn) ?_
    refine qx ?_
    refine aw_end zdk ?_
    refine xw_np ?_
    refine xw_then ?_
    refine qs ?_
    refine ql (Var.atN Ty.ag82 .here GetN.all zra) ?_
    refine ow_storeN rfl rfl rfl Ty.ag82 zra zao (.there .here) (SetN.all zsa) ?_
    refine qa ?_
    refine qt ?_
    refine cw_ret ?_
    refine xw_block_ret ?_
    refine xw_joint_ret ?_
    refine ret2 rfl (res_cell rfl (Var.atN Ty.ag82 (.there .here) GetN.all zra)) (res_tmp rfl) ?_
    rotate_left
    refine ow_store1 rfl rfl rfl rfl Ty.sc27 .here (SetN.one zdn) ?_
    refine qx ?_
    refine aw_step1 8 zdk rfl ?_
    refine ql (Var.sub1 Ty.sc27 zthr (.head _) (GetN.lit rfl)) ?_
    refine qx ?_
    refine aw_pure 13 rfl zdk rfl rfl (v_fieldAddr0 Ty.fd82_3 rfl) rfl ?_
    refine aw_step1 14 zdk rfl ?_
    refine ow_store1 rfl rfl rfl rfl Ty.sc27 .here (SetN.one zdn) ?_
    refine qx ?_
    refine aw_end zdk ?_
    refine xw_np ?_
    refine xw_then ?_
    refine qs ?_
    refine ql (Var.atN Ty.ag82 .here GetN.all zra) ?_
    refine ow_storeN rfl rfl rfl Ty.ag82 zra zao (.there .here) (SetN.all zsa) ?_
    refine qa ?_
    refine qt ?_
    refine cw_ret ?_
    refine xw_block_ret ?_
    refine xw_joint_ret ?_
    refine ret2 rfl (res_cell rfl (Var.atN Ty.ag82 (.there .here) GetN.all zra)) (res_tmp rfl) ?_
    rotate_left
    refine ql (Var.sub1 Ty.sc27 zthr (.head _) (GetN.lit rfl)) ?_
    refine qx ?_
    refine aw_step2 3 10 zdk rfl rfl ?_ ?_
    refine ql (Var.sub1 Ty.sc27 zthr (.head _) (GetN.lit rfl)) ?_
    refine qx ?_
    refine aw_step1 10 zdk rfl ?_
    refine ow_store1 rfl rfl rfl rfl Ty.sc76 .here (SetN.one zdn) ?_
    refine qx ?_
    refine aw_pure 11 rfl zdk rfl rfl (v_fieldAddr0 Ty.fd82_4 rfl) rfl ?_
    refine aw_step1 12 zdk rfl ?_
    refine ow_store1 rfl rfl rfl rfl Ty.sc27 .here (SetN.one zdn) ?_
    refine qx ?_
    refine aw_pure 13 rfl zdk rfl rfl (v_fieldAddr0 Ty.fd82_3 rfl) rfl ?_
    refine aw_step1 14 zdk rfl ?_
    refine ow_store1 rfl rfl rfl rfl Ty.sc27 .here (SetN.one zdn) ?_
    refine qx ?_
    refine aw_end zdk ?_
    refine xw_np ?_
    refine xw_then ?_
    refine qs ?_
    refine ql (Var.atN Ty.ag82 .here GetN.all zra) ?_
    refine ow_storeN rfl rfl rfl Ty.ag82 zra zao (.there .here) (SetN.all zsa) ?_
    refine qa ?_
    refine qt ?_
    refine cw_ret ?_
    refine xw_block_ret ?_
    refine xw_joint_ret ?_
    refine ret2 rfl (res_cell rfl (Var.atN Ty.ag82 (.there .here) GetN.all zra)) (res_tmp rfl) ?_
    rotate_left
    refine ow_store1 rfl rfl rfl rfl Ty.sc76 .here (SetN.one zdn) ?_
    refine qx ?_
    refine aw_step1 3 zdk rfl ?_
    refine ql (Var.sub1 Ty.sc27 zthr (.head _) (GetN.lit rfl)) ?_
    refine qx ?_
    refine aw_pure 11 rfl zdk rfl rfl (v_fieldAddr0 Ty.fd82_4 rfl) rfl ?_
    refine aw_step1 12 zdk rfl ?_
    refine ow_store1 rfl rfl rfl rfl Ty.sc27 .here (SetN.one zdn) ?_
    refine qx ?_
    refine aw_pure 13 rfl zdk rfl rfl (v_fieldAddr0 Ty.fd82_3 rfl) rfl ?_
    refine aw_step1 14 zdk rfl ?_
    refine ow_store1 rfl rfl rfl rfl Ty.sc27 .here (SetN.one zdn) ?_
    refine qx ?_
    refine aw_end zdk ?_
    refine xw_np ?_
    refine xw_then ?_
    refine qs ?_
    refine ql (Var.atN Ty.ag82 .here GetN.all zra) ?_
    refine ow_storeN rfl rfl rfl Ty.ag82 zra zao (.there .here) (SetN.all zsa) ?_
    refine qa ?_
    refine qt ?_
    refine cw_ret ?_
    refine xw_block_ret ?_
    refine xw_joint_ret ?_
    refine ret2 rfl (res_cell rfl (Var.atN Ty.ag82 (.there .here) GetN.all zra)) (res_tmp rfl) ?_
    rotate_left
    refine ow_store1 rfl rfl rfl rfl Ty.sc76 .here (SetN.one zdn) ?_
    refine qx ?_
    refine aw_step2 3 8 zdk rfl rfl ?_ ?_
    refine ql (Var.sub1 Ty.sc27 zthr (.head _) (GetN.lit rfl)) ?_
    refine qx ?_
    refine aw_pure 11 rfl zdk rfl rfl (v_fieldAddr0 Ty.fd82_4 rfl) rfl ?_
    refine aw_step2 8 12 zdk rfl rfl ?_ ?_
    refine ql (Var.sub1 Ty.sc27 zthr (.head _) (GetN.lit rfl)) ?_
    refine qx ?_
    refine aw_step1 12 zdk rfl ?_
    refine ow_store1 rfl rfl rfl rfl Ty.sc27 .here (SetN.one zdn) ?_
    refine qx ?_
    refine aw_pure 13 rfl zdk rfl rfl (v_fieldAddr0 Ty.fd82_3 rfl) rfl ?_
    refine aw_step1 14 zdk rfl ?_
    refine ow_store1 rfl rfl rfl rfl Ty.sc27 .here (SetN.one zdn) ?_
    refine qx ?_
    refine aw_end zdk ?_
    refine xw_np ?_
    refine xw_then ?_
    refine qs ?_
    refine ql (Var.atN Ty.ag82 .here GetN.all zra) ?_
    refine ow_storeN rfl rfl rfl Ty.ag82 zra zao (.there .here) (SetN.all zsa) ?_
    refine qa ?_
    refine qt ?_
    refine cw_ret ?_
    refine xw_block_ret ?_
    refine xw_joint_ret ?_
    refine ret2 rfl (res_cell rfl (Var.atN Ty.ag82 (.there .here) GetN.all zra)) (res_tmp rfl) ?_
    rotate_left
    refine ow_store1 rfl rfl rfl rfl Ty.sc27 .here (SetN.one zdn) ?_
    refine qx ?_
    refine aw_step1 8 zdk rfl ?_
    refine ql (Var.sub1 Ty.sc27 zthr (.head _) (GetN.lit rfl)) ?_
    refine qx ?_
    refine aw_pure 13 rfl zdk rfl rfl (v_fieldAddr0 Ty.fd82_3 rfl) rfl ?_
    refine aw_step1 14 zdk rfl ?_
    refine ow_store1 rfl rfl rfl rfl Ty.sc27 .here (SetN.one zdn) ?_
    refine qx ?_
    refine aw_end zdk ?_
    refine xw_np ?_
    refine xw_then ?_
    refine qs ?_
    refine ql (Var.atN Ty.ag82 .here GetN.all zra) ?_
    refine ow_storeN rfl rfl rfl Ty.ag82 zra zao (.there .here) (SetN.all zsa) ?_
    refine qa ?_
    refine qt ?_
    refine cw_ret ?_
    refine xw_block_ret ?_
    refine xw_joint_ret ?_
    refine ret2 rfl (res_cell rfl (Var.atN Ty.ag82 (.there .here) GetN.all zra)) (res_tmp rfl) ?_
    rotate_left
    refine ql (Var.sub1 Ty.sc27 zthr (.head _) (GetN.lit rfl)) ?_
    refine qx ?_
    refine aw_step1 3 zdk rfl ?_
    refine ql (Var.sub1 Ty.sc27 zthr (.head _) (GetN.lit rfl)) ?_
    refine qx ?_
    refine aw_pure 11 rfl zdk rfl rfl (v_fieldAddr0 Ty.fd82_4 rfl) rfl ?_
    refine aw_step1 12 zdk rfl ?_
    refine ow_store1 rfl rfl rfl rfl Ty.sc27 .here (SetN.one zdn) ?_
    refine qx ?_
    refine aw_pure 13 rfl zdk rfl rfl (v_fieldAddr0 Ty.fd82_3 rfl) rfl ?_
    refine aw_step1 14 zdk rfl ?_
    refine ow_store1 rfl rfl rfl rfl Ty.sc27 .here (SetN.one zdn) ?_
    refine qx ?_
    refine aw_end zdk ?_
    refine xw_np ?_
    refine xw_then ?_
    refine qs ?_
    refine ql (Var.atN Ty.ag82 .here GetN.all zra) ?_
    refine ow_storeN rfl rfl rfl Ty.ag82 zra zao (.there .here) (SetN.all zsa) ?_
    refine qa ?_
    refine qt ?_
    refine cw_ret ?_
    refine xw_block_ret ?_
    refine xw_joint_ret ?_
    refine ret2 rfl (res_cell rfl (Var.atN Ty.ag82 (.there .here) GetN.all zra)) (res_tmp rfl) ?_
    rotate_left
    refine qs ?_
    refine qm ?_
    refine qn ?_
    refine qf Ty.fd55_11 ?_
    refine ql (Var.sub1 Ty.sc4 zthr (.head _) (GetN.lit rfl)) ?_
    refine qm ?_
    refine ow_bool 53 rfl (fun hc53=>?_) (fun hc53=>?_)
    refine qm ?_
    refine qn ?_
    refine qf Ty.fd55_2 ?_
    refine ql (Var.sub1 Ty.sc47 zthr (.head _) (GetN.lit rfl)) ?_
    refine qv (v_call rfl rfl (live_c)) ?_
    refine qv (v_pick_true rfl rfl) ?_
    refine qa ?_
    refine qt ?_
    refine cw_bool rfl (fun hc48=>?_) (fun hc48=>?_)
    refine cw_seq ?_
    refine cw_any Ty.mixed ?_
    refine aw_pure 0 rfl zdk rfl rfl (v_move rfl) rfl ?_
    refine aw_pure 1 rfl zdk rfl rfl (v_nilCheck rfl) rfl ?_
    refine aw_pure 2 rfl zdk rfl rfl (v_fieldAddr0 Ty.fd55_10 rfl) rfl ?_
    refine aw_pure 4 rfl zdk rfl rfl (v_fieldAddr0 Ty.fd82_0 rfl) rfl ?_
    refine aw_step2 3 5 zdk rfl rfl ?_ ?_
    refine ql (Var.sub1 Ty.sc27 zthr (.head _) (GetN.lit rfl)) ?_
    refine qx ?_
    refine aw_step1 5 zdk rfl ?_
    refine ow_store1 rfl rfl rfl rfl Ty.sc76 .here (SetN.one zdn) ?_
    refine qx ?_
    refine aw_pure 6 rfl zdk rfl rfl (v_fieldAddr0 Ty.fd82_4 rfl) rfl ?_
    refine aw_step1 7 zdk rfl ?_
    refine ow_store1 rfl rfl rfl rfl Ty.sc27 .here (SetN.one zdn) ?_
    refine qx ?_
    refine aw_end zdk ?_
    refine xw_np ?_
    refine xw_then ?_
    refine qs ?_
    refine ql (Var.atN Ty.ag82 .here GetN.all zra) ?_
    refine ow_storeN rfl rfl rfl Ty.ag82 zra zao (.there .here) (SetN.all zsa) ?_
    refine qa ?_
    refine qt ?_
    refine cw_ret ?_
    refine xw_block_ret ?_
    refine xw_joint_ret ?_
    refine ret2 rfl (res_cell rfl (Var.atN Ty.ag82 (.there .here) GetN.all zra)) (res_tmp rfl) ?_
    rotate_left
    refine ow_store1 rfl rfl rfl rfl Ty.sc76 .here (SetN.one zdn) ?_
    refine qx ?_
    refine aw_step1 3 zdk rfl ?_
    refine ql (Var.sub1 Ty.sc27 zthr (.head _) (GetN.lit rfl)) ?_
    refine qx ?_
    refine aw_pure 6 rfl zdk rfl rfl (v_fieldAddr0 Ty.fd82_4 rfl) rfl ?_
    refine aw_step1 7 zdk rfl ?_
    refine ow_store1 rfl rfl rfl rfl Ty.sc27 .here (SetN.one zdn) ?_
    refine qx ?_
    refine aw_end zdk ?_
    refine xw_np ?_
    refine xw_then ?_
    refine qs ?_
    refine ql (Var.atN Ty.ag82 .here GetN.all zra) ?_
    refine ow_storeN rfl rfl rfl Ty.ag82 zra zao (.there .here) (SetN.all zsa) ?_
    refine qa ?_
    refine qt ?_
    refine cw_ret ?_
    refine xw_block_ret ?_
    refine xw_joint_ret ?_
    refine ret2 rfl (res_cell rfl (Var.atN Ty.ag82 (.there .here) GetN.all zra)) (res_tmp rfl) ?_
    rotate_left
    refine qs ?_
    refine qm ?_
    refine qn ?_
    refine qf Ty.fd55_2 ?_
    refine ql (Var.sub1 Ty.sc47 zthr (.head _) (GetN.lit rfl)) ?_
    refine qv (v_eql rfl rfl) ?_
    refine qm ?_
    refine ow_dec 73 rfl (fun hc73=>?_) (fun hc73=>?_)
    refine qm ?_
    refine qn ?_
    refine qf Ty.fd55_5 ?_
    refine ow_val rfl rfl (v_load rfl (Var.subN Ty.ag51 zthr (.head _) ((GetN.mid (vs:=x.giv.cells) rfl)) zra)) ?_
    refine qv (v_call rfl rfl (givWants_c hxw.giv)) ?_
    refine qv (v_pick_true rfl rfl) ?_
    refine qa ?_
    refine qt ?_
    refine cw_dec rfl (fun hc67=>?_) (fun hc67=>?_)
    refine cw_seq ?_
    refine cw_any Ty.mixed ?_
    refine aw_pure 0 rfl zdk rfl rfl (v_move rfl) rfl ?_
    refine aw_pure 1 rfl zdk rfl rfl (v_nilCheck rfl) rfl ?_
    refine aw_pure 2 rfl zdk rfl rfl (v_fieldAddr0 Ty.fd55_5 rfl) rfl ?_
    refine aw_pure 3 rfl zdk rfl rfl (v_fieldAddr Ty.fd51_0 rfl) rfl ?_
    refine aw_pure 5 rfl zdk rfl rfl (v_fieldAddr0 Ty.fd82_0 rfl) rfl ?_
    refine aw_step2 4 6 zdk rfl rfl ?_ ?_
    refine ql (Var.sub1 Ty.sc27 zthr (.head _) (GetN.lit rfl)) ?_
    refine qx ?_
    refine aw_step1 6 zdk rfl ?_
    refine ow_store1 rfl rfl rfl rfl Ty.sc76 .here (SetN.one zdn) ?_
    refine qx ?_
    refine aw_pure 7 rfl zdk rfl rfl (v_fieldAddr0 Ty.fd82_3 rfl) rfl ?_
    refine aw_step1 8 zdk rfl ?_
    refine ow_store1 rfl rfl rfl rfl Ty.sc27 .here (SetN.one zdn) ?_
    refine qx ?_
    refine aw_end zdk ?_
    refine xw_np ?_
    refine xw_then ?_
    refine qs ?_
    refine ql (Var.atN Ty.ag82 .here GetN.all zra) ?_
    refine ow_storeN rfl rfl rfl Ty.ag82 zra zao (.there .here) (SetN.all zsa) ?_
    refine qa ?_
    refine qt ?_
    refine cw_ret ?_
    refine xw_block_ret ?_
    refine xw_joint_ret ?_
    refine ret2 rfl (res_cell rfl (Var.atN Ty.ag82 (.there .here) GetN.all zra)) (res_tmp rfl) ?_
    rotate_left
    refine ow_store1 rfl rfl rfl rfl Ty.sc76 .here (SetN.one zdn) ?_
    refine qx ?_
    refine aw_step1 4 zdk rfl ?_
    refine ql (Var.sub1 Ty.sc27 zthr (.head _) (GetN.lit rfl)) ?_
    refine qx ?_
    refine aw_pure 7 rfl zdk rfl rfl (v_fieldAddr0 Ty.fd82_3 rfl) rfl ?_
    refine aw_step1 8 zdk rfl ?_
    refine ow_store1 rfl rfl rfl rfl Ty.sc27 .here (SetN.one zdn) ?_
    refine qx ?_
    refine aw_end zdk ?_
    refine xw_np ?_
    refine xw_then ?_
    refine qs ?_
    refine ql (Var.atN Ty.ag82 .here GetN.all zra) ?_
    refine ow_storeN rfl rfl rfl Ty.ag82 zra zao (.there .here) (SetN.all zsa) ?_
    refine qa ?_
    refine qt ?_
    refine cw_ret ?_
    refine xw_block_ret ?_
    refine xw_joint_ret ?_
    refine ret2 rfl (res_cell rfl (Var.atN Ty.ag82 (.there .here) GetN.all zra)) (res_tmp rfl) ?_
    rotate_left
    refine cw_skip ?_
    refine xw_block ?_
    rotate_left
    refine qk ?_
    refine qk ?_
    refine qk ?_
    refine qk ?_
    refine qk ?_
    refine qv (v_pick_false rfl rfl) ?_
    refine qa ?_
    refine qt ?_
    refine cw_false rfl ?_
    refine cw_skip ?_
    refine xw_block ?_
    rotate_left
    refine qk ?_
    refine qk ?_
    refine qk ?_
    refine qk ?_
    refine qk ?_
    refine qv (v_pick_false rfl rfl) ?_
    refine qa ?_
    refine qt ?_
    refine cw_false rfl ?_
    refine qs ?_
    refine qm ?_
    refine qn ?_
    refine qf Ty.fd55_2 ?_
    refine ql (Var.sub1 Ty.sc47 zthr (.head _) (GetN.lit rfl)) ?_
    refine qv (v_eql rfl rfl) ?_
    refine qm ?_
    refine ow_dec 73 rfl (fun hc73=>?_) (fun hc73=>?_)
    refine qm ?_
    refine qn ?_
    refine qf Ty.fd55_5 ?_
    refine ow_val rfl rfl (v_load rfl (Var.subN Ty.ag51 zthr (.head _) ((GetN.mid (vs:=x.giv.cells) rfl)) zra)) ?_
    refine qv (v_call rfl rfl (givWants_c hxw.giv)) ?_
    refine qv (v_pick_true rfl rfl) ?_
    refine qa ?_
    refine qt ?_
    refine cw_dec rfl (fun hc67=>?_) (fun hc67=>?_)
    refine cw_seq ?_
    refine cw_any Ty.mixed ?_
    refine aw_pure 0 rfl zdk rfl rfl (v_move rfl) rfl ?_
    refine aw_pure 1 rfl zdk rfl rfl (v_nilCheck rfl) rfl ?_
    refine aw_pure 2 rfl zdk rfl rfl (v_fieldAddr0 Ty.fd55_5 rfl) rfl ?_
    refine aw_pure 3 rfl zdk rfl rfl (v_fieldAddr Ty.fd51_0 rfl) rfl ?_
    refine aw_pure 5 rfl zdk rfl rfl (v_fieldAddr0 Ty.fd82_0 rfl) rfl ?_
    refine aw_step2 4 6 zdk rfl rfl ?_ ?_
    refine ql (Var.sub1 Ty.sc27 zthr (.head _) (GetN.lit rfl)) ?_
    refine qx ?_
    refine aw_step1 6 zdk rfl ?_
    refine ow_store1 rfl rfl rfl rfl Ty.sc76 .here (SetN.one zdn) ?_
    refine qx ?_
    refine aw_pure 7 rfl zdk rfl rfl (v_fieldAddr0 Ty.fd82_3 rfl) rfl ?_
    refine aw_step1 8 zdk rfl ?_
    refine ow_store1 rfl rfl rfl rfl Ty.sc27 .here (SetN.one zdn) ?_
    refine qx ?_
    refine aw_end zdk ?_
    refine xw_np ?_
    refine xw_then ?_
    refine qs ?_
    refine ql (Var.atN Ty.ag82 .here GetN.all zra) ?_
    refine ow_storeN rfl rfl rfl Ty.ag82 zra zao (.there .here) (SetN.all zsa) ?_
    refine qa ?_
    refine qt ?_
    refine cw_ret ?_
    refine xw_block_ret ?_
    refine xw_joint_ret ?_
    refine ret2 rfl (res_cell rfl (Var.atN Ty.ag82 (.there .here) GetN.all zra)) (res_tmp rfl) ?_
    rotate_left
    refine ow_store1 rfl rfl rfl rfl Ty.sc76 .here (SetN.one zdn) ?_
    refine qx ?_
    refine aw_step1 4 zdk rfl ?_
    refine ql (Var.sub1 Ty.sc27 zthr (.head _) (GetN.lit rfl)) ?_
    refine qx ?_
    refine aw_pure 7 rfl zdk rfl rfl (v_fieldAddr0 Ty.fd82_3 rfl) rfl ?_
    refine aw_step1 8 zdk rfl ?_
    refine ow_store1 rfl rfl rfl rfl Ty.sc27 .here (SetN.one zdn) ?_
    refine qx ?_
    refine aw_end zdk ?_
    refine xw_np ?_
    refine xw_then ?_
    refine qs ?_
    refine ql (Var.atN Ty.ag82 .here GetN.all zra) ?_
    refine ow_storeN rfl rfl rfl Ty.ag82 zra zao (.there .here) (SetN.all zsa) ?_
    refine qa ?_
    refine qt ?_
    refine cw_ret ?_
    refine xw_block_ret ?_
    refine xw_joint_ret ?_
    refine ret2 rfl (res_cell rfl (Var.atN Ty.ag82 (.there .here) GetN.all zra)) (res_tmp rfl) ?_
    rotate_left
    refine cw_skip ?_
    refine xw_block ?_
    rotate_left
    refine qk ?_
    refine qk ?_
    refine qk ?_
    refine qk ?_
    refine qk ?_
    refine qv (v_pick_false rfl rfl) ?_
    refine qa ?_
    refine qt ?_
    refine cw_false rfl ?_
    refine cw_skip ?_
    refine xw_block ?_
    rotate_left
    refine qk ?_
    refine qk ?_
    refine qk ?_
    refine qk ?_
    refine qk ?_
    refine qv (v_pick_false rfl rfl) ?_
    refine qa ?_
    refine qt ?_
    refine cw_false rfl ?_
    refine qs ?_
    refine qm ?_
    refine qn ?_
    refine qf Ty.fd55_11 ?_
    refine ql (Var.sub1 Ty.sc4 zthr (.head _) (GetN.lit rfl)) ?_
    refine qm ?_
    refine ow_bool 53 rfl (fun hc53=>?_) (fun hc53=>?_)
    refine qm ?_
    refine qn ?_
    refine qf Ty.fd55_2 ?_
    refine ql (Var.sub1 Ty.sc47 zthr (.head _) (GetN.lit rfl)) ?_
    refine qv (v_call rfl rfl (live_c)) ?_
    refine qv (v_pick_true rfl rfl) ?_
    refine qa ?_
    refine qt ?_
    refine cw_bool rfl (fun hc48=>?_) (fun hc48=>?_)
    refine cw_seq ?_
    refine cw_any Ty.mixed ?_
    refine aw_pure 0 rfl zdk rfl rfl (v_move rfl) rfl ?_
    refine aw_pure 1 rfl zdk rfl rfl (v_nilCheck rfl) rfl ?_
    refine aw_pure 2 rfl zdk rfl rfl (v_fieldAddr0 Ty.fd55_10 rfl) rfl ?_
    refine aw_pure 4 rfl zdk rfl rfl (v_fieldAddr0 Ty.fd82_0 rfl) rfl ?_
    refine aw_step2 3 5 zdk rfl rfl ?_ ?_
    refine ql (Var.sub1 Ty.sc27 zthr (.head _) (GetN.lit rfl)) ?_
    refine qx ?_
    refine aw_step1 5 zdk rfl ?_
    refine ow_store1 rfl rfl rfl rfl Ty.sc76 .here (SetN.one zdn) ?_
    refine qx ?_
    refine aw_pure 6 rfl zdk rfl rfl (v_fieldAddr0 Ty.fd82_4 rfl) rfl ?_
    refine aw_step1 7 zdk rfl ?_
    refine ow_store1 rfl rfl rfl rfl Ty.sc27 .here (SetN.one zdn) ?_
    refine qx ?_
    refine aw_end zdk ?_
    refine xw_np ?_
    refine xw_then ?_
    refine qs ?_
    refine ql (Var.atN Ty.ag82 .here GetN.all zra) ?_
    refine ow_storeN rfl rfl rfl Ty.ag82 zra zao (.there .here) (SetN.all zsa) ?_
    refine qa ?_
    refine qt ?_
    refine cw_ret ?_
    refine xw_block_ret ?_
    refine xw_joint_ret ?_
    refine ret2 rfl (res_cell rfl (Var.atN Ty.ag82 (.there .here) GetN.all zra)) (res_tmp rfl) ?_
    rotate_left
    refine ow_store1 rfl rfl rfl rfl Ty.sc76 .here (SetN.one zdn) ?_
    refine qx ?_
    refine aw_step1 3 zdk rfl ?_
    refine ql (Var.sub1 Ty.sc27 zthr (.head _) (GetN.lit rfl)) ?_
    refine qx ?_
    refine aw_pure 6 rfl zdk rfl rfl (v_fieldAddr0 Ty.fd82_4 rfl) rfl ?_
    refine aw_step1 7 zdk rfl ?_
    refine ow_store1 rfl rfl rfl rfl Ty.sc27 .here (SetN.one zdn) ?_
    refine qx ?_
    refine aw_end zdk ?_
    refine xw_np ?_
    refine xw_then ?_
    refine qs ?_
    refine ql (Var.atN Ty.ag82 .here GetN.all zra) ?_
    refine ow_storeN rfl rfl rfl Ty.ag82 zra zao (.there .here) (SetN.all zsa) ?_
    refine qa ?_
    refine qt ?_
    refine cw_ret ?_
    refine xw_block_ret ?_
    refine xw_joint_ret ?_
    refine ret2 rfl (res_cell rfl (Var.atN Ty.ag82 (.there .here) GetN.all zra)) (res_tmp rfl) ?_
    rotate_left
    refine qs ?_
    refine qm ?_
    refine qn ?_
    refine qf Ty.fd55_2 ?_
    refine ql (Var.sub1 Ty.sc47 zthr (.head _) (GetN.lit rfl)) ?_
    refine qv (v_eql rfl rfl) ?_
    refine qm ?_
    refine ow_dec 73 rfl (fun hc73=>?_) (fun hc73=>?_)
    refine qm ?_
    refine qn ?_
    refine qf Ty.fd55_5 ?_
    refine ow_val rfl rfl (v_load rfl (Var.subN Ty.ag51 zthr (.head _) ((GetN.mid (vs:=x.giv.cells) rfl)) zra)) ?_
    refine qv (v_call rfl rfl (givWants_c hxw.giv)) ?_
    refine qv (v_pick_true rfl rfl) ?_
    refine qa ?_
    refine qt ?_
    refine cw_dec rfl (fun hc67=>?_) (fun hc67=>?_)
    refine cw_seq ?_
    refine cw_any Ty.mixed ?_
    refine aw_pure 0 rfl zdk rfl rfl (v_move rfl) rfl ?_
    refine aw_pure 1 rfl zdk rfl rfl (v_nilCheck rfl) rfl ?_
    refine aw_pure 2 rfl zdk rfl rfl (v_fieldAddr0 Ty.fd55_5 rfl) rfl ?_
    refine aw_pure 3 rfl zdk rfl rfl (v_fieldAddr Ty.fd51_0 rfl) rfl ?_
    refine aw_pure 5 rfl zdk rfl rfl (v_fieldAddr0 Ty.fd82_0 rfl) rfl ?_
    refine aw_step2 4 6 zdk rfl rfl ?_ ?_
    refine ql (Var.sub1 Ty.sc27 zthr (.head _) (GetN.lit rfl)) ?_
    refine qx ?_
    refine aw_step1 6 zdk rfl ?_
    refine ow_store1 rfl rfl rfl rfl Ty.sc76 .here (SetN.one zdn) ?_
    refine qx ?_
    refine aw_pure 7 rfl zdk rfl rfl (v_fieldAddr0 Ty.fd82_3 rfl) rfl ?_
    refine aw_step1 8 zdk rfl ?_
    refine ow_store1 rfl rfl rfl rfl Ty.sc27 .here (SetN.one zdn) ?_
    refine qx ?_
    refine aw_end zdk ?_
    refine xw_np ?_
    refine xw_then ?_
    refine qs ?_
    refine ql (Var.atN Ty.ag82 .here GetN.all zra) ?_
    refine ow_storeN rfl rfl rfl Ty.ag82 zra zao (.there .here) (SetN.all zsa) ?_
    refine qa ?_
    refine qt ?_
    refine cw_ret ?_
    refine xw_block_ret ?_
    refine xw_joint_ret ?_
    refine ret2 rfl (res_cell rfl (Var.atN Ty.ag82 (.there .here) GetN.all zra)) (res_tmp rfl) ?_
    rotate_left
    refine ow_store1 rfl rfl rfl rfl Ty.sc76 .here (SetN.one zdn) ?_
    refine qx ?_
    refine aw_step1 4 zdk rfl ?_
    refine ql (Var.sub1 Ty.sc27 zthr (.head _) (GetN.lit rfl)) ?_
    refine qx ?_
    refine aw_pure 7 rfl zdk rfl rfl (v_fieldAddr0 Ty.fd82_3 rfl) rfl ?_
    refine aw_step1 8 zdk rfl ?_
    refine ow_store1 rfl rfl rfl rfl Ty.sc27 .here (SetN.one zdn) ?_
    refine qx ?_
    refine aw_end zdk ?_
    refine xw_np ?_
    refine xw_then ?_
    refine qs ?_
    refine ql (Var.atN Ty.ag82 .here GetN.all zra) ?_
    refine ow_storeN rfl rfl rfl Ty.ag82 zra zao (.there .here) (SetN.all zsa) ?_
    refine qa ?_
    refine qt ?_
    refine cw_ret ?_
    refine xw_block_ret ?_
    refine xw_joint_ret ?_
    refine ret2 rfl (res_cell rfl (Var.atN Ty.ag82 (.there .here) GetN.all zra)) (res_tmp rfl) ?_
    rotate_left
    refine cw_skip ?_
    refine xw_block ?_
    rotate_left
    refine qk ?_
    refine qk ?_
    refine qk ?_
    refine qk ?_
    refine qk ?_
    refine qv (v_pick_false rfl rfl) ?_
    refine qa ?_
    refine qt ?_
    refine cw_false rfl ?_
    refine cw_skip ?_
    refine xw_block ?_
    rotate_left
    refine qk ?_
    refine qk ?_
    refine qk ?_
    refine qk ?_
    refine qk ?_
    refine qv (v_pick_false rfl rfl) ?_
    refine qa ?_
    refine qt ?_
    refine cw_false rfl ?_
    refine qs ?_
    refine qm ?_
    refine qn ?_
    refine qf Ty.fd55_2 ?_
    refine ql (Var.sub1 Ty.sc47 zthr (.head _) (GetN.lit rfl)) ?_
    refine qv (v_eql rfl rfl) ?_
    refine qm ?_
    refine ow_dec 73 rfl (fun hc73=>?_) (fun hc73=>?_)
    refine qm ?_
    refine qn ?_
    refine qf Ty.fd55_5 ?_
    refine ow_val rfl rfl (v_load rfl (Var.subN Ty.ag51 zthr (.head _) ((GetN.mid (vs:=x.giv.cells) rfl)) zra)) ?_
    refine qv (v_call rfl rfl (givWants_c hxw.giv)) ?_
    refine qv (v_pick_true rfl rfl) ?_
    refine qa ?_
    refine qt ?_
    refine cw_dec rfl (fun hc67=>?_) (fun hc67=>?_)
    refine cw_seq ?_
    refine cw_any Ty.mixed ?_
    refine aw_pure 0 rfl zdk rfl rfl (v_move rfl) rfl ?_
    refine aw_pure 1 rfl zdk rfl rfl (v_nilCheck rfl) rfl ?_
    refine aw_pure 2 rfl zdk rfl rfl (v_fieldAddr0 Ty.fd55_5 rfl) rfl ?_
    refine aw_pure 3 rfl zdk rfl rfl (v_fieldAddr Ty.fd51_0 rfl) rfl ?_
    refine aw_pure 5 rfl zdk rfl rfl (v_fieldAddr0 Ty.fd82_0 rfl) rfl ?_
    refine aw_step2 4 6 zdk rfl rfl ?_ ?_
    refine ql (Var.sub1 Ty.sc27 zthr (.head _) (GetN.lit rfl)) ?_
    refine qx ?_
    refine aw_step1 6 zdk rfl ?_
    refine ow_store1 rfl rfl rfl rfl Ty.sc76 .here (SetN.one zdn) ?_
    refine qx ?_
    refine aw_pure 7 rfl zdk rfl rfl (v_fieldAddr0 Ty.fd82_3 rfl) rfl ?_
    refine aw_step1 8 zdk rfl ?_
    refine ow_store1 rfl rfl rfl rfl Ty.sc27 .here (SetN.one zdn) ?_
    refine qx ?_
    refine aw_end zdk ?_
    refine xw_np ?_
    refine xw_then ?_
    refine qs ?_
    refine ql (Var.atN Ty.ag82 .here GetN.all zra) ?_
    refine ow_storeN rfl rfl rfl Ty.ag82 zra zao (.there .here) (SetN.all zsa) ?_
    refine qa ?_
    refine qt ?_
    refine cw_ret ?_
    refine xw_block_ret ?_
    refine xw_joint_ret ?_
    refine ret2 rfl (res_cell rfl (Var.atN Ty.ag82 (.there .here) GetN.all zra)) (res_tmp rfl) ?_
    rotate_left
    refine ow_store1 rfl rfl rfl rfl Ty.sc76 .here (SetN.one zdn) ?_
    refine qx ?_
    refine aw_step1 4 zdk rfl ?_
    refine ql (Var.sub1 Ty.sc27 zthr (.head _) (GetN.lit rfl)) ?_
    refine qx ?_
    refine aw_pure 7 rfl zdk rfl rfl (v_fieldAddr0 Ty.fd82_3 rfl) rfl ?_
    refine aw_step1 8 zdk rfl ?_
    refine ow_store1 rfl rfl rfl rfl Ty.sc27 .here (SetN.one zdn) ?_
    refine qx ?_
    refine aw_end zdk ?_
    refine xw_np ?_
    refine xw_then ?_
    refine qs ?_
    refine ql (Var.atN Ty.ag82 .here GetN.all zra) ?_
    refine ow_storeN rfl rfl rfl Ty.ag82 zra zao (.there .here) (SetN.all zsa) ?_
    refine qa ?_
    refine qt ?_
    refine cw_ret ?_
    refine xw_block_ret ?_
    refine xw_joint_ret ?_
    refine ret2 rfl (res_cell rfl (Var.atN Ty.ag82 (.there .here) GetN.all zra)) (res_tmp rfl) ?_
    rotate_left
    refine cw_skip ?_
    refine xw_block ?_
    rotate_left
    refine qk ?_
    refine qk ?_
    refine qk ?_
    refine qk ?_
    refine qk ?_
    refine qv (v_pick_false rfl rfl) ?_
    refine qa ?_
    refine qt ?_
    refine cw_false rfl ?_
    refine cw_skip ?_
    refine xw_block ?_
    rotate_left
    all_goals first
      | (rw[SsM.next_1 ⟨hc28,hc23⟩];exact⟨(none,0,[]),rfl,Ls.nil,zcov⟩)
      | (rw[SsM.next_2 (fun h=>hc23 h.2) ⟨hc53,hc48⟩];exact⟨(none,0,[]),rfl,Ls.nil,zcov⟩)
      | (rw[SsM.next_2 (fun h=>Bool.noConfusion (hc28.symm.trans h.1)) ⟨hc53,hc48⟩];exact⟨(none,0,[]),rfl,Ls.nil,zcov⟩)
      | (rw[SsM.next_3 (fun h=>hc23 h.2) (fun h=>Bool.noConfusion (hc53.symm.trans h.1)) ⟨hc73,wants_iff.2 hc67⟩];exact⟨(none,0,[]),rfl,Ls.nil,zcov⟩)
      | (rw[SsM.next_3 (fun h=>hc23 h.2) (fun h=>Bool.noConfusion (hc48.symm.trans h.2)) ⟨hc73,wants_iff.2 hc67⟩];exact⟨(none,0,[]),rfl,Ls.nil,zcov⟩)
      | (rw[SsM.next_3 (fun h=>Bool.noConfusion (hc28.symm.trans h.1)) (fun h=>Bool.noConfusion (hc53.symm.trans h.1)) ⟨hc73,wants_iff.2 hc67⟩];exact⟨(none,0,[]),rfl,Ls.nil,zcov⟩)
      | (rw[SsM.next_3 (fun h=>Bool.noConfusion (hc28.symm.trans h.1)) (fun h=>Bool.noConfusion (hc48.symm.trans h.2)) ⟨hc73,wants_iff.2 hc67⟩];exact⟨(none,0,[]),rfl,Ls.nil,zcov⟩)
      | (have j1:¬(x.resets=true∧x.send=4):=fun h=>by first|exact hc23 h.2|exact Bool.noConfusion (hc28.symm.trans h.1)
         have j2:¬(x.stops=true∧liveS x.recv=true):=fun h=>by first|exact Bool.noConfusion (hc53.symm.trans h.1)|exact Bool.noConfusion (hc48.symm.trans h.2)
         have j3:¬(x.recv=1∧x.giv.wants=true):=fun h=>by first|exact hc73 h.1|exact hc67 (wants_iff.1 h.2)
         exact xw_joint () ⟨j1,j2,j3⟩ zcov zenv)
  rintro _ ⟨j1,j2,j3⟩
  refine cw_seq ?_
  refine qs ?_
  refine qm ?_
  refine qn ?_
  refine qf Ty.fd55_1 ?_
  refine ql (Var.sub1 Ty.sc47 zthr (.head _) (GetN.lit rfl)) ?_
  refine qv (v_call rfl rfl (live_c)) ?_
  refine qv (v_not_bool rfl) ?_
  refine qt ?_
  refine cw_bool rfl (fun hc93=>?_) (fun hc93=>?_)
  refine qs ?_
  refine qv (v_build rfl (b_fr0)) ?_
  refine ow_storeN rfl rfl rfl Ty.ag82 zra zao (.there .here) (SetN.all zsa) ?_
  refine qa ?_
  refine qt ?_
  refine cw_ret ?_
  refine xw_then_ret ?_
  refine ret2 rfl (res_cell rfl (Var.atN Ty.ag82 (.there .here) GetN.all zra)) (res_tmp rfl) ?_
  rotate_left
  refine cw_skip ?_
  refine xw_then ?_
  rotate_left
  · rw[SsM.next_4 j1 j2 j3 (by simpa using hc93)]
    exact⟨(none,0,[]),rfl,Ls.nil,zcov⟩
  have hlive:liveS x.send=true:=by simpa using hc93
  have hxo:∃o,x.out=some o:=by
    cases ho:x.out with
    | some o=>exact⟨o,rfl⟩
    | none=>
      rw[hxw.send.1.2 ho]at hlive
      cases hlive
  obtain⟨o,ho⟩:=hxo
  rw[SsM.next_5 j1 j2 j3 hlive ho]
  rw[ho]at hO
  obtain⟨bo,hqo,hO⟩:=hO
  obtain⟨qi,qo⟩:=q
  dsimp only at hqo
  subst hqo
  have hlim:0≤x.got.used+min x.got.room M.got.room∧x.got.used+min x.got.room M.got.room≤18446744073709551615:=by
    have h1:=GotM.room_b hxg;have h2:=GotM.room_b hgw;have h3:=hxg.used
    omega
  have hpt:o.next most (x.got.used+min x.got.room M.got.room)=M.part x o most:=rfl
  have hN:∀{G:List Hp},Sub co G→Go.Sl.Fn Tryz.prog 55 #[.pointer (some ⟨bo,0,none⟩),.int .i64 most,.int .u64 (x.got.used+min x.got.room M.got.room)] B w0 G fun u G'=>∃x1:Option Addr×Nat×Hp,u=.tuple #[enP.val ⟨(M.part x o most).1.at_,x1.1,(M.part x o most).1.data.length,x1.2.1,(M.part x o most).1.fin⟩,.bool (M.part x o most).2]∧Ls enB 5 (.slice x1.1 (M.part x o most).1.data.length x1.2.1) x1.2.2 (M.part x o most).1.data∧G'=[x1.2.2]++G:=fun hs=>outNext_c hO hs (hxw.out o ho) hm hlim
  generalize M.part x o most=pt at hN⊢
  refine cw_cut2 (ι:=((Nat×Option Addr×Nat×Hp))) [(6,_),(8,_)] ⟨rfl,rfl,trivial⟩ ((fun y=>[(9,.pointer (some ⟨y.1,0,none⟩)),(10,.bool pt.2)])) ((fun y=>Ls enB 5 (.slice y.2.1 pt.1.data.length y.2.2.1) y.2.2.2 pt.1.data)) ((fun y=>[(b8,.cells ((fs0 x.id).cells none 0).toArray 82 (0,0))]::[(b6,.cells ((fs0 0).cells none 0).toArray 82 (0,0))]::[(y.1,.cells (PartV.cells ⟨pt.1.at_,y.2.1,pt.1.data.length,y.2.2.1,pt.1.fin⟩).toArray 113 (0,0))]::y.2.2.2::G)) ?_ ?_
  · refine cw_mixX [26] [22,23,24,25,27,28] [0,1,2,3,4,5,6,7,8,9,10,11,12,13,14,15,16,17,18,19,20,21] 7 (((((((((((((((((((((((Array.replicate 29 false).setIfInBounds 0 true).setIfInBounds 1 true).setIfInBounds 2 true).setIfInBounds 3 true).setIfInBounds 4 true).setIfInBounds 5 true).setIfInBounds 6 true).setIfInBounds 7 true).setIfInBounds 8 true).setIfInBounds 9 true).setIfInBounds 10 true).setIfInBounds 11 true).setIfInBounds 12 true).setIfInBounds 13 true).setIfInBounds 14 true).setIfInBounds 15 true).setIfInBounds 16 true).setIfInBounds 17 true).setIfInBounds 18 true).setIfInBounds 19 true).setIfInBounds 20 true).setIfInBounds 21 true) Ty.mixed rfl rfl zdk rfl ?_
    refine Go.Sl.hwx_pure rfl rfl (v_move rfl) rfl ?_
    refine Go.Sl.hwx_pure rfl rfl (v_nilCheck rfl) rfl ?_
    refine Go.Sl.hwx_pure rfl rfl (v_fieldAddr0 Ty.fd55_4 rfl) rfl ?_
    refine Go.Sl.hwx_load rfl rfl rfl rfl (v_load rfl (Var.sub1 Ty.sc49 zthr (.head _) (GetN.lit rfl))) ?_
    refine Go.Sl.hwx_pure rfl rfl (v_move rfl) rfl ?_
    refine Go.Sl.hwx_pure rfl rfl (v_move rfl) rfl ?_
    refine Go.Sl.hwx_pure rfl rfl (v_nilCheck rfl) rfl ?_
    refine Go.Sl.hwx_pure rfl rfl (v_fieldAddr0 Ty.fd55_6 rfl) rfl ?_
    refine Go.Sl.hwx_pure rfl rfl (v_fieldAddr Ty.fd53_1 rfl) rfl ?_
    refine Go.Sl.hwx_load rfl rfl rfl rfl (v_load rfl (Var.sub1 Ty.sc27 zthr (.head _) (GetN.lit rfl))) ?_
    refine Go.Sl.hwx_pure rfl rfl (v_move rfl) rfl ?_
    refine Go.Sl.hwx_pure rfl rfl (v_nilCheck rfl) rfl ?_
    refine Go.Sl.hwx_pure rfl rfl (v_fieldAddr0 Ty.fd55_6 rfl) rfl ?_
    refine Go.Sl.hwx_load rfl rfl rfl rfl (v_load rfl (Var.subN Ty.ag53 zthr (.head _) ((GetN.mid (vs:=x.got.cells) rfl)) zra)) ?_
    refine Go.Sl.hwx_call rfl rfl rfl (fun _=>v_call rfl rfl (gotRoom_c hxg)) ?_
    refine Go.Sl.hwx_pure rfl rfl (v_move rfl) rfl ?_
    refine Go.Sl.hwx_pure rfl rfl (v_nilCheck rfl) rfl ?_
    refine Go.Sl.hwx_pure rfl rfl (v_fieldAddr0 Ty.fd73_1 rfl) rfl ?_
    refine Go.Sl.hwx_load rfl rfl rfl rfl (v_load rfl (Var.subN Ty.ag53 zthr (.head _) ((GetN.mid (vs:=M.got.cells) rfl)) zra)) ?_
    refine Go.Sl.hwx_call rfl rfl rfl (fun _=>v_call rfl rfl (gotRoom_c hgw)) ?_
    refine Go.Sl.hwx_pure rfl rfl (v_min rfl rfl) rfl ?_
    refine Go.Sl.hwx_pure rfl rfl (v_add rfl rfl (nw_u64 zom zom)) rfl ?_
    refine Go.Sl.hwx_nil ?_
    refine Go.Sl.mw_step2 22 26 zdk rfl rfl rfl rfl Ty.ze113 ?_ (fun b9=>?_)
    (refine ow_call rfl rfl rfl rfl (hN zhas) ?_;rintro _ _ ⟨x118,rfl,hq118,rfl⟩)
    refine qx ?_
    refine aw_pure 23 rfl zdk rfl rfl (v_move rfl) rfl ?_
    refine aw_pure 24 rfl zdk rfl rfl (v_extract rfl rfl) rfl ?_
    refine aw_pure 25 rfl zdk rfl rfl (v_extract rfl rfl) rfl ?_
    refine aw_step1 26 zdk rfl ?_
    refine ow_alloc rfl rfl Ty.ze113 fun b9=>?_
    refine qx ?_
    refine aw_step1 27 zdk rfl ?_
    refine ow_storeN rfl rfl rfl Ty.ag113 zra zao .here (SetN.all zsa) ?_
    refine qx ?_
    refine aw_pure 28 rfl zdk rfl rfl (v_assign rfl) rfl ?_
    refine aw_end zdk ?_
    refine xw_np ?_
    rotate_left
    refine Go.Sl.mw_any zdk ?_
    refine aw_step1 22 zdk rfl ?_
    (refine ow_call rfl rfl rfl rfl (hN zhas) ?_;rintro _ _ ⟨x118,rfl,hq118,rfl⟩)
    refine qx ?_
    refine aw_pure 23 rfl zdk rfl rfl (v_move rfl) rfl ?_
    refine aw_pure 24 rfl zdk rfl rfl (v_extract rfl rfl) rfl ?_
    refine aw_pure 25 rfl zdk rfl rfl (v_extract rfl rfl) rfl ?_
    refine aw_step1 27 zdk rfl ?_
    refine ow_storeN rfl rfl rfl Ty.ag113 zra zao (.there .here) (SetN.all zsa) ?_
    refine qx ?_
    refine aw_pure 28 rfl zdk rfl rfl (v_assign rfl) rfl ?_
    refine aw_end zdk ?_
    refine xw_np ?_
    rotate_left
    all_goals exact xw_joint (b9,x118) hq118 zcov zenv
  rintro⟨b9,y⟩ hy
  refine cw_seq ?_
  refine qs ?_
  refine qm ?_
  refine qv (v_not_bool rfl) ?_
  refine qt ?_
  refine cw_bool rfl (fun hc122=>?_) (fun hc122=>?_)
  refine qs ?_
  refine qv (v_build rfl (b_fr0)) ?_
  refine ow_storeN rfl rfl rfl Ty.ag82 zra zao (.there .here) (SetN.all zsa) ?_
  refine qa ?_
  refine qt ?_
  refine cw_ret ?_
  refine xw_then_ret ?_
  refine ret2 rfl (res_cell rfl (Var.atN Ty.ag82 (.there .here) GetN.all zra)) (res_tmp rfl) ?_
  rotate_left
  refine cw_skip ?_
  refine xw_then ?_
  rotate_left
  · rw[if_neg (by simpa using hc122)]
    exact⟨(none,0,[]),rfl,Ls.nil,zcov⟩
  rw[if_pos (by simpa using hc122)]
  refine cw_cut2 (ι:=(Unit)) [(6,_),(8,_)] ⟨rfl,rfl,trivial⟩ ((fun _=>[])) ((fun _=>True)) ((fun _=>[(b8,.cells (FsM.cells ⟨8,x.id,pt.1.at_,0,0,pt.1.data,pt.1.fin⟩ y.1 y.2.1).toArray 82 (0,0))]::[(b6,.cells ((fs0 0).cells none 0).toArray 82 (0,0))]::y.2.2::G)) ?_ ?_
  · have e8:(((((fs0 x.id).cells none 0).set 0 (.int .u8 8)).set 2 (.int .u64 pt.1.at_)).set 5 (.slice y.1 pt.1.data.length y.2.1)).set 6 (.bool pt.1.fin)=FsM.cells ⟨8,x.id,pt.1.at_,0,0,pt.1.data,pt.1.fin⟩ y.1 y.2.1:=rfl
    refine cw_any Ty.mixed ?_
    have hnp:∀{Q:Exit→Act→World→Prop} c (a:Act) (w:World),¬NP Q (Exit.panic c) a w:=fun c a w hq=>hq
    have hSt:∀o w,St B w0 ([(b8,o)]::[(b6,.cells ((fs0 0).cells none 0).toArray 82 (0,0))]::[(b9,.cells (PartV.cells ⟨pt.1.at_,y.1,pt.1.data.length,y.2.1,pt.1.fin⟩).toArray 113 (0,0))]::y.2.2::G) w→St B w0 [[(b9,.cells (PartV.cells ⟨pt.1.at_,y.1,pt.1.data.length,y.2.1,pt.1.fin⟩).toArray 113 (0,0))]] w:=fun o w h=>h.cov zcov
    refine aw_held (St B w0 [[(b9,.cells (PartV.cells ⟨pt.1.at_,y.1,pt.1.data.length,y.2.1,pt.1.fin⟩).toArray 113 (0,0))]]) ?_
    refine ah_take 0 rfl zdk hnp rfl (runs_pure (v_fieldAddr0 Ty.fd113_0 rfl) rfl) (hSt _) ?_
    refine ah_take 1 rfl zdk hnp rfl (runs_load rfl (Var.at1 Ty.sc27 .here (GetN.lit rfl))) (hSt _) ?_
    refine ah_take 2 rfl zdk hnp rfl (runs_pure (v_fieldAddr0 Ty.fd113_1 rfl) rfl) (hSt _) ?_
    refine ah_take 3 rfl zdk hnp rfl (runs_load rfl (Var.at1 Ty.sc28 .here (GetN.lit rfl))) (hSt _) ?_
    refine ah_take 4 rfl zdk hnp rfl (runs_pure (v_fieldAddr0 Ty.fd113_2 rfl) rfl) (hSt _) ?_
    refine ah_take 5 rfl zdk hnp rfl (runs_load rfl (Var.at1 Ty.sc4 .here (GetN.lit rfl))) (hSt _) ?_
    refine ah_take 6 rfl zdk hnp rfl (runs_pure (v_fieldAddr0 Ty.fd82_0 rfl) rfl) (hSt _) ?_
    refine ah_all [7] zdk (by simp) fun j hj=>?_
    obtain rfl:j=7:=by simpa using hj
    refine⟨_,rfl,?_⟩
    refine ow_store1 rfl rfl rfl rfl Ty.sc76 .here (SetN.one zdn) ?_
    refine ow_held (hSt _) ?_
    refine ah_take 8 rfl zdk hnp rfl (runs_pure (v_fieldAddr0 Ty.fd82_2 rfl) rfl) (hSt _) ?_
    refine ah_all [9] zdk (by simp) fun j hj=>?_
    obtain rfl:j=9:=by simpa using hj
    refine⟨_,rfl,?_⟩
    refine ow_store1 rfl rfl rfl rfl Ty.sc27 .here (SetN.one zdn) ?_
    refine ow_held (hSt _) ?_
    refine ah_take 10 rfl zdk hnp rfl (runs_pure (v_fieldAddr0 Ty.fd82_5 rfl) rfl) (hSt _) ?_
    refine ah_all [11] zdk (by simp) fun j hj=>?_
    obtain rfl:j=11:=by simpa using hj
    refine⟨_,rfl,?_⟩
    refine ow_store1 rfl rfl rfl rfl Ty.sc28 .here (SetN.one zdn) ?_
    refine ow_held (hSt _) ?_
    refine ah_take 12 rfl zdk hnp rfl (runs_pure (v_fieldAddr0 Ty.fd82_6 rfl) rfl) (hSt _) ?_
    refine ah_all [13] zdk (by simp) fun j hj=>?_
    obtain rfl:j=13:=by simpa using hj
    refine⟨_,rfl,?_⟩
    refine ow_store1 rfl rfl rfl rfl Ty.sc4 .here (SetN.one zdn) ?_
    refine ow_held (hSt _) ?_
    refine ah_end zdk ?_
    refine xw_np ?_
    rw[e8]
    exact xw_joint () trivial zcov zenv
  rintro _ -
  have fl8:=FsM.len (f:=⟨8,x.id,pt.1.at_,0,0,pt.1.data,pt.1.fin⟩) (ao:=y.1) (cap:=y.2.1)
  refine qs ?_
  refine ql (Var.atN Ty.ag82 .here GetN.all zra) ?_
  refine ow_storeN rfl rfl rfl Ty.ag82 zra zao (.there .here) (SetN.all zsa) ?_
  refine qa ?_
  refine qt ?_
  refine cw_ret ?_
  refine ret2 rfl (res_cell rfl (Var.atN Ty.ag82 (.there .here) GetN.all zra)) (res_tmp rfl) ?_
  exact⟨y,rfl,hy,zcov⟩
end Go.Proofs.YtnlaffkihohfkaaGreat
namespace Go.Proofs.YtnlaffkihohfkaaGreat
open Go Go.Sl Go.Proofs
variable {B:Nat}{w0:World}{G:List Hp}{R:Hp→List Hp}
theorem SsM.touch_id {M:SsM}{id:Int}{i:Nat}(h:idxS M.str id=some i):M.touch id=M:=by
 unfold SsM.touch
 rw[h,if_neg (by simp)]
theorem get_at_c {M:SsM}{ps:List Nat}{b i:Nat}{c:Hp}{id:Int}(hsel:Sel G c R)(hM:SsAt M ps b c)(hw:M.WF)(hid:0≤id∧id≤18446744073709551615)(hh:M.has id)(hi:idxS M.str id=some i):
  Go.Sl.Fn Tryz.prog 14 #[.pointer (some ⟨b,0,none⟩),.int .u64 id] B w0 G fun u G'=>∃y:List Nat×Hp,u=.pointer (some ⟨y.1.getD i 0,0,none⟩)∧SsAt M y.1 b y.2∧G'=R y.2:=by
 refine(get_has_c hsel hM hw hid hh).mono ?_
 rintro v G' ⟨y,rfl,⟨h1,h2⟩,rfl⟩
 rw[SsM.touch_id hi]at h1 h2
 have:i=y.1:=by
  rw[hi]at h1
  exact Option.some.inj h1
 subst this
 exact⟨y.2,rfl,h2,rfl⟩
def SmM.noReset (x:SmM):SmM:={x with resets:=false}
def SmM.noStop (x:SmM):SmM:={x with stops:=false}
def SmM.tell (x:SmM):SmM:={x with giv:=x.giv.tell}
def SmM.outTo (x:SmM)(o:BufM):SmM:={x with out:=some o}
def SsM.sentD (M:SsM)(i:Nat)(x:SmM)(o:BufM)(f:FsM):SsM:=(M.setS i (x.outTo (o.sent f.off f.data.length f.fin))).spend i (x.outTo (o.sent f.off f.data.length f.fin)) (f.off+f.data.length)
def SsM.sent (M:SsM)(i:Nat)(x:SmM)(f:FsM):SsM:=
 if f.k=4 then M.setS i x.noReset
 else if f.k=5 then M.setS i x.noStop
 else if f.k=17 then M.setS i x.tell
 else match x.out with
  |none=>M
  |some o=>M.sentD i x o f
theorem sent_c {M:SsM}{ps:List Nat}{b i:Nat}{c:Hp}{x:SmM}{f:FsM}{ao:Option Addr}{cap:Nat}(hsel:Sel G c R)(hM:SsAt M ps b c)(hw:M.WF)(hid:0≤f.id∧f.id≤18446744073709551615)(hh:M.has f.id)(hi:idxS M.str f.id=some i)(hx:M.str[i]?=some x)
  (hk:f.k=4∨f.k=5∨f.k=17∨(f.k=8∧x.send≠0)) (hf:0≤f.off∧f.off≤4611686018427387903) (hl:f.data.length≤1000000):
  Go.Sl.Fn Tryz.prog 29 #[.pointer (some ⟨b,0,none⟩),.agg (f.cells ao cap).toArray] B w0 G fun u G'=>∃y:List Nat×Hp,u=.tuple #[]∧SsAt (M.sent i x f) y.1 b y.2∧G'=R y.2:=by
 refine Fn.sel0 hsel fun F hR hF=>?_
 have fl:=f.len (ao:=ao) (cap:=cap)
 have fo:=f.one (ao:=ao) (cap:=cap)
 refine fn_enter Tryz.func29 rfl (by kernel_rfl) Tryz.ntmps29 (by simp) ?_
 refine qs<|ow_box rfl rfl rfl rfl fun b3=>qt<|qs<|qm<|qf Ty.fd82_1<|ql (Var.at1 Ty.sc27 .here (GetN.lit rfl)) ?_
 (refine ow_call rfl rfl rfl rfl (get_at_c zsel hM hw hid hh hi) ?_;rintro _ _ ⟨x8,rfl,hq8,rfl⟩)
 refine qa<|qt ?_
 have hxw:=hw.str x (List.mem_of_getElem? hx)
 obtain⟨p,q,ci,co,cr,hc,hI,hO,back⟩:=hq8.open hx
 generalize hb1:x8.1.getD i 0=b1 at hc back⊢
 have back':=fun (x':SmM) (h1:x'.id=x.id)=>back (M.setS i x') x' q ci co rfl rfl rfl h1
 have o1:=x.giv.tell.one
 refine cw_cov ([(b3,.cells (f.cells ao cap).toArray 82 (0,0))]::[(b,.cells (M.cells p).toArray 73 (0,0))]::[(b1,.cells (x.cells q).toArray 55 (0,0))]::ci::co::cr::F) (zcv1 hc) ?_
 unfold SsM.sent
 rcases hk with hk|hk|hk|⟨hk,hsd⟩
 ·rw[if_pos hk]
  refine cw_seq<|qs<|qm<|qv (v_eql_nil_some Tryz.underlying45 rfl)<|qt<|cw_false rfl<|cw_skip<|xw_then<|qs<|qf Ty.fd82_0<|ql (Var.at1 Ty.sc76 .here (GetN.lit rfl))<|qt ?_
  refine cw_block<|qs<|qv (v_eql rfl rfl)<|qa<|qt ?_
  refine cw_dec rfl (fun hc13=>?_) (fun hc13=>?_)
  rotate_left;(exfalso;omega);rotate_right
  refine cw_region<|qm<|qn<|qf Ty.fd55_9<|ow_store1 rfl rfl rfl rfl Ty.sc4 (.there (.there .here)) (SetN.one zdn)<|ow_nil<|xw_block<|ret0n rfl ?_
  obtain⟨c',h1,h2⟩:=back' x.noReset rfl hI hO
  have e2:SsM.cells (M.setS i x.noReset) p=M.cells p:=rfl
  have e3:SmM.cells x.noReset q=(x.cells q).set 15 (.bool false):=rfl
  rw[e2,e3]at h2
  clear hc
  exact⟨(x8.1,c'),rfl,h1,(zcv1 h2)⟩
 ·rw[if_neg zom,if_pos hk]
  refine cw_seq<|qs<|qm<|qv (v_eql_nil_some Tryz.underlying45 rfl)<|qt<|cw_false rfl<|cw_skip<|xw_then<|qs<|qf Ty.fd82_0<|ql (Var.at1 Ty.sc76 .here (GetN.lit rfl))<|qt ?_
  refine cw_block<|qs<|qv (v_eql rfl rfl)<|qa<|qt ?_
  refine cw_dec rfl (fun hc13=>?_) (fun hc13=>?_)
  (exfalso;omega)
  refine qs<|qv (v_eql rfl rfl)<|qa<|qt ?_
  refine cw_dec rfl (fun hc18=>?_) (fun hc18=>?_)
  rotate_left;(exfalso;omega);rotate_right
  refine cw_region<|qm<|qn<|qf Ty.fd55_11<|ow_store1 rfl rfl rfl rfl Ty.sc4 (.there (.there .here)) (SetN.one zdn)<|ow_nil<|xw_block<|ret0n rfl ?_
  obtain⟨c',h1,h2⟩:=back' x.noStop rfl hI hO
  have e2:SsM.cells (M.setS i x.noStop) p=M.cells p:=rfl
  have e3:SmM.cells x.noStop q=(x.cells q).set 17 (.bool false):=rfl
  rw[e2,e3]at h2
  clear hc
  exact⟨(x8.1,c'),rfl,h1,(zcv1 h2)⟩
 ·rw[if_neg zom,if_neg zom,if_pos hk]
  refine cw_seq<|qs<|qm<|qv (v_eql_nil_some Tryz.underlying45 rfl)<|qt<|cw_false rfl<|cw_skip<|xw_then<|qs<|qf Ty.fd82_0<|ql (Var.at1 Ty.sc76 .here (GetN.lit rfl))<|qt ?_
  refine cw_block<|qs<|qv (v_eql rfl rfl)<|qa<|qt ?_
  refine cw_dec rfl (fun hc13=>?_) (fun hc13=>?_)
  (exfalso;omega)
  refine qs<|qv (v_eql rfl rfl)<|qa<|qt ?_
  refine cw_dec rfl (fun hc18=>?_) (fun hc18=>?_)
  (exfalso;omega)
  refine qs<|qv (v_eql rfl rfl)<|qa<|qt ?_
  refine cw_dec rfl (fun hc23=>?_) (fun hc23=>?_)
  rotate_left;(exfalso;omega);rotate_right
  refine cw_region<|qm<|qm<|qn<|qf Ty.fd55_5 ?_
  refine ow_val rfl rfl (v_load rfl (Var.atN Ty.ag51 (.there (.there .here)) ((GetN.mid (vs:=x.giv.cells) rfl)) zra)) ?_
  refine qv (v_call rfl rfl (givTold_c))<|qn<|qf Ty.fd55_5 ?_
  refine ow_storeN rfl rfl rfl Ty.ag51 zra zao (.there (.there .here)) ((SetN.mid (l':=SmM.cells x.tell q) (Nat.le_of_ble_eq_true rfl) rfl)) ?_
  refine ow_nil<|xw_block<|ret0n rfl ?_
  obtain⟨c',h1,h2⟩:=back' x.tell rfl hI hO
  have e2:SsM.cells (M.setS i x.tell) p=M.cells p:=rfl
  rw[e2]at h2
  clear hc
  exact⟨(x8.1,c'),rfl,h1,(zcv1 h2)⟩
 ·rw[if_neg zom,if_neg zom,if_neg zom]
  have hxo:∃o,x.out=some o:=by
   cases ho:x.out with
   |some o=>exact⟨o,rfl⟩
   |none=>exact absurd (hxw.send.1.2 ho) hsd
  obtain⟨o,ho⟩:=hxo
  rw[ho]at hO⊢
  obtain⟨bo,hqo,hO⟩:=hO
  obtain⟨qi,qo⟩:=q
  dsimp only at hqo
  subst hqo
  refine cw_seq<|qs<|qm<|qv (v_eql_nil_some Tryz.underlying45 rfl)<|qt<|cw_false rfl<|cw_skip<|xw_then<|qs<|qf Ty.fd82_0<|ql (Var.at1 Ty.sc76 .here (GetN.lit rfl))<|qt ?_
  refine cw_block<|qs<|qv (v_eql rfl rfl)<|qa<|qt ?_
  refine cw_dec rfl (fun hc13=>?_) (fun hc13=>?_)
  (exfalso;omega)
  refine qs<|qv (v_eql rfl rfl)<|qa<|qt ?_
  refine cw_dec rfl (fun hc18=>?_) (fun hc18=>?_)
  (exfalso;omega)
  refine qs<|qv (v_eql rfl rfl)<|qa<|qt ?_
  refine cw_dec rfl (fun hc23=>?_) (fun hc23=>?_)
  (exfalso;omega)
  refine qs<|qv (v_eql rfl rfl)<|qa<|qt ?_
  refine cw_dec rfl (fun hc33=>?_) (fun hc33=>?_)
  rotate_left;(exfalso;omega);rotate_right
  refine qs<|qm<|qn<|qf Ty.fd55_1<|ql (Var.at1 Ty.sc47 (.there (.there .here)) (GetN.lit rfl))<|qv (v_neq rfl rfl)<|qt ?_
  refine cw_dec rfl (fun hc39=>?_) (fun hc39=>?_)
  rotate_left;(exfalso;omega);rotate_right
  refine cw_seq ?_
  refine cw_mix [] [11] [0,1,2,3,4,5,6,7,8,9,10] Ty.mixed rfl rfl rfl rfl zdk ?_
  refine hmv<|hw_pure rfl rfl (v_nilCheck rfl) rfl<|hw_pure rfl rfl (v_fieldAddr0 Ty.fd55_4 rfl) rfl<|hw_read rfl rfl rfl (v_load rfl (Var.at1 Ty.sc49 (.there (.there .here)) (GetN.lit rfl)))<|hw_pure rfl rfl (v_fieldAddr0 Ty.fd82_2 rfl) rfl<|hw_read rfl rfl rfl (v_load rfl (Var.at1 Ty.sc27 .here (GetN.lit rfl)))<|hw_pure rfl rfl (v_fieldAddr0 Ty.fd82_5 rfl) rfl<|hw_read rfl rfl rfl (v_load rfl (Var.at1 Ty.sc28 .here (GetN.lit rfl)))<|hw_pure rfl rfl (v_fieldAddr0 Ty.fd82_6 rfl) rfl<|hw_read rfl rfl rfl (v_load rfl (Var.at1 Ty.sc4 .here (GetN.lit rfl)))<|hw_pure rfl rfl (v_build rfl (b_part3)) rfl<|hw_nil ?_
  refine sw_nil ?_
  (refine ow_call rfl rfl rfl rfl (outSent_c (p:=⟨f.off,ao,f.data.length,cap,f.fin⟩) zsel hO (hxw.out o ho) zdo zdo) ?_;rintro _ _ ⟨x51,rfl,hq51,rfl⟩)
  refine ow_nil<|xw_np<|xw_then<|cw_region<|qm<|qm<|ql (Var.atN Ty.ag82 .here GetN.all zra) ?_
  obtain⟨c2,hM2,hc2⟩:=back (M.setS i (x.outTo (o.sent f.off f.data.length f.fin))) (x.outTo (o.sent f.off f.data.length f.fin)) ⟨qi,some ⟨bo,0,none⟩⟩ ci x51 rfl rfl rfl rfl hI ⟨bo,rfl,hq51⟩
  have e2:SsM.cells (M.setS i (x.outTo (o.sent f.off f.data.length f.fin))) p=M.cells p:=rfl
  have e3:SmM.cells (x.outTo (o.sent f.off f.data.length f.fin)) ⟨qi,some ⟨bo,0,none⟩⟩=x.cells ⟨qi,some ⟨bo,0,none⟩⟩:=rfl
  rw[e2,e3]at hc2
  clear hc
  refine ow_cov (c2::[(b3,.cells (f.cells ao cap).toArray 82 (0,0))]::F) (zcv1 hc2) ?_
  subst hb1
  obtain⟨hil,hie⟩:=List.getElem?_eq_some_iff.1 hx
  have hx2:(M.setS i (x.outTo (o.sent f.off f.data.length f.fin))).str[i]?=some (x.outTo (o.sent f.off f.data.length f.fin)):=List.getElem?_set_self hil
  (refine ow_call rfl rfl rfl rfl (spend_c zsel hM2 hx2 hw.got hxw.got hf hl) ?_;rintro _ _ ⟨x55,rfl,hq55,rfl⟩)
  refine ow_nil<|xw_block<|ret0n rfl ?_
  exact⟨(x8.1,x55),rfl,hq55,zcov⟩
def SmM.settled (x:SmM):SmM:={x with send:=5,resets:=false}
def SmM.overO (x:SmM)(o:BufM):SmM:={x with out:=some o,send:=3}
def SsM.cameD (M:SsM)(i:Nat)(x:SmM)(o:BufM):SsM:=if x.send=2∧(o.endCame&&decide (o.data.length=0))=true then (M.setS i (x.overO o)).settle i (x.overO o) else M.setS i (x.outTo o)
def SsM.cameF (M:SsM)(i:Nat)(x:SmM)(f:FsM):SsM:=
 if f.k=4 then (if x.send=4 then (M.setS i x.settled).settle i x.settled else M)
 else if f.k=8 then match x.out with
  |none=>M
  |some o=>M.cameD i x (o.gotIt f.off f.data.length f.fin)
 else M
set_option maxHeartbeats 4000000 in
theorem came_c {M:SsM}{ps:List Nat}{b i:Nat}{c:Hp}{x:SmM}{f:FsM}{ao:Option Addr}{cap:Nat}(hsel:Sel G c R)(hM:SsAt M ps b c)(hw:M.WF)(hid:0≤f.id∧f.id≤18446744073709551615)(hh:M.has f.id)(hi:idxS M.str f.id=some i)(hx:M.str[i]?=some x)
  (hk:f.k=4∨f.k=5∨f.k=17∨(f.k=8∧x.send≠0)) (hf:0≤f.off∧f.off≤4611686018427387903) (hl:f.data.length≤1000000):
  Go.Sl.Fn Tryz.prog 31 #[.pointer (some ⟨b,0,none⟩),.agg (f.cells ao cap).toArray] B w0 G fun u G'=>∃y:List Nat×Hp,u=.tuple #[]∧SsAt (M.cameF i x f) y.1 b y.2∧G'=R y.2:=by
 refine Fn.sel0 hsel fun F hR hF=>?_
 have fl:=f.len (ao:=ao) (cap:=cap)
 have fo:=f.one (ao:=ao) (cap:=cap)
 refine fn_enter Tryz.func31 rfl (by kernel_rfl) Tryz.ntmps31 (by simp) ?_
 refine qs<|ow_box rfl rfl rfl rfl fun b3=>qt<|qs<|qm<|qf Ty.fd82_1<|ql (Var.at1 Ty.sc27 .here (GetN.lit rfl)) ?_
 (refine ow_call rfl rfl rfl rfl (get_at_c zsel hM hw hid hh hi) ?_;rintro _ _ ⟨x8,rfl,hq8,rfl⟩)
 refine qa<|qt ?_
 have hxw:=hw.str x (List.mem_of_getElem? hx)
 have hxid:=hxw.id
 have hgv:0≤(M.kd x.id).giv∧(M.kd x.id).giv≤4611686018427387903:=by
  unfold SsM.kd
  split
  ·exact hw.k0.giv
  ·exact hw.k1.giv
 obtain⟨p,q,ci,co,cr,hc,hI,hO,back⟩:=hq8.open hx
 obtain⟨hil,hie⟩:=List.getElem?_eq_some_iff.1 hx
 generalize hb1:x8.1.getD i 0=b1 at hc back⊢
 have e2:∀x':SmM,SsM.cells (M.setS i x') p=M.cells p:=fun _=>rfl
 refine cw_cov ([(b3,.cells (f.cells ao cap).toArray 82 (0,0))]::[(b,.cells (M.cells p).toArray 73 (0,0))]::[(b1,.cells (x.cells q).toArray 55 (0,0))]::ci::co::cr::F) (zcv1 hc) ?_
 unfold SsM.cameF
 rcases hk with hk|hk|hk|⟨hk,hsd⟩
 ·rw[if_pos hk]
  refine cw_seq<|qs<|qm<|qv (v_eql_nil_some Tryz.underlying45 rfl)<|qt<|cw_false rfl<|cw_skip<|xw_then<|qs<|qf Ty.fd82_0<|ql (Var.at1 Ty.sc76 .here (GetN.lit rfl))<|qt ?_
  refine cw_block<|qs<|qv (v_eql rfl rfl)<|qa<|qt ?_
  refine cw_dec rfl (fun hc13=>?_) (fun hc13=>?_)
  rotate_left;(exfalso;omega);rotate_right
  refine qs<|qm<|qn<|qf Ty.fd55_1<|ql (Var.at1 Ty.sc47 (.there (.there .here)) (GetN.lit rfl))<|qv (v_eql rfl rfl)<|qt ?_
  refine cw_dec rfl (fun hc19=>?_) (fun hc19=>?_)
  refine qs<|qm<|qn<|qf Ty.fd55_1<|ow_store1 rfl rfl rfl rfl Ty.sc47 (.there (.there .here)) (SetN.one zdn)<|qt<|qs<|qm<|qn<|qf Ty.fd55_9<|ow_store1 rfl rfl rfl rfl Ty.sc4 (.there (.there .here)) (SetN.one zdn)<|qt ?_
  refine cw_region<|qm<|qm ?_
  rotate_left
  refine cw_skip<|xw_block<|ret0n rfl ?_
  rotate_left
  ·obtain⟨c2,hM2,hc2⟩:=back (M.setS i x.settled) x.settled q ci co rfl rfl rfl rfl hI hO
   have e3:SmM.cells x.settled q=(((x.cells q).set 1 (.int .u8 5)).set 15 (.bool false)):=rfl
   rw[e2,e3]at hc2
   clear hc
   refine ow_cov (c2::[(b3,.cells (f.cells ao cap).toArray 82 (0,0))]::F) (zcv1 hc2) ?_
   subst hb1
   have hx2:(M.setS i x.settled).str[i]?=some x.settled:=List.getElem?_set_self hil
   rw[if_pos hc19]
   (refine ow_call rfl rfl rfl rfl (settle_c zsel hM2 hx2 hxid hgv) ?_;rintro _ _ ⟨x28,rfl,hq28,rfl⟩)
   refine ow_nil<|xw_block<|ret0n rfl ?_
   exact⟨(x8.1,x28),rfl,hq28,zcov⟩
  ·rw[if_neg hc19]
   exact⟨(x8.1,x8.2),rfl,hq8,(zcv1 hc)⟩
 ·rw[if_neg zom,if_neg zom]
  refine cw_seq<|qs<|qm<|qv (v_eql_nil_some Tryz.underlying45 rfl)<|qt<|cw_false rfl<|cw_skip<|xw_then<|qs<|qf Ty.fd82_0<|ql (Var.at1 Ty.sc76 .here (GetN.lit rfl))<|qt ?_
  refine cw_block<|qs<|qv (v_eql rfl rfl)<|qa<|qt ?_
  refine cw_dec rfl (fun hc13=>?_) (fun hc13=>?_)
  (exfalso;omega)
  refine qs<|qv (v_eql rfl rfl)<|qa<|qt ?_
  refine cw_dec rfl (fun hc29=>?_) (fun hc29=>?_)
  (exfalso;omega)
  refine cw_skip<|xw_block<|ret0n rfl ?_
  exact⟨(x8.1,x8.2),rfl,hq8,(zcv1 hc)⟩
 ·rw[if_neg zom,if_neg zom]
  refine cw_seq<|qs<|qm<|qv (v_eql_nil_some Tryz.underlying45 rfl)<|qt<|cw_false rfl<|cw_skip<|xw_then<|qs<|qf Ty.fd82_0<|ql (Var.at1 Ty.sc76 .here (GetN.lit rfl))<|qt ?_
  refine cw_block<|qs<|qv (v_eql rfl rfl)<|qa<|qt ?_
  refine cw_dec rfl (fun hc13=>?_) (fun hc13=>?_)
  (exfalso;omega)
  refine qs<|qv (v_eql rfl rfl)<|qa<|qt ?_
  refine cw_dec rfl (fun hc29=>?_) (fun hc29=>?_)
  (exfalso;omega)
  refine cw_skip<|xw_block<|ret0n rfl ?_
  exact⟨(x8.1,x8.2),rfl,hq8,(zcv1 hc)⟩
 ·rw[if_neg zom,if_pos hk]
  have hxo:∃o,x.out=some o:=by
   cases ho:x.out with
   |some o=>exact⟨o,rfl⟩
   |none=>exact absurd (hxw.send.1.2 ho) hsd
  obtain⟨o,ho⟩:=hxo
  rw[ho]at hO⊢
  obtain⟨bo,hqo,hO⟩:=hO
  obtain⟨qi,qo⟩:=q
  dsimp only at hqo
  subst hqo
  have hgw:=BufM.gotIt_wf (hxw.out o ho) (at_:=f.off) (size:=f.data.length) (fin:=f.fin) zom
  refine cw_seq<|qs<|qm<|qv (v_eql_nil_some Tryz.underlying45 rfl)<|qt<|cw_false rfl<|cw_skip<|xw_then<|qs<|qf Ty.fd82_0<|ql (Var.at1 Ty.sc76 .here (GetN.lit rfl))<|qt ?_
  refine cw_block<|qs<|qv (v_eql rfl rfl)<|qa<|qt ?_
  refine cw_dec rfl (fun hc13=>?_) (fun hc13=>?_)
  (exfalso;omega)
  refine qs<|qv (v_eql rfl rfl)<|qa<|qt ?_
  refine cw_dec rfl (fun hc29=>?_) (fun hc29=>?_)
  rotate_left;(exfalso;omega);rotate_right
  refine cw_seq ?_
  refine cw_mix [] [11] [0,1,2,3,4,5,6,7,8,9,10] Ty.mixed rfl rfl rfl rfl zdk ?_
  refine hmv<|hw_pure rfl rfl (v_nilCheck rfl) rfl<|hw_pure rfl rfl (v_fieldAddr0 Ty.fd55_4 rfl) rfl<|hw_read rfl rfl rfl (v_load rfl (Var.at1 Ty.sc49 (.there (.there .here)) (GetN.lit rfl)))<|hw_pure rfl rfl (v_fieldAddr0 Ty.fd82_2 rfl) rfl<|hw_read rfl rfl rfl (v_load rfl (Var.at1 Ty.sc27 .here (GetN.lit rfl)))<|hw_pure rfl rfl (v_fieldAddr0 Ty.fd82_5 rfl) rfl<|hw_read rfl rfl rfl (v_load rfl (Var.at1 Ty.sc28 .here (GetN.lit rfl)))<|hw_pure rfl rfl (v_len rfl Tryz.underlying28 rfl) rfl<|hw_pure rfl rfl (v_fieldAddr0 Ty.fd82_6 rfl) rfl<|hw_read rfl rfl rfl (v_load rfl (Var.at1 Ty.sc4 .here (GetN.lit rfl)))<|hw_nil ?_
  refine sw_nil ?_
  (refine ow_call rfl rfl rfl rfl (outCame_c zsel hO (hxw.out o ho) zom zom) ?_;rintro _ _ ⟨x42,rfl,hq42,rfl⟩)
  refine ow_nil<|xw_np<|xw_then<|qs<|qm<|qn<|qf Ty.fd55_1<|ql (Var.at1 Ty.sc47 (.there (.there .here)) (GetN.lit rfl))<|qv (v_eql rfl rfl)<|qm ?_
  refine ow_dec 48 rfl (fun hc48=>?_) (fun hc48=>?_)
  refine qm<|qn<|qf Ty.fd55_4<|ql (Var.at1 Ty.sc49 (.there (.there .here)) (GetN.lit rfl)) ?_
  refine ow_val rfl rfl (v_call rfl rfl (outDone_c zas zhas hgw)) ?_
  refine qv (v_pick_true rfl rfl)<|qt ?_
  refine cw_bool rfl (fun hc54=>?_) (fun hc54=>?_)
  refine qs<|qm<|qn<|qf Ty.fd55_1<|ow_store1 rfl rfl rfl rfl Ty.sc47 (.there (.there .here)) (SetN.one zdn)<|qt<|cw_region<|qm<|qm ?_
  rotate_left
  refine cw_skip<|xw_block<|ret0n rfl ?_
  rotate_left
  refine qk<|qk<|qk<|qk<|qk<|qv (v_pick_false rfl rfl)<|qt<|cw_false rfl<|cw_skip<|xw_block<|ret0n rfl ?_
  rotate_left
  all_goals dsimp only
  all_goals generalize o.gotIt f.off f.data.length f.fin=o' at *
  all_goals unfold SsM.cameD
  ·obtain⟨c2,hM2,hc2⟩:=back (M.setS i (x.overO o')) (x.overO o') ⟨qi,some ⟨bo,0,none⟩⟩ ci x42 rfl rfl rfl rfl hI ⟨bo,rfl,hq42⟩
   have e3:SmM.cells (x.overO o') ⟨qi,some ⟨bo,0,none⟩⟩=(x.cells ⟨qi,some ⟨bo,0,none⟩⟩).set 1 (.int .u8 3):=rfl
   rw[e2,e3]at hc2
   clear hc
   refine ow_cov (c2::[(b3,.cells (f.cells ao cap).toArray 82 (0,0))]::F) (zcv1 hc2) ?_
   subst hb1
   have hx2:(M.setS i (x.overO o')).str[i]?=some (x.overO o'):=List.getElem?_set_self hil
   rw[if_pos ⟨hc48,hc54⟩]
   (refine ow_call rfl rfl rfl rfl (settle_c zsel hM2 hx2 hxid hgv) ?_;rintro _ _ ⟨x60,rfl,hq60,rfl⟩)
   refine ow_nil<|xw_block<|ret0n rfl ?_
   exact⟨(x8.1,x60),rfl,hq60,zcov⟩
  ·rw[if_neg (fun h=>Bool.noConfusion (hc54.symm.trans h.2))]
   obtain⟨c2,hM2,hc2⟩:=back (M.setS i (x.outTo o')) (x.outTo o') ⟨qi,some ⟨bo,0,none⟩⟩ ci x42 rfl rfl rfl rfl hI ⟨bo,rfl,hq42⟩
   have e3:SmM.cells (x.outTo o') ⟨qi,some ⟨bo,0,none⟩⟩=x.cells ⟨qi,some ⟨bo,0,none⟩⟩:=rfl
   rw[e2,e3]at hc2
   clear hc
   exact⟨(x8.1,c2),rfl,hM2,(zcv1 hc2)⟩
  ·rw[if_neg (fun h=>hc48 h.1)]
   obtain⟨c2,hM2,hc2⟩:=back (M.setS i (x.outTo o')) (x.outTo o') ⟨qi,some ⟨bo,0,none⟩⟩ ci x42 rfl rfl rfl rfl hI ⟨bo,rfl,hq42⟩
   have e3:SmM.cells (x.outTo o') ⟨qi,some ⟨bo,0,none⟩⟩=x.cells ⟨qi,some ⟨bo,0,none⟩⟩:=rfl
   rw[e2,e3]at hc2
   clear hc
   exact⟨(x8.1,c2),rfl,hM2,(zcv1 hc2)⟩
def SmM.again (x:SmM):SmM:={x with resets:=true}
def SmM.stopA (x:SmM):SmM:={x with stops:=true}
def SmM.untell (x:SmM):SmM:={x with giv:=x.giv.lose}
def SsM.lostF (M:SsM)(i:Nat)(x:SmM)(f:FsM):SsM:=
 if f.k=4 then (if x.send=4 then M.setS i x.again else M)
 else if f.k=5 then (if x.stopped=true∧liveS x.recv=true then M.setS i x.stopA else M)
 else if f.k=17 then M.setS i x.untell
 else if liveS x.send=true then match x.out with
  |none=>M
  |some o=>M.setS i (x.outTo (o.lostIt f.off f.data.length f.fin))
 else M
set_option maxHeartbeats 4000000 in
theorem lost_c {M:SsM}{ps:List Nat}{b i:Nat}{c:Hp}{x:SmM}{f:FsM}{ao:Option Addr}{cap:Nat}(hsel:Sel G c R)(hM:SsAt M ps b c)(hw:M.WF)(hid:0≤f.id∧f.id≤18446744073709551615)(hh:M.has f.id)(hi:idxS M.str f.id=some i)(hx:M.str[i]?=some x)
  (hk:f.k=4∨f.k=5∨f.k=17∨(f.k=8∧liveS x.send=true)) (hf:0≤f.off∧f.off≤4611686018427387903) (hl:f.data.length≤1000000):
  Go.Sl.Fn Tryz.prog 30 #[.pointer (some ⟨b,0,none⟩),.agg (f.cells ao cap).toArray] B w0 G fun u G'=>∃y:List Nat×Hp,u=.tuple #[]∧SsAt (M.lostF i x f) y.1 b y.2∧G'=R y.2:=by
 refine Fn.sel0 hsel fun F hR hF=>?_
 have fl:=f.len (ao:=ao) (cap:=cap)
 have fo:=f.one (ao:=ao) (cap:=cap)
 refine fn_enter Tryz.func30 rfl (by kernel_rfl) Tryz.ntmps30 (by simp) ?_
 refine qs<|ow_box rfl rfl rfl rfl fun b3=>qt<|qs<|qm<|qf Ty.fd82_1<|ql (Var.at1 Ty.sc27 .here (GetN.lit rfl)) ?_
 (refine ow_call rfl rfl rfl rfl (get_at_c zsel hM hw hid hh hi) ?_;rintro _ _ ⟨x8,rfl,hq8,rfl⟩)
 refine qa<|qt ?_
 have hxw:=hw.str x (List.mem_of_getElem? hx)
 obtain⟨p,q,ci,co,cr,hc,hI,hO,back⟩:=hq8.open hx
 obtain⟨hil,hie⟩:=List.getElem?_eq_some_iff.1 hx
 generalize hb1:x8.1.getD i 0=b1 at hc back⊢
 have e2:∀x':SmM,SsM.cells (M.setS i x') p=M.cells p:=fun _=>rfl
 have o1:=x.giv.lose.one
 refine cw_cov ([(b3,.cells (f.cells ao cap).toArray 82 (0,0))]::[(b,.cells (M.cells p).toArray 73 (0,0))]::[(b1,.cells (x.cells q).toArray 55 (0,0))]::ci::co::cr::F) (zcv1 hc) ?_
 unfold SsM.lostF
 rcases hk with hk|hk|hk|⟨hk,hsd⟩
 ·rw[if_pos hk]
  refine cw_seq<|qs<|qm<|qv (v_eql_nil_some Tryz.underlying45 rfl)<|qt<|cw_false rfl<|cw_skip<|xw_then<|qs<|qf Ty.fd82_0<|ql (Var.at1 Ty.sc76 .here (GetN.lit rfl))<|qt ?_
  refine cw_block<|qs<|qv (v_eql rfl rfl)<|qa<|qt ?_
  refine cw_dec rfl (fun hc13=>?_) (fun hc13=>?_)
  rotate_left;(exfalso;omega);rotate_right
  refine qs<|qm<|qn<|qf Ty.fd55_1<|ql (Var.at1 Ty.sc47 (.there (.there .here)) (GetN.lit rfl))<|qv (v_eql rfl rfl)<|qt ?_
  refine cw_dec rfl (fun hc19=>?_) (fun hc19=>?_)
  refine cw_region<|qm<|qn<|qf Ty.fd55_9<|ow_store1 rfl rfl rfl rfl Ty.sc4 (.there (.there .here)) (SetN.one zdn)<|ow_nil<|xw_block<|ret0n rfl ?_
  rotate_left
  refine cw_skip<|xw_block<|ret0n rfl ?_
  rotate_left
  ·rw[if_pos hc19]
   obtain⟨c2,hM2,hc2⟩:=back (M.setS i x.again) x.again q ci co rfl rfl rfl rfl hI hO
   have e3:SmM.cells x.again q=(x.cells q).set 15 (.bool true):=rfl
   rw[e2,e3]at hc2
   clear hc
   exact⟨(x8.1,c2),rfl,hM2,(zcv1 hc2)⟩
  ·rw[if_neg hc19]
   exact⟨(x8.1,x8.2),rfl,hq8,(zcv1 hc)⟩
 ·rw[if_neg zom,if_pos hk]
  refine cw_seq<|qs<|qm<|qv (v_eql_nil_some Tryz.underlying45 rfl)<|qt<|cw_false rfl<|cw_skip<|xw_then<|qs<|qf Ty.fd82_0<|ql (Var.at1 Ty.sc76 .here (GetN.lit rfl))<|qt ?_
  refine cw_block<|qs<|qv (v_eql rfl rfl)<|qa<|qt ?_
  refine cw_dec rfl (fun hc13=>?_) (fun hc13=>?_)
  (exfalso;omega)
  refine qs<|qv (v_eql rfl rfl)<|qa<|qt ?_
  refine cw_dec rfl (fun hc23=>?_) (fun hc23=>?_)
  rotate_left;(exfalso;omega);rotate_right
  refine qs<|qm<|qn<|qf Ty.fd55_12<|ql (Var.at1 Ty.sc4 (.there (.there .here)) (GetN.lit rfl))<|qm ?_
  refine ow_bool 29 rfl (fun hc29=>?_) (fun hc29=>?_)
  refine qm<|qn<|qf Ty.fd55_2<|ql (Var.at1 Ty.sc47 (.there (.there .here)) (GetN.lit rfl))<|qv (v_call rfl rfl (live_c))<|qv (v_pick_true rfl rfl)<|qt ?_
  refine cw_bool rfl (fun hc35=>?_) (fun hc35=>?_)
  refine cw_region<|qm<|qn<|qf Ty.fd55_11<|ow_store1 rfl rfl rfl rfl Ty.sc4 (.there (.there .here)) (SetN.one zdn)<|ow_nil<|xw_block<|ret0n rfl ?_
  rotate_left
  refine cw_skip<|xw_block<|ret0n rfl ?_
  rotate_left
  refine qk<|qk<|qk<|qk<|qk<|qv (v_pick_false rfl rfl)<|qt<|cw_false rfl<|cw_skip<|xw_block<|ret0n rfl ?_
  rotate_left
  ·rw[if_pos ⟨hc29,hc35⟩]
   obtain⟨c2,hM2,hc2⟩:=back (M.setS i x.stopA) x.stopA q ci co rfl rfl rfl rfl hI hO
   have e3:SmM.cells x.stopA q=(x.cells q).set 17 (.bool true):=rfl
   rw[e2,e3]at hc2
   clear hc
   exact⟨(x8.1,c2),rfl,hM2,(zcv1 hc2)⟩
  ·rw[if_neg (fun h=>Bool.noConfusion (hc35.symm.trans h.2))]
   exact⟨(x8.1,x8.2),rfl,hq8,(zcv1 hc)⟩
  ·rw[if_neg (fun h=>Bool.noConfusion (hc29.symm.trans h.1))]
   exact⟨(x8.1,x8.2),rfl,hq8,(zcv1 hc)⟩
 ·rw[if_neg zom,if_neg zom,if_pos hk]
  refine cw_seq<|qs<|qm<|qv (v_eql_nil_some Tryz.underlying45 rfl)<|qt<|cw_false rfl<|cw_skip<|xw_then<|qs<|qf Ty.fd82_0<|ql (Var.at1 Ty.sc76 .here (GetN.lit rfl))<|qt ?_
  refine cw_block<|qs<|qv (v_eql rfl rfl)<|qa<|qt ?_
  refine cw_dec rfl (fun hc13=>?_) (fun hc13=>?_)
  (exfalso;omega)
  refine qs<|qv (v_eql rfl rfl)<|qa<|qt ?_
  refine cw_dec rfl (fun hc23=>?_) (fun hc23=>?_)
  (exfalso;omega)
  refine qs<|qv (v_eql rfl rfl)<|qa<|qt ?_
  refine cw_dec rfl (fun hc39=>?_) (fun hc39=>?_)
  rotate_left;(exfalso;omega);rotate_right
  refine cw_region<|qm<|qm<|qn<|qf Ty.fd55_5 ?_
  refine ow_val rfl rfl (v_load rfl (Var.atN Ty.ag51 (.there (.there .here)) ((GetN.mid (vs:=x.giv.cells) rfl)) zra)) ?_
  refine qv (v_call rfl rfl (givLost_c hxw.giv))<|qn<|qf Ty.fd55_5 ?_
  refine ow_storeN rfl rfl rfl Ty.ag51 zra zao (.there (.there .here)) ((SetN.mid (l':=SmM.cells x.untell q) (Nat.le_of_ble_eq_true rfl) rfl)) ?_
  refine ow_nil<|xw_block<|ret0n rfl ?_
  obtain⟨c',h1,h2⟩:=back (M.setS i x.untell) x.untell q ci co rfl rfl rfl rfl hI hO
  rw[e2]at h2
  clear hc
  exact⟨(x8.1,c'),rfl,h1,(zcv1 h2)⟩
 ·rw[if_neg zom,if_neg zom,if_neg zom,if_pos hsd]
  have hxo:∃o,x.out=some o:=by
   cases ho:x.out with
   |some o=>exact⟨o,rfl⟩
   |none=>
    rw[hxw.send.1.2 ho]at hsd
    cases hsd
  obtain⟨o,ho⟩:=hxo
  rw[ho]at hO⊢
  obtain⟨bo,hqo,hO⟩:=hO
  obtain⟨qi,qo⟩:=q
  dsimp only at hqo
  subst hqo
  refine cw_seq<|qs<|qm<|qv (v_eql_nil_some Tryz.underlying45 rfl)<|qt<|cw_false rfl<|cw_skip<|xw_then<|qs<|qf Ty.fd82_0<|ql (Var.at1 Ty.sc76 .here (GetN.lit rfl))<|qt ?_
  refine cw_block<|qs<|qv (v_eql rfl rfl)<|qa<|qt ?_
  refine cw_dec rfl (fun hc13=>?_) (fun hc13=>?_)
  (exfalso;omega)
  refine qs<|qv (v_eql rfl rfl)<|qa<|qt ?_
  refine cw_dec rfl (fun hc23=>?_) (fun hc23=>?_)
  (exfalso;omega)
  refine qs<|qv (v_eql rfl rfl)<|qa<|qt ?_
  refine cw_dec rfl (fun hc39=>?_) (fun hc39=>?_)
  (exfalso;omega)
  refine qs<|qv (v_eql rfl rfl)<|qa<|qt ?_
  refine cw_dec rfl (fun hc49=>?_) (fun hc49=>?_)
  rotate_left;(exfalso;omega);rotate_right
  refine qs<|qm<|qn<|qf Ty.fd55_1<|ql (Var.at1 Ty.sc47 (.there (.there .here)) (GetN.lit rfl))<|qv (v_call rfl rfl (live_c))<|qt ?_
  refine cw_bool rfl (fun hc55=>?_) (fun hc55=>?_)
  refine cw_mix [] [11] [0,1,2,3,4,5,6,7,8,9,10] Ty.mixed rfl rfl rfl rfl zdk ?_
  refine hmv<|hw_pure rfl rfl (v_nilCheck rfl) rfl<|hw_pure rfl rfl (v_fieldAddr0 Ty.fd55_4 rfl) rfl<|hw_read rfl rfl rfl (v_load rfl (Var.at1 Ty.sc49 (.there (.there .here)) (GetN.lit rfl)))<|hw_pure rfl rfl (v_fieldAddr0 Ty.fd82_2 rfl) rfl<|hw_read rfl rfl rfl (v_load rfl (Var.at1 Ty.sc27 .here (GetN.lit rfl)))<|hw_pure rfl rfl (v_fieldAddr0 Ty.fd82_5 rfl) rfl<|hw_read rfl rfl rfl (v_load rfl (Var.at1 Ty.sc28 .here (GetN.lit rfl)))<|hw_pure rfl rfl (v_len rfl Tryz.underlying28 rfl) rfl<|hw_pure rfl rfl (v_fieldAddr0 Ty.fd82_6 rfl) rfl<|hw_read rfl rfl rfl (v_load rfl (Var.at1 Ty.sc4 .here (GetN.lit rfl)))<|hw_nil ?_
  refine sw_nil ?_
  (refine ow_call rfl rfl rfl rfl (outLost_c zsel hO (hxw.out o ho) zom zom) ?_;rintro _ _ ⟨x67,rfl,hq67,rfl⟩)
  refine ow_nil<|xw_np<|xw_block<|ret0n rfl ?_
  rotate_left
  refine cw_skip<|xw_block<|ret0n rfl ?_
  rotate_left
  ·dsimp only
   generalize o.lostIt f.off f.data.length f.fin=o' at *
   obtain⟨c2,hM2,hc2⟩:=back (M.setS i (x.outTo o')) (x.outTo o') ⟨qi,some ⟨bo,0,none⟩⟩ ci x67 rfl rfl rfl rfl hI ⟨bo,rfl,hq67⟩
   have e3:SmM.cells (x.outTo o') ⟨qi,some ⟨bo,0,none⟩⟩=x.cells ⟨qi,some ⟨bo,0,none⟩⟩:=rfl
   rw[e2,e3]at hc2
   clear hc
   exact⟨(x8.1,c2),rfl,hM2,(zcv1 hc2)⟩
  ·exact absurd (hsd.symm.trans hc55) (by decide)
end Go.Proofs.YtnlaffkihohfkaaGreat
namespace Go.Sl
theorem v_indexA {P:Program}{N:Nat}{S:World→Prop}{E:Env}{T ty e:TypeId}{x y:Operand}{k:IntKind}{n:Int}{i len:Nat}{cs:List Value}{v:Value}(hT:P.underlying T=some (.array len e))(he:(P.info? e).map (·.size)=some 1)(hsc:Scalar P e)(hx:Env.ev E x=some (.agg cs.toArray))(hy:Env.ev E y=some (.int k n))(hi:n=(i:Int))(hlt:i<len)(hv:cs[i]?=some v):OpV P S N E (.index T x y) ty v:=fun a w ha _=>by
 subst hi
 have h1:(i:Int)<(len:Int):=by omega
 have h2:=run_sizeOf he w
 have h3:=hsc.agg w
 simp[execOp,ha.ev hx,ha.ev hy,Instr.index,asIntOf,run_underlying hT,part,Sem.run_bind,h1,hlt,h2,h3,hv,Oper.quietUpon]
end Go.Sl
namespace Go.Proofs.YtnlaffkihohfkaaGreat
open Go Go.Sl Go.Proofs
variable {B:Nat}{w0:World}{G:List Hp}{R:Hp→List Hp}
def fsK (k n:Int):FsM:=⟨k,0,0,n,0,[],false⟩
def SsM.strF (M:SsM):FsM×Bool:=if M.k0.told<M.k0.giv then (fsK 18 M.k0.giv,true) else if M.k1.told<M.k1.giv then (fsK 19 M.k1.giv,true) else (fs0 0,false)
theorem SsM.strF_0 {M:SsM}(h:M.k0.told<M.k0.giv):M.strF=(fsK 18 M.k0.giv,true):=if_pos h
theorem SsM.strF_1 {M:SsM}(h0:¬M.k0.told<M.k0.giv)(h:M.k1.told<M.k1.giv):M.strF=(fsK 19 M.k1.giv,true):=by rw[SsM.strF,if_neg h0,if_pos h]
theorem SsM.strF_2 {M:SsM}(h0:¬M.k0.told<M.k0.giv)(h:¬M.k1.told<M.k1.giv):M.strF=(fs0 0,false):=by rw[SsM.strF,if_neg h0,if_neg h]
theorem b_fr2 {k n:Int}:Build Tryz.prog 82 #[(0,.int .u8 k),(3,.int .u64 n)] (.agg ((fsK k n).cells none 0).toArray):=fun w=>by kernel_rfl
theorem b_kinds:Build Tryz.prog 110 #[(0,.int .u8 18),(1,.int .u8 19)] (.agg [Value.int .u8 18,.int .u8 19].toArray):=fun w=>by kernel_rfl
set_option maxHeartbeats 4000000 in
theorem streams_c {M:SsM}{ps:List Nat}{b:Nat}{c:Hp}(hM:SsAt M ps b c)(hs:Sub c G):
  Go.Sl.Fn Tryz.prog 25 #[.pointer (some ⟨b,0,none⟩)] B w0 G fun u G'=>u=.tuple #[.agg (M.strF.1.cells none 0).toArray,.bool M.strF.2]∧G'=G:=by
 refine Fn.pure ?_
 obtain⟨p,cm,cr0,cr1,cs,rfl,hMp,hR0,hR1,hS⟩:=hM
 have hs1:=hs.left
 have fo:=@FsM.one
 have fl:=@FsM.len
 refine fn_enter Tryz.func25 rfl (by kernel_rfl) Tryz.ntmps25 (by simp) ?_
 refine qs ?_
 refine ow_alloc rfl rfl Ty.ze82 fun b2=>qa<|qt<|cw_seq<|qs<|qm ?_
 refine qv (v_eql_nil_some Tryz.underlying35 rfl)<|qt ?_
 refine cw_false rfl<|cw_skip<|xw_then ?_
 refine cw_seq<|qs ?_
 refine qv (v_build rfl (b_kinds))<|qm<|qt ?_
 refine cw_block ?_
 refine cw_loop2 (ι:=(Int)) [(0,_),(2,_),(9,_)] ⟨rfl,rfl,rfl,trivial⟩ ((fun x=>[(10,.int .i64 x)])) ((fun x=>x=0∨(x=1∧¬M.k0.told<M.k0.giv)∨(x=2∧¬M.k0.told<M.k0.giv∧¬M.k1.told<M.k1.giv))) ((fun x=>(2-x).toNat)) ((fun _=>[(b2,.cells ((fs0 0).cells none 0).toArray 82 (0,0))]::G)) ((0:Int)) zenv zcov ?_ ?_
 ·exact .inl rfl
 rintro x (rfl|⟨rfl,h0⟩|⟨rfl,h0,h1⟩)
 ·refine cw_seq ?_
  refine cw_region ?_
  refine qv (v_lss rfl rfl)<|qt<|cw_seq ?_
  refine cw_true rfl<|cw_skip<|xw_then<|cw_seq ?_
  refine cw_block<|qs<|qm ?_
  refine ow_val rfl rfl ((v_indexA (i:=0) Tryz.underlying110 Ty.el110 Ty.sc76 rfl rfl rfl zom rfl)) ?_
  refine qa<|qa<|qt<|cw_seq ?_
  refine cw_quiet Ty.mixed zdk ?_
  refine kmv ?_
  refine kmv ?_
  refine kv (v_nilCheck rfl) ?_
  refine kv (v_fieldAddr0 Ty.fd73_10 rfl) ?_
  refine kv (v_indexAddrA Tryz.underlying71 Ty.el71 rfl rfl (Int.toNat_of_nonneg zom).symm zom) ?_
  refine kv (v_load rfl (Var.sub1 Ty.sc27 zthr (.head _) (GetN.lit rfl))) ?_
  refine kmv ?_
  refine kmv ?_
  refine kv (v_nilCheck rfl) ?_
  refine kv (v_fieldAddr0 Ty.fd73_11 rfl) ?_
  refine kv (v_indexAddrA Tryz.underlying71 Ty.el71 rfl rfl (Int.toNat_of_nonneg zom).symm zom) ?_
  refine kv (v_load rfl (Var.sub1 Ty.sc27 zthr (.head _) (GetN.lit rfl))) ?_
  refine kv (v_gtr rfl rfl) ?_
  refine kw_nil<|xw_then ?_
  refine cw_dec rfl (fun hc26=>?_) (fun hc26=>?_)
  refine qs<|qm<|qm<|qm<|qn ?_
  refine qf Ty.fd73_10 ?_
  refine qv (v_indexAddrA Tryz.underlying71 Ty.el71 rfl rfl (Int.toNat_of_nonneg zom).symm zom) ?_
  refine ql (Var.sub1 Ty.sc27 zthr (.head _) (GetN.lit rfl)) ?_
  refine qv (v_build rfl (b_fr2)) ?_
  refine ow_storeN rfl rfl rfl Ty.ag82 zra zao .here (SetN.all zsa) ?_
  refine qa<|qt ?_
  refine cw_ret ?_
  refine xw_block_ret ?_
  refine xw_then_ret ?_
  refine xw_round_ret ?_
  refine xw_block_ret ?_
  refine xw_then_ret ?_
  refine ret2 rfl (res_cell rfl (Var.atN Ty.ag82 .here GetN.all zra)) (res_tmp rfl) ?_
  rotate_left
  refine cw_skip ?_
  refine xw_block<|xw_then<|cw_region ?_
  refine qv (v_add rfl rfl (nw_i64 zom zom))<|qm<|ow_nil ?_
  rotate_left
  ·rw[SsM.strF_0 hc26]
   exact⟨rfl,zcov⟩
  ·exact xw_round 1 (.inr (.inl ⟨rfl,hc26⟩)) (by decide) zcov zenv
 ·refine cw_seq ?_
  refine cw_region ?_
  refine qv (v_lss rfl rfl)<|qt<|cw_seq ?_
  refine cw_true rfl<|cw_skip<|xw_then<|cw_seq ?_
  refine cw_block<|qs<|qm ?_
  refine ow_val rfl rfl ((v_indexA (i:=1) Tryz.underlying110 Ty.el110 Ty.sc76 rfl rfl rfl zom rfl)) ?_
  refine qa<|qa<|qt<|cw_seq ?_
  refine cw_quiet Ty.mixed zdk ?_
  refine kmv ?_
  refine kmv ?_
  refine kv (v_nilCheck rfl) ?_
  refine kv (v_fieldAddr0 Ty.fd73_10 rfl) ?_
  refine kv (v_indexAddrA Tryz.underlying71 Ty.el71 rfl rfl (Int.toNat_of_nonneg zom).symm zom) ?_
  refine kv (v_load rfl (Var.sub1 Ty.sc27 zthr (.head _) (GetN.lit rfl))) ?_
  refine kmv ?_
  refine kmv ?_
  refine kv (v_nilCheck rfl) ?_
  refine kv (v_fieldAddr0 Ty.fd73_11 rfl) ?_
  refine kv (v_indexAddrA Tryz.underlying71 Ty.el71 rfl rfl (Int.toNat_of_nonneg zom).symm zom) ?_
  refine kv (v_load rfl (Var.sub1 Ty.sc27 zthr (.head _) (GetN.lit rfl))) ?_
  refine kv (v_gtr rfl rfl) ?_
  refine kw_nil<|xw_then ?_
  refine cw_dec rfl (fun hc26=>?_) (fun hc26=>?_)
  refine qs<|qm<|qm<|qm<|qn ?_
  refine qf Ty.fd73_10 ?_
  refine qv (v_indexAddrA Tryz.underlying71 Ty.el71 rfl rfl (Int.toNat_of_nonneg zom).symm zom) ?_
  refine ql (Var.sub1 Ty.sc27 zthr (.head _) (GetN.lit rfl)) ?_
  refine qv (v_build rfl (b_fr2)) ?_
  refine ow_storeN rfl rfl rfl Ty.ag82 zra zao .here (SetN.all zsa) ?_
  refine qa<|qt ?_
  refine cw_ret ?_
  refine xw_block_ret ?_
  refine xw_then_ret ?_
  refine xw_round_ret ?_
  refine xw_block_ret ?_
  refine xw_then_ret ?_
  refine ret2 rfl (res_cell rfl (Var.atN Ty.ag82 .here GetN.all zra)) (res_tmp rfl) ?_
  rotate_left
  refine cw_skip ?_
  refine xw_block<|xw_then<|cw_region ?_
  refine qv (v_add rfl rfl (nw_i64 zom zom))<|qm<|ow_nil ?_
  rotate_left
  ·rw[SsM.strF_1 h0 hc26]
   exact⟨rfl,zcov⟩
  ·exact xw_round 2 (.inr (.inr ⟨rfl,h0,hc26⟩)) (by decide) zcov zenv
 ·refine cw_seq ?_
  refine cw_region ?_
  refine qv (v_lss rfl rfl)<|qt<|cw_seq ?_
  refine cw_false rfl ?_
  refine cw_exit ?_
  refine xw_then_exit ?_
  refine xw_round_exit ?_
  refine xw_block_exit<|xw_then<|qs ?_
  refine qv (v_build rfl (b_fr0)) ?_
  refine ow_storeN rfl rfl rfl Ty.ag82 zra zao .here (SetN.all zsa) ?_
  refine qa<|qt ?_
  refine cw_ret ?_
  refine ret2 rfl (res_cell rfl (Var.atN Ty.ag82 .here GetN.all zra)) (res_tmp rfl) ?_
  rw[SsM.strF_2 h0 h1]
  exact⟨rfl,zcov⟩
def KdM.sentK (n:KdM):KdM:={n with told:=n.giv}
def KdM.lostK (n:KdM):KdM:={n with told:=if 0<n.giv then min n.told (n.giv-1) else n.told}
def SsM.strS (M:SsM)(k:Int):SsM:=M.setK k (M.kn k).sentK
def SsM.strL (M:SsM)(k:Int):SsM:=M.setK k (M.kn k).lostK
theorem KdM.lostK_yes {n:KdM}(h:0<n.giv):n.lostK={n with told:=min n.told (n.giv-1)}:=by unfold KdM.lostK;rw[if_pos h]
theorem KdM.lostK_no {n:KdM}(h:¬0<n.giv):n.lostK=n:=by unfold KdM.lostK;rw[if_neg h]
theorem streamsSent_c {M:SsM}{ps:List Nat}{b:Nat}{c:Hp}{k:Int}(hsel:Sel G c R)(hM:SsAt M ps b c)(hk:k=0∨k=1):
  Go.Sl.Fn Tryz.prog 26 #[.pointer (some ⟨b,0,none⟩),.int .i64 k,.bool false] B w0 G fun u G'=>∃c':Hp,u=.tuple #[]∧SsAt (M.strS k) ps b c'∧G'=R c':=by
 refine Fn.sel0 hsel fun F hR hF=>?_
 obtain⟨p,cm,cr0,cr1,cs,rfl,hMp,hR0,hR1,hS⟩:=hM
 refine fn_enter Tryz.func26 rfl (by kernel_rfl) Tryz.ntmps26 (by simp) ?_
 refine cw_split ?_
 rcases hk with rfl|rfl
 ·refine cw_seq ?_
  refine qs ?_
  refine qm ?_
  refine qv (v_eql_nil_some Tryz.underlying35 rfl) ?_
  refine qm ?_
  refine qm ?_
  refine qv (v_lss rfl rfl) ?_
  refine qv (v_pick_false rfl rfl) ?_
  refine qm ?_
  refine ow_dec 12 rfl (fun hc12=>?_) (fun hc12=>?_)
  (exfalso;omega)
  refine qm ?_
  refine qv (v_gtr rfl rfl) ?_
  refine qv (v_pick_false rfl rfl) ?_
  refine qt ?_
  refine cw_false rfl ?_
  refine cw_skip ?_
  refine xw_then ?_
  refine qs ?_
  refine qm ?_
  refine qv (v_not_false rfl) ?_
  refine qt ?_
  refine cw_true rfl ?_
  refine cw_mix [] [11] [0,1,2,3,4,5,6,7,8,9,10] Ty.mixed rfl rfl rfl rfl zdk ?_
  refine hmv ?_
  refine hmv ?_
  refine hmv ?_
  refine hmv ?_
  refine hw_pure rfl rfl (v_nilCheck rfl) rfl ?_
  refine hw_pure rfl rfl (v_fieldAddr0 Ty.fd73_10 rfl) rfl ?_
  refine hw_pure rfl rfl (v_indexAddrA Tryz.underlying71 Ty.el71 rfl rfl (Int.toNat_of_nonneg zom).symm zom) rfl ?_
  refine hw_read rfl rfl rfl (v_load rfl (Var.at1 Ty.sc27 .here (GetN.lit rfl))) ?_
  refine hw_pure rfl rfl (v_nilCheck rfl) rfl ?_
  refine hw_pure rfl rfl (v_fieldAddr0 Ty.fd73_11 rfl) rfl ?_
  refine hw_pure rfl rfl (v_indexAddrA Tryz.underlying71 Ty.el71 rfl rfl (Int.toNat_of_nonneg zom).symm zom) rfl ?_
  refine hw_nil ?_
  refine sw_nil ?_
  refine ow_store1 rfl rfl rfl rfl Ty.sc27 .here (SetN.one zdn) ?_
  refine ow_nil ?_
  refine xw_np ?_
  refine ret0n rfl ?_
  exact⟨[(b,.cells ((M.cells p).set 26 (.int .u64 M.k0.giv)).toArray 73 (0,0))]++(cm++(cr0++(cr1++cs))),rfl,⟨p,cm,cr0,cr1,cs,rfl,hMp,hR0,hR1,hS⟩,zcov⟩
 ·refine cw_seq ?_
  refine qs ?_
  refine qm ?_
  refine qv (v_eql_nil_some Tryz.underlying35 rfl) ?_
  refine qm ?_
  refine qm ?_
  refine qv (v_lss rfl rfl) ?_
  refine qv (v_pick_false rfl rfl) ?_
  refine qm ?_
  refine ow_dec 12 rfl (fun hc12=>?_) (fun hc12=>?_)
  (exfalso;omega)
  refine qm ?_
  refine qv (v_gtr rfl rfl) ?_
  refine qv (v_pick_false rfl rfl) ?_
  refine qt ?_
  refine cw_false rfl ?_
  refine cw_skip ?_
  refine xw_then ?_
  refine qs ?_
  refine qm ?_
  refine qv (v_not_false rfl) ?_
  refine qt ?_
  refine cw_true rfl ?_
  refine cw_mix [] [11] [0,1,2,3,4,5,6,7,8,9,10] Ty.mixed rfl rfl rfl rfl zdk ?_
  refine hmv ?_
  refine hmv ?_
  refine hmv ?_
  refine hmv ?_
  refine hw_pure rfl rfl (v_nilCheck rfl) rfl ?_
  refine hw_pure rfl rfl (v_fieldAddr0 Ty.fd73_10 rfl) rfl ?_
  refine hw_pure rfl rfl (v_indexAddrA Tryz.underlying71 Ty.el71 rfl rfl (Int.toNat_of_nonneg zom).symm zom) rfl ?_
  refine hw_read rfl rfl rfl (v_load rfl (Var.at1 Ty.sc27 .here (GetN.lit rfl))) ?_
  refine hw_pure rfl rfl (v_nilCheck rfl) rfl ?_
  refine hw_pure rfl rfl (v_fieldAddr0 Ty.fd73_11 rfl) rfl ?_
  refine hw_pure rfl rfl (v_indexAddrA Tryz.underlying71 Ty.el71 rfl rfl (Int.toNat_of_nonneg zom).symm zom) rfl ?_
  refine hw_nil ?_
  refine sw_nil ?_
  refine ow_store1 rfl rfl rfl rfl Ty.sc27 .here (SetN.one zdn) ?_
  refine ow_nil ?_
  refine xw_np ?_
  refine ret0n rfl ?_
  exact⟨[(b,.cells ((M.cells p).set 27 (.int .u64 M.k1.giv)).toArray 73 (0,0))]++(cm++(cr0++(cr1++cs))),rfl,⟨p,cm,cr0,cr1,cs,rfl,hMp,hR0,hR1,hS⟩,zcov⟩
theorem streamsLost_c {M:SsM}{ps:List Nat}{b:Nat}{c:Hp}{k:Int}(hsel:Sel G c R)(hM:SsAt M ps b c)(hk:k=0∨k=1)(hg:(M.kn k).giv≤4611686018427387903):
  Go.Sl.Fn Tryz.prog 26 #[.pointer (some ⟨b,0,none⟩),.int .i64 k,.bool true] B w0 G fun u G'=>∃c':Hp,u=.tuple #[]∧SsAt (M.strL k) ps b c'∧G'=R c':=by
 refine Fn.sel0 hsel fun F hR hF=>?_
 obtain⟨p,cm,cr0,cr1,cs,rfl,hMp,hR0,hR1,hS⟩:=hM
 refine fn_enter Tryz.func26 rfl (by kernel_rfl) Tryz.ntmps26 (by simp) ?_
 refine cw_split ?_
 rcases hk with rfl|rfl
 ·have hg0:M.k0.giv≤4611686018427387903:=hg
  refine cw_seq ?_
  refine qs ?_
  refine qm ?_
  refine qv (v_eql_nil_some Tryz.underlying35 rfl) ?_
  refine qm ?_
  refine qm ?_
  refine qv (v_lss rfl rfl) ?_
  refine qv (v_pick_false rfl rfl) ?_
  refine qm ?_
  refine ow_dec 12 rfl (fun hc12=>?_) (fun hc12=>?_)
  (exfalso;omega)
  refine qm ?_
  refine qv (v_gtr rfl rfl) ?_
  refine qv (v_pick_false rfl rfl) ?_
  refine qt ?_
  refine cw_false rfl ?_
  refine cw_skip ?_
  refine xw_then ?_
  refine qs ?_
  refine qm ?_
  refine qv (v_not_true rfl) ?_
  refine qt ?_
  refine cw_false rfl ?_
  refine qs ?_
  refine qm ?_
  refine qm ?_
  refine qn ?_
  refine qf Ty.fd73_10 ?_
  refine qv (v_indexAddrA Tryz.underlying71 Ty.el71 rfl rfl (Int.toNat_of_nonneg zom).symm zom) ?_
  refine ql (Var.at1 Ty.sc27 .here (GetN.lit rfl)) ?_
  refine qv (v_gtr rfl rfl) ?_
  refine qt ?_
  refine cw_dec rfl (fun hc35=>?_) (fun hc35=>?_)
  refine cw_mix [] [19] [0,1,2,3,4,5,6,7,8,9,10,11,12,13,14,15,16,17,18] Ty.mixed rfl rfl rfl rfl zdk ?_
  refine hmv ?_
  refine hmv ?_
  refine hmv ?_
  refine hmv ?_
  refine hw_pure rfl rfl (v_nilCheck rfl) rfl ?_
  refine hw_pure rfl rfl (v_fieldAddr0 Ty.fd73_11 rfl) rfl ?_
  refine hw_pure rfl rfl (v_indexAddrA Tryz.underlying71 Ty.el71 rfl rfl (Int.toNat_of_nonneg zom).symm zom) rfl ?_
  refine hw_read rfl rfl rfl (v_load rfl (Var.at1 Ty.sc27 .here (GetN.lit rfl))) ?_
  refine hmv ?_
  refine hmv ?_
  refine hw_pure rfl rfl (v_nilCheck rfl) rfl ?_
  refine hw_pure rfl rfl (v_fieldAddr0 Ty.fd73_10 rfl) rfl ?_
  refine hw_pure rfl rfl (v_indexAddrA Tryz.underlying71 Ty.el71 rfl rfl (Int.toNat_of_nonneg zom).symm zom) rfl ?_
  refine hw_read rfl rfl rfl (v_load rfl (Var.at1 Ty.sc27 .here (GetN.lit rfl))) ?_
  refine hw_pure rfl rfl (v_sub rfl rfl (nw_u64 zom zom)) rfl ?_
  refine hw_pure rfl rfl (v_min rfl rfl) rfl ?_
  refine hw_pure rfl rfl (v_nilCheck rfl) rfl ?_
  refine hw_pure rfl rfl (v_fieldAddr0 Ty.fd73_11 rfl) rfl ?_
  refine hw_pure rfl rfl (v_indexAddrA Tryz.underlying71 Ty.el71 rfl rfl (Int.toNat_of_nonneg zom).symm zom) rfl ?_
  refine hw_nil ?_
  refine sw_nil ?_
  refine ow_store1 rfl rfl rfl rfl Ty.sc27 .here (SetN.one zdn) ?_
  refine ow_nil ?_
  refine xw_np ?_
  refine ret0n rfl ?_
  rotate_left
  refine cw_skip ?_
  refine ret0n rfl ?_
  rotate_left
  ·have e:M.strL 0={M with k0:={M.k0 with told:=min M.k0.told (M.k0.giv-1)}}:=by
    unfold SsM.strL
    rw[show M.kn 0=M.k0 from rfl,KdM.lostK_yes hc35]
    rfl
   rw[e]
   exact⟨[(b,.cells ((M.cells p).set 26 (.int .u64 (min M.k0.told (M.k0.giv-1)))).toArray 73 (0,0))]++(cm++(cr0++(cr1++cs))),rfl,⟨p,cm,cr0,cr1,cs,rfl,hMp,hR0,hR1,hS⟩,zcov⟩
  ·have e:M.strL 0=M:=by
    unfold SsM.strL
    rw[show M.kn 0=M.k0 from rfl,KdM.lostK_no hc35]
    rfl
   rw[e]
   exact⟨[(b,.cells (M.cells p).toArray 73 (0,0))]++(cm++(cr0++(cr1++cs))),rfl,⟨p,cm,cr0,cr1,cs,rfl,hMp,hR0,hR1,hS⟩,zcov⟩
 ·have hg0:M.k1.giv≤4611686018427387903:=hg
  refine cw_seq ?_
  refine qs ?_
  refine qm ?_
  refine qv (v_eql_nil_some Tryz.underlying35 rfl) ?_
  refine qm ?_
  refine qm ?_
  refine qv (v_lss rfl rfl) ?_
  refine qv (v_pick_false rfl rfl) ?_
  refine qm ?_
  refine ow_dec 12 rfl (fun hc12=>?_) (fun hc12=>?_)
  (exfalso;omega)
  refine qm ?_
  refine qv (v_gtr rfl rfl) ?_
  refine qv (v_pick_false rfl rfl) ?_
  refine qt ?_
  refine cw_false rfl ?_
  refine cw_skip ?_
  refine xw_then ?_
  refine qs ?_
  refine qm ?_
  refine qv (v_not_true rfl) ?_
  refine qt ?_
  refine cw_false rfl ?_
  refine qs ?_
  refine qm ?_
  refine qm ?_
  refine qn ?_
  refine qf Ty.fd73_10 ?_
  refine qv (v_indexAddrA Tryz.underlying71 Ty.el71 rfl rfl (Int.toNat_of_nonneg zom).symm zom) ?_
  refine ql (Var.at1 Ty.sc27 .here (GetN.lit rfl)) ?_
  refine qv (v_gtr rfl rfl) ?_
  refine qt ?_
  refine cw_dec rfl (fun hc35=>?_) (fun hc35=>?_)
  refine cw_mix [] [19] [0,1,2,3,4,5,6,7,8,9,10,11,12,13,14,15,16,17,18] Ty.mixed rfl rfl rfl rfl zdk ?_
  refine hmv ?_
  refine hmv ?_
  refine hmv ?_
  refine hmv ?_
  refine hw_pure rfl rfl (v_nilCheck rfl) rfl ?_
  refine hw_pure rfl rfl (v_fieldAddr0 Ty.fd73_11 rfl) rfl ?_
  refine hw_pure rfl rfl (v_indexAddrA Tryz.underlying71 Ty.el71 rfl rfl (Int.toNat_of_nonneg zom).symm zom) rfl ?_
  refine hw_read rfl rfl rfl (v_load rfl (Var.at1 Ty.sc27 .here (GetN.lit rfl))) ?_
  refine hmv ?_
  refine hmv ?_
  refine hw_pure rfl rfl (v_nilCheck rfl) rfl ?_
  refine hw_pure rfl rfl (v_fieldAddr0 Ty.fd73_10 rfl) rfl ?_
  refine hw_pure rfl rfl (v_indexAddrA Tryz.underlying71 Ty.el71 rfl rfl (Int.toNat_of_nonneg zom).symm zom) rfl ?_
  refine hw_read rfl rfl rfl (v_load rfl (Var.at1 Ty.sc27 .here (GetN.lit rfl))) ?_
  refine hw_pure rfl rfl (v_sub rfl rfl (nw_u64 zom zom)) rfl ?_
  refine hw_pure rfl rfl (v_min rfl rfl) rfl ?_
  refine hw_pure rfl rfl (v_nilCheck rfl) rfl ?_
  refine hw_pure rfl rfl (v_fieldAddr0 Ty.fd73_11 rfl) rfl ?_
  refine hw_pure rfl rfl (v_indexAddrA Tryz.underlying71 Ty.el71 rfl rfl (Int.toNat_of_nonneg zom).symm zom) rfl ?_
  refine hw_nil ?_
  refine sw_nil ?_
  refine ow_store1 rfl rfl rfl rfl Ty.sc27 .here (SetN.one zdn) ?_
  refine ow_nil ?_
  refine xw_np ?_
  refine ret0n rfl ?_
  rotate_left
  refine cw_skip ?_
  refine ret0n rfl ?_
  rotate_left
  ·have e:M.strL 1={M with k1:={M.k1 with told:=min M.k1.told (M.k1.giv-1)}}:=by
    unfold SsM.strL
    rw[show M.kn 1=M.k1 from rfl,KdM.lostK_yes hc35]
    rfl
   rw[e]
   exact⟨[(b,.cells ((M.cells p).set 27 (.int .u64 (min M.k1.told (M.k1.giv-1)))).toArray 73 (0,0))]++(cm++(cr0++(cr1++cs))),rfl,⟨p,cm,cr0,cr1,cs,rfl,hMp,hR0,hR1,hS⟩,zcov⟩
  ·have e:M.strL 1=M:=by
    unfold SsM.strL
    rw[show M.kn 1=M.k1 from rfl,KdM.lostK_no hc35]
    rfl
   rw[e]
   exact⟨[(b,.cells (M.cells p).toArray 73 (0,0))]++(cm++(cr0++(cr1++cs))),rfl,⟨p,cm,cr0,cr1,cs,rfl,hMp,hR0,hR1,hS⟩,zcov⟩
end Go.Proofs.YtnlaffkihohfkaaGreat
namespace Go.Proofs.YtnlaffkihohfkaaGreat
open Go
theorem bang {d:Array Int}{i:Nat}(h:i<d.size):d[i]! =d.toList[i]'(by simpa using h):=by
 simp[getElem!_def,h]
theorem bangD {d:Array Int}{i j:Nat}(h:j<d.toList.length)(he:j=i):d.toList[j]=d[i]!:=by
 subst he
 exact(bang (by simpa using h)).symm
theorem swp_toList {d:Array Int}{i j:Nat}:(Sort.swp d i j).toList=(d.toList.set i d[j]!).set j d[i]!:=by
 simp[Sort.swp]
theorem swp_sz {d:Array Int}{i j:Nat}:(Sort.swp d i j).size=d.size:=by simp[Sort.swp]
theorem ins_go {a j:Nat}{d:Array Int}(h1:a<j+1)(h2:d[j+1]!<d[j]!):Sort.insInner Sort.ltInt a (j+1) d=Sort.insInner Sort.ltInt a j (Sort.swp d (j+1) j):=by
 rw[Sort.insInner,if_pos (by simp[Sort.ltInt,h2];omega)]
theorem ins_stop {a j:Nat}{d:Array Int}(h:¬(a<j∧d[j]!<d[j-1]!)):Sort.insInner Sort.ltInt a j d=d:=by
 cases j with
 |zero=>rfl
 |succ j=>
  rw[Sort.insInner,if_neg]
  simp only[Sort.ltInt,Bool.and_eq_true,decide_eq_true_eq]
  simpa using h
theorem insO_go {a b i:Nat}{d:Array Int}(h:i<b):Sort.insOuter Sort.ltInt a b i d=Sort.insOuter Sort.ltInt a b (i+1) (Sort.insInner Sort.ltInt a i d):=by
 rw[Sort.insOuter,if_pos h]
theorem insO_stop {a b i:Nat}{d:Array Int}(h:¬i<b):Sort.insOuter Sort.ltInt a b i d=d:=by
 rw[Sort.insOuter,if_neg h]
theorem swpL {d:Array Int}{i j i' j':Nat}{x y:Int}(hx:x=d[j']!)(hy:y=d[i']!)(hi:i=i')(hj:j=j'):(d.toList.set i x).set j y=(Sort.swp d i' j').toList:=by
 subst hx hy hi hj
 exact swp_toList.symm
theorem siftDown_stop {hi f r:Nat}{d:Array Int}(h:hi≤2*r+1):Sort.siftDown Sort.ltInt hi f r d=d:=by
 rw[Sort.siftDown,dif_pos h]
def kid (hi f r:Nat)(d:Array Int):Nat:=if 2*r+2<hi∧d[f+(2*r+1)]!<d[f+(2*r+1)+1]! then 2*r+2 else 2*r+1
theorem kid_lt {hi f r:Nat}{d:Array Int}(h:2*r+1<hi):2*r+1≤kid hi f r d∧kid hi f r d<hi∧kid hi f r d≤2*r+2:=by
 unfold kid
 split<;>omega
theorem kid_iff {hi f r:Nat}{d:Array Int}(h:2*r+2<hi):d[f+(2*r+1)]!<d[f+(2*r+1)+1]!↔kid hi f r d=2*r+2:=by
 unfold kid
 constructor
 ·intro h1
  rw[if_pos ⟨h,h1⟩]
 ·intro h1
  by_cases h2:2*r+2<hi∧d[f+(2*r+1)]!<d[f+(2*r+1)+1]!
  ·exact h2.2
  ·rw[if_neg h2]at h1
   omega
theorem kid_no {hi f r:Nat}{d:Array Int}(h:¬2*r+2<hi):kid hi f r d≠2*r+2:=by
 unfold kid
 rw[if_neg fun h1=>h h1.1]
 omega
theorem siftDown_go {hi f r:Nat}{d:Array Int}(h:2*r+1<hi):Sort.siftDown Sort.ltInt hi f r d=
  if d[f+r]!<d[f+kid hi f r d]! then Sort.siftDown Sort.ltInt hi f (kid hi f r d) (Sort.swp d (f+r) (f+kid hi f r d)) else d:=by
 rw[Sort.siftDown,dif_neg (by omega)]
 unfold kid
 by_cases h1:2*r+2<hi∧d[f+(2*r+1)]!<d[f+(2*r+1)+1]!
 ·rw[if_pos h1,if_pos (by simp[Sort.ltInt];exact⟨h1.1,h1.2⟩)]
  by_cases h2:d[f+r]!<d[f+(2*r+2)]!
  ·rw[if_neg (by simp[Sort.ltInt,h2]),dif_pos h1.1,if_pos h2]
  ·rw[if_pos (by simpa [Sort.ltInt] using h2),if_neg h2]
 ·rw[if_neg h1,if_neg (by simp only[Sort.ltInt,Bool.and_eq_true,decide_eq_true_eq];exact h1)]
  by_cases h2:d[f+r]!<d[f+(2*r+1)]!
  ·rw[if_neg (by simp[Sort.ltInt,h2]),if_pos h2]
  ·rw[if_pos (by simpa [Sort.ltInt] using h2),if_neg h2]
theorem siftDown_sz:∀{m hi f r:Nat} {d:Array Int},hi-r≤m→(Sort.siftDown Sort.ltInt hi f r d).size=d.size
 |0,hi,f,r,d,h=>by rw[siftDown_stop (by omega)]
 |m+1,hi,f,r,d,h=>by
  by_cases h1:hi≤2*r+1
  ·rw[siftDown_stop h1]
  ·rw[siftDown_go (by omega)]
   have h2:=kid_lt (f:=f) (d:=d) (show 2*r+1<hi by omega)
   split
   ·rw[siftDown_sz (m:=m) (by omega),swp_sz]
   ·rfl
theorem siftDown_size {hi f r:Nat}{d:Array Int}:(Sort.siftDown Sort.ltInt hi f r d).size=d.size:=siftDown_sz (Nat.le_refl _)
theorem revLoop_go {i j:Nat}{d:Array Int}(h:i<j):Sort.reverseLoop i j d=Sort.reverseLoop (i+1) (j-1) (Sort.swp d i j):=by
 rw[Sort.reverseLoop,if_pos h]
theorem revLoop_stop {i j:Nat}{d:Array Int}(h:¬i<j):Sort.reverseLoop i j d=d:=by
 rw[Sort.reverseLoop,if_neg h]
theorem scanUp_go {p:Int→Bool}{d:Array Int}{i j:Nat}(h1:i≤j)(h2:p d[i]! =true):Sort.scanUp p d j i=Sort.scanUp p d j (i+1):=by
 rw[Sort.scanUp,if_pos (by simp[h1,h2])]
theorem scanUp_stop {p:Int→Bool}{d:Array Int}{i j:Nat}(h:¬(i≤j∧p d[i]! =true)):Sort.scanUp p d j i=i:=by
 rw[Sort.scanUp,if_neg (by simpa using h)]
theorem scanDown_go {p:Int→Bool}{d:Array Int}{i j:Nat}(hj:0<j)(h1:i≤j)(h2:p d[j]! =true):Sort.scanDown p d i j=Sort.scanDown p d i (j-1):=by
 obtain⟨k,rfl⟩:∃k,j=k+1:=⟨j-1,by omega⟩
 rw[Sort.scanDown,if_pos (by simp[h1,h2])]
 rfl
theorem scanDown_stop {p:Int→Bool}{d:Array Int}{i j:Nat}(hi:0<i)(h:¬(i≤j∧p d[j]! =true)):Sort.scanDown p d i j=j:=by
 cases j with
 |zero=>rfl
 |succ k=>rw[Sort.scanDown,if_neg (by simpa using h)]
theorem scanSorted_go {d:Array Int}{b i:Nat}(h1:i<b)(h2:¬d[i]!<d[i-1]!):Sort.scanSorted Sort.ltInt d b i=Sort.scanSorted Sort.ltInt d b (i+1):=by
 rw[Sort.scanSorted,if_pos (by simpa [h1,Sort.ltInt] using h2)]
theorem scanSorted_stop {d:Array Int}{b i:Nat}(h:¬(i<b∧¬d[i]!<d[i-1]!)):Sort.scanSorted Sort.ltInt d b i=i:=by
 rw[Sort.scanSorted,if_neg (by simpa [Sort.ltInt] using h)]
theorem shiftDown_go {d:Array Int}{j:Nat}(hj:0<j)(h:d[j]!<d[j-1]!):Sort.shiftDown Sort.ltInt j d=Sort.shiftDown Sort.ltInt (j-1) (Sort.swp d j (j-1)):=by
 obtain⟨k,rfl⟩:∃k,j=k+1:=⟨j-1,by omega⟩
 rw[Nat.add_sub_cancel]at *
 rw[Sort.shiftDown,if_neg (by simp[Sort.ltInt,h])]
theorem shiftDown_stop {d:Array Int}{j:Nat}(h:¬(0<j∧d[j]!<d[j-1]!)):Sort.shiftDown Sort.ltInt j d=d:=by
 cases j with
 |zero=>rfl
 |succ k=>rw[Sort.shiftDown,if_pos (by simpa [Sort.ltInt] using h)]
theorem shiftUp_go {d:Array Int}{b j:Nat}(hj:j<b)(h:d[j]!<d[j-1]!):Sort.shiftUp Sort.ltInt b j d=Sort.shiftUp Sort.ltInt b (j+1) (Sort.swp d j (j-1)):=by
 rw[Sort.shiftUp,if_pos hj,if_neg (by simp[Sort.ltInt,h])]
theorem shiftUp_stop {d:Array Int}{b j:Nat}(h:¬(j<b∧d[j]!<d[j-1]!)):Sort.shiftUp Sort.ltInt b j d=d:=by
 rw[Sort.shiftUp]
 by_cases h1:j<b
 ·rw[if_pos h1,if_pos (by simpa [Sort.ltInt,h1] using h)]
 ·rw[if_neg h1]
theorem part_eq {d d1:Array Int}{a b pivot i j:Nat}(h1:d1=Sort.swp d a pivot)(hi:Sort.scanUp (fun x=>Sort.ltInt x d1[a]!) d1 (b-1) (a+1)=i)(hj:Sort.scanDown (fun x=>!Sort.ltInt x d1[a]!) d1 i (b-1)=j):
  Sort.partition Sort.ltInt d a b pivot=if i>j then (j,true,Sort.swp d1 j a) else ((Sort.partLoop Sort.ltInt a (i+1) (j-1) (Sort.swp d1 i j)).1,false,Sort.swp (Sort.partLoop Sort.ltInt a (i+1) (j-1) (Sort.swp d1 i j)).2 (Sort.partLoop Sort.ltInt a (i+1) (j-1) (Sort.swp d1 i j)).1 a):=by
 subst h1 hi hj
 rfl
theorem partL_eq {d:Array Int}{a i j i2 j2:Nat}(hi:Sort.scanUp (fun x=>Sort.ltInt x d[a]!) d j i=i2)(hj:Sort.scanDown (fun x=>!Sort.ltInt x d[a]!) d i2 j=j2):
  Sort.partLoop Sort.ltInt a i j d=if i2>j2 then (j2,d) else Sort.partLoop Sort.ltInt a (i2+1) (j2-1) (Sort.swp d i2 j2):=by
 subst hi hj
 exact Sort.partLoop_eq Sort.ltInt a i j d
theorem partE_eq {d:Array Int}{a i j i2 j2:Nat}(hi:Sort.scanUp (fun x=>!Sort.ltInt d[a]! x) d j i=i2)(hj:Sort.scanDown (fun x=>Sort.ltInt d[a]! x) d i2 j=j2):
  Sort.partEqLoop Sort.ltInt a i j d=if i2>j2 then (i2,d) else Sort.partEqLoop Sort.ltInt a (i2+1) (j2-1) (Sort.swp d i2 j2):=by
 subst hi hj
 exact Sort.partEqLoop_eq Sort.ltInt a i j d
theorem pIns_eq {d d1 d2:Array Int}{a b s i k:Nat}(hk:Sort.scanSorted Sort.ltInt d b i=k)(h1:d1=if k-a≥2 then Sort.shiftDown Sort.ltInt (k-1) (Sort.swp d k (k-1)) else Sort.swp d k (k-1))(h2:d2=if b-k≥2 then Sort.shiftUp Sort.ltInt b (k+1) d1 else d1):
  Sort.partialIns Sort.ltInt a b (s+1) i d=if k=b then (d,true) else if b-a<50 then (d,false) else Sort.partialIns Sort.ltInt a b s k d2:=by
 subst hk h1 h2
 rfl
theorem len8_all:(List.range 256).all (fun i=>decide (i<2 ^ (Lib.len8 i).toNat)&&(decide (i=0)||decide (2 ^ (Lib.len8 i).toNat≤2*i))&&decide (0≤Lib.len8 i)&&decide (Lib.len8 i≤8))=true:=by decide+kernel
theorem len8_spec {i:Nat}(h:i<256):i<2 ^ (Lib.len8 i).toNat∧(0<i→2 ^ (Lib.len8 i).toNat≤2*i)∧0≤Lib.len8 i∧Lib.len8 i≤8:=by
 have h1:=(List.all_eq_true.1 len8_all) i (List.mem_range.2 h)
 simp only[Bool.and_eq_true,Bool.or_eq_true,decide_eq_true_eq]at h1
 obtain⟨⟨⟨h2,h3⟩,h4⟩,h5⟩:=h1
 exact⟨h2,fun hp=>h3.resolve_left (by omega),h4,h5⟩
theorem v_len8 {P:Program}{S:World→Prop}{N:Nat}{E:Sl.Env}{T ty:TypeId}{x y:Operand}{i:Int}(hT:P.underlying T=some .string)(hx:Sl.Env.ev E x=some (.string Lib.len8tab))(hy:Sl.Env.ev E y=some (.int .u8 i))(h0:0≤i)(h1:i≤255):
  Sl.OpV P S N E (.index T x y) ty (.int .u8 (Lib.len8 i)):=fun a w ha _=>by
 have h:=Lib.run_index_len8tab (P:=P) w T .u8 i hT h0 h1
 simp[execOp,ha.ev hx,ha.ev hy,h,Oper.quietUpon]
def BitLen (n L:Nat):Prop:=n<2 ^ L∧(0<n→2 ^ L≤2*n)∧L≤16
theorem bitLen_lo {n:Nat}(h2:n<256):BitLen n (Lib.len8 n).toNat:=by
 obtain⟨h3,h4,h5,h6⟩:=len8_spec h2
 exact⟨h3,h4,by omega⟩
theorem bitLen_hi {n:Nat}(h:256≤n)(h2:n<65536):BitLen n (8+(Lib.len8 ((n/256:Nat):Int)).toNat):=by
 obtain⟨h3,h4,h5,h6⟩:=len8_spec (i:=n/256) (by omega)
 have h7:=h4 (by omega)
 unfold BitLen
 rw[Nat.pow_add]
 generalize 2 ^ (Lib.len8 ((n/256:Nat):Int)).toNat=p at *
 exact⟨by omega,by omega,by omega⟩
theorem perm_all {l:List Int}{d:Array Int}(h:Sort.PermIn 0 l.length l.toArray d):d.toList.Perm l:=by
 have h1:=h.2.2
 have hs:d.size=l.length:=by simpa using h.1
 have e1:d.extract 0 l.length=d:=by rw[←hs];simp
 have e2:l.toArray.extract 0 l.length=l.toArray:=by simp
 rw[e1,e2]at h1
 simpa using h1
theorem sorted_all {l:List Int}{d:Array Int}(hs:d.size=l.toArray.size)(h:Sort.SortedIn Sort.ltInt 0 l.length d):d.toList.Pairwise (· ≤·):=by
 rw[List.pairwise_iff_getElem]
 intro i j hi hj hij
 have hl:d.size=l.length:=by simpa using hs
 have h1:=h i j (Nat.zero_le _) hij (by rw[Array.length_toList]at hj;omega)
 rw[←bangD hi rfl,←bangD hj rfl]at h1
 simpa [Sort.ltInt] using h1
end Go.Proofs.YtnlaffkihohfkaaGreat
namespace Go.Proofs.YtnlaffkihohfkaaGreat
open Go Go.Sl Go.Proofs
variable {B:Nat}{w0:World}{G:List Hp}{R:Hp→List Hp}
end Go.Proofs.YtnlaffkihohfkaaGreat
namespace Go.Proofs.YtnlaffkihohfkaaGreat
open Go Go.Sl Go.Proofs
variable {B:Nat}{w0:World}{G:List Hp}{R:Hp→List Hp}
theorem isNaNQ_c {x:Int}:Go.Sl.Fn Tryz.prog 123 #[.int .u64 x] B w0 G fun u G'=>u=.bool false∧G'=G:=by
 refine Fn.pure ?_
 refine fn_enter Tryz.func123 rfl (by kernel_rfl) Tryz.ntmps123 (by simp) ?_
 refine qs<|qa<|qt<|qs<|qm<|qm<|qv (v_neq rfl rfl)<|qa<|qt<|cw_ret<|ret1 rfl (res_tmp rfl) ?_
 rw[decide_eq_false (fun h=>h rfl:¬(x≠x))]
 exact⟨rfl,zcov⟩
theorem lessQ_c {x y:Int}:Go.Sl.Fn Tryz.prog 100 #[.int .u64 x,.int .u64 y] B w0 G fun u G'=>u=.bool (decide (x<y))∧G'=G:=by
 refine Fn.pure ?_
 refine fn_enter Tryz.func100 rfl (by kernel_rfl) Tryz.ntmps100 (by simp) ?_
 refine qs<|qa<|qt<|qs<|qm<|qv (v_call rfl rfl (isNaNQ_c))<|qm<|qk<|qk<|qk<|qv (v_pick_false rfl rfl)<|qm ?_
 refine qm<|qm<|qv (v_lss rfl rfl)<|qv (v_pick_false rfl rfl)<|qa<|qt<|cw_ret<|ret1 rfl (res_tmp rfl) ?_
 exact⟨rfl,zcov⟩
set_option maxHeartbeats 4000000 in
theorem insertionQ_c {ao:Option Addr}{n cap a b:Nat}{c:Hp}{d:Array Int}(hsel:Sel G c R)(hL:Ls enQ 27 (.slice ao n cap) c d.toList)(hab:a≤b)(hb:b≤d.size)(hn:d.size≤1000000):
  Go.Sl.Fn Tryz.prog 94 #[.slice ao n cap,.int .i64 a,.int .i64 b] B w0 G fun u G'=>∃c':Hp,u=.tuple #[]∧Ls enQ 27 (.slice ao n cap) c' (Sort.insertionSort Sort.ltInt d a b).toList∧G'=R c':=by
 refine Fn.sel0 hsel fun F hR hF=>?_
 have hl:=hL.len
 have hok:=hL.ok
 rw[Array.length_toList]at hl
 subst hl
 unfold Sort.insertionSort
 refine fn_enter Tryz.func94 rfl (by kernel_rfl) Tryz.ntmps94 (by simp) ?_
 refine qs<|qm ?_
 refine qv (v_add rfl rfl (nw_i64 zom zom))<|qa<|qt ?_
 refine cw_block ?_
 refine cw_loop2 (ι:=((Nat×Array Int×Hp))) [(0,_),(1,_),(2,_)] ⟨rfl,rfl,rfl,trivial⟩ ((fun x=>[(6,.int .i64 x.1)])) ((fun x=>a<x.1∧x.1≤max (a+1) b∧x.2.1.size=d.size∧Sort.insOuter Sort.ltInt a b x.1 x.2.1=Sort.insOuter Sort.ltInt a b (a+1) d∧Ls enQ 27 (.slice ao d.size cap) x.2.2 x.2.1.toList)) ((fun x=>max (a+1) b-x.1)) ((fun x=>x.2.2::F)) (((a+1,d,c):Nat×Array Int×Hp)) zenv zcov ?_ ?_
 ·exact⟨Nat.lt_succ_self _,Nat.le_max_left ..,rfl,rfl,hL⟩
 rintro⟨i,d1,c1⟩ ⟨hi,hi2,hsz,he,hL1⟩
 dsimp only at hi hi2 hsz he hL1⊢
 refine cw_seq<|qs<|qm<|qm ?_
 refine qv (v_lss rfl rfl)<|qt ?_
 refine cw_dec rfl (fun hc12=>?_) (fun hc12=>?_)
 refine cw_skip<|xw_then<|cw_seq ?_
 refine cw_block<|qs<|qm<|qa<|qt ?_
 refine cw_block ?_
 rotate_left
 refine cw_exit ?_
 refine xw_then_exit ?_
 refine xw_round_exit ?_
 refine xw_block_exit ?_
 refine ret0n rfl ?_
 rotate_left
 ·skip
  refine cw_loop2 (ι:=((Nat×Array Int×Hp))) [(0,_),(1,_),(2,_),(6,_)] ⟨rfl,rfl,rfl,rfl,trivial⟩ ((fun x=>[(7,.int .i64 x.1)])) ((fun x=>a≤x.1∧x.1≤i∧x.2.1.size=d.size∧Sort.insInner Sort.ltInt a x.1 x.2.1=Sort.insInner Sort.ltInt a i d1∧Ls enQ 27 (.slice ao d.size cap) x.2.2 x.2.1.toList)) ((fun x=>x.1)) ((fun x=>x.2.2::F)) (((i,d1,c1):Nat×Array Int×Hp)) zenv zcov ?_ ?_
  ·exact⟨Nat.le_of_lt hi,Nat.le_refl _,hsz,rfl,hL1⟩
  rintro⟨j,d2,c2⟩ ⟨hj,hj2,hsz2,he2,hL2⟩
  dsimp only at hj hj2 hsz2 he2 hL2⊢
  have hl2:d2.toList.length=d.size:=by rw[Array.length_toList];exact hsz2
  refine cw_seq<|cw_seq ?_
  refine cw_quiet Ty.mixed zdk ?_
  refine kmv ?_
  refine kmv ?_
  refine kv (v_gtr rfl rfl) ?_
  refine kmv ?_
  refine kw_dec 19 rfl (fun hc19=>?_) (fun hc19=>?_)
  refine kmv ?_
  refine kmv ?_
  refine kw_val rfl rfl (v_indexAddr_ls Tryz.underlying34 (qTy) rfl rfl zas rfl zom) ?_
  refine kv (v_load rfl (Go.Sl.Vw.var (qTy) ((hL2.vw zhas)) zom)) ?_
  refine kmv ?_
  refine kmv ?_
  refine kv (v_sub rfl rfl (nw_i64 zom zom)) ?_
  refine kw_val rfl rfl (v_indexAddr_ls Tryz.underlying34 (qTy) rfl rfl zas (Int.toNat_of_nonneg zom).symm zom) ?_
  refine kv (v_load rfl (Go.Sl.Vw.var (qTy) ((hL2.vw zhas)) zom)) ?_
  refine kv (v_call rfl rfl (lessQ_c)) ?_
  refine kv (v_pick_true rfl rfl) ?_
  refine kw_nil<|xw_then ?_
  refine cw_dec rfl (fun hc30=>?_) (fun hc30=>?_)
  refine cw_skip<|xw_then ?_
  rotate_left
  refine cw_exit ?_
  refine xw_then_exit ?_
  refine xw_round_exit ?_
  refine xw_block_exit ?_
  refine xw_block<|xw_then<|cw_region<|qm ?_
  refine qv (v_add rfl rfl (nw_i64 zom zom))<|qa<|ow_nil ?_
  rotate_left
  refine kk ?_
  refine kk ?_
  refine kk ?_
  refine kk ?_
  refine kk ?_
  refine kk ?_
  refine kk ?_
  refine kk ?_
  refine kk ?_
  refine kk ?_
  refine kv (v_pick_false rfl rfl) ?_
  refine kw_nil ?_
  refine xw_then ?_
  refine cw_false rfl ?_
  refine cw_exit ?_
  refine xw_then_exit ?_
  refine xw_round_exit ?_
  refine xw_block_exit ?_
  refine xw_block<|xw_then<|cw_region<|qm ?_
  refine qv (v_add rfl rfl (nw_i64 zom zom))<|qa ?_
  refine ow_nil ?_
  rotate_left
  ·have hone:∀x∈d2.toList,∀u∈enQ.f x,u.oneCell'=true:=fun x hx=>qTy.one x (hL2.ok x hx)
   refine cw_seq ?_
   refine cw_block ?_
   refine cw_mix [] [15,16,17] [0,1,2,3,4,5,6,7,8,9,10,11,12,13,14] Ty.mixed rfl rfl rfl rfl zdk ?_
   refine hmv ?_
   refine hmv ?_
   refine hmv ?_
   refine hmv ?_
   refine hw_pure rfl rfl (v_sub rfl rfl (nw_i64 zom zom)) rfl ?_
   refine hmv ?_
   refine hmv ?_
   refine hw_pure rfl rfl (v_sub rfl rfl (nw_i64 zom zom)) rfl ?_
   refine hw_pure rfl rfl (v_indexAddr_ls Tryz.underlying34 (qTy) rfl rfl zas (Int.toNat_of_nonneg zom).symm zom) rfl ?_
   refine hw_read rfl rfl rfl (v_load rfl (Go.Sl.Vw.var (qTy) ((hL2.vw zhas)) zom)) ?_
   refine hmv ?_
   refine hmv ?_
   refine hw_pure rfl rfl (v_indexAddr_ls Tryz.underlying34 (qTy) rfl rfl zas rfl zom) rfl ?_
   refine hw_read rfl rfl rfl (v_load rfl (Go.Sl.Vw.var (qTy) ((hL2.vw zhas)) zom)) ?_
   refine hw_pure rfl rfl (v_indexAddr_ls Tryz.underlying34 (qTy) rfl rfl zas rfl zom) rfl ?_
   refine hw_nil ?_
   refine sw_nil ?_
   refine ow_storeL (i:=j) (a:=d2.toList[((j:Int)-1).toNat]'zom) rfl rfl rfl qTy hL2 zsel zom (hL2.ok _ (List.getElem_mem _)) ?_
   intro csa hLsa
   have hlsa:(d2.toList.set j (d2.toList[((j:Int)-1).toNat]'zom)).length=d2.toList.length:=List.length_set
   refine ow_val rfl rfl (v_indexAddr_ls Tryz.underlying34 (qTy) rfl rfl zas (Int.toNat_of_nonneg zom).symm zom) ?_
   refine ow_storeL (i:=((j:Int)-1).toNat) (a:=d2.toList[j]'zom) rfl rfl rfl qTy hLsa zsel (by rw[List.length_set];omega) (hL2.ok _ (List.getElem_mem _)) ?_
   intro cs hLs
   rw[swpL (i':=j) (j':=j-1) (bangD _ zom) (bangD _ zom) zom zom]at hLs
   refine ow_nil ?_
   refine xw_np ?_
   refine xw_block<|xw_then<|cw_region<|qm ?_
   refine qv (v_sub rfl rfl (nw_i64 zom zom))<|qa<|ow_nil ?_
   refine xw_round ((j-1,Sort.swp d2 j (j-1),cs):Nat×Array Int×Hp) ⟨by dsimp only;omega,by dsimp only;omega,by dsimp only;rw[swp_sz];exact hsz2,?_,hLs⟩ zdo zcov (by repeat (first|exact True.intro|refine And.intro rfl ?_|refine And.intro (congrArg (fun z:Int=>some (Value.int IntKind.i64 z)) (by (try dsimp only);omega)) ?_))
   dsimp only
   rw[bangD (i:=j) _ rfl,bangD (i:=j-1) _ zom]at hc30
   rw[←he2]
   obtain⟨j',rfl⟩:∃j',j=j'+1:=⟨j-1,by omega⟩
   exact(ins_go zom hc30).symm
  ·refine xw_round ((i+1,d2,c2):Nat×Array Int×Hp) ⟨by dsimp only;omega,by dsimp only;omega,hsz2,?_,hL2⟩ zdo zcov zenv
   dsimp only
   rw[bangD (i:=j) _ rfl,bangD (i:=j-1) _ zom]at hc30
   rw[←he,insO_go (i:=i) zom,←he2,ins_stop (fun h=>hc30 h.2)]
  ·refine xw_round ((i+1,d2,c2):Nat×Array Int×Hp) ⟨by dsimp only;omega,by dsimp only;omega,hsz2,?_,hL2⟩ zdo zcov zenv
   dsimp only
   rw[←he,insO_go (i:=i) zom,←he2,ins_stop (fun h=>by have:=h.1;omega)]
 ·rw[insO_stop zom]at he
  rw[←he]
  exact⟨c1,rfl,hL1,zcov⟩
end Go.Proofs.YtnlaffkihohfkaaGreat
namespace Go.Proofs.YtnlaffkihohfkaaGreat
open Go Go.Sl Go.Proofs
variable {B:Nat}{w0:World}{G:List Hp}{R:Hp→List Hp}
set_option maxHeartbeats 4000000 in
theorem siftQ_c {ao:Option Addr}{n cap lo hi first:Nat}{c:Hp}{d:Array Int}{xl xh xf:Int}(hxl:xl=lo)(hxh:xh=hi)(hxf:xf=first)(hsel:Sel G c R)(hL:Ls enQ 27 (.slice ao n cap) c d.toList)(hlo:lo≤hi)(hb:first+hi≤d.size)(hn:d.size≤1000000):
  Go.Sl.Fn Tryz.prog 118 #[.slice ao n cap,.int .i64 xl,.int .i64 xh,.int .i64 xf] B w0 G fun u G'=>∃c':Hp,u=.tuple #[]∧Ls enQ 27 (.slice ao n cap) c' (Sort.siftDown Sort.ltInt hi first lo d).toList∧G'=R c':=by
 subst hxl hxh hxf
 refine Fn.sel0 hsel fun F hR hF=>?_
 have hl:=hL.len
 rw[Array.length_toList]at hl
 subst hl
 refine fn_enter Tryz.func118 rfl (by kernel_rfl) Tryz.ntmps118 (by simp) ?_
 refine qs<|qm<|qa<|qt ?_
 refine cw_block ?_
 refine cw_loop2 (ι:=((Nat×Array Int×Hp))) [(0,_),(2,_),(3,_)] ⟨rfl,rfl,rfl,trivial⟩ ((fun x=>[(8,.int .i64 x.1)])) ((fun x=>x.1≤hi∧x.2.1.size=d.size∧Sort.siftDown Sort.ltInt hi first x.1 x.2.1=Sort.siftDown Sort.ltInt hi first lo d∧Ls enQ 27 (.slice ao d.size cap) x.2.2 x.2.1.toList)) ((fun x=>hi-x.1)) ((fun x=>x.2.2::F)) (((lo,d,c):Nat×Array Int×Hp)) zenv zcov ?_ ?_
 ·exact⟨hlo,rfl,rfl,hL⟩
 rintro⟨r,d1,c1⟩ ⟨hr,hsz,he,hL1⟩
 dsimp only at hr hsz he hL1⊢
 have hl1:d1.toList.length=d.size:=by rw[Array.length_toList];exact hsz
 refine cw_block<|qs<|qm ?_
 refine qv (v_mul rfl rfl (nw_i64 zom zom)) ?_
 refine qv (v_add rfl rfl (nw_i64 zom zom))<|qa<|qt<|cw_seq<|qs<|qm<|qm ?_
 refine qv (v_geq rfl rfl) ?_
 refine qt ?_
 refine cw_dec rfl (fun hc16=>?_) (fun hc16=>?_)
 refine cw_exit ?_
 refine xw_then_exit ?_
 refine xw_block_other rfl ?_
 refine xw_round_exit ?_
 refine xw_block_exit ?_
 refine ret0n rfl ?_
 rotate_left
 refine cw_skip<|xw_then ?_
 rotate_left
 ·rw[siftDown_stop zom]at he
  rw[←he]
  exact⟨c1,rfl,hL1,zcov⟩
 have hk:=kid_lt (f:=first) (d:=d1) (show 2*r+1<hi by omega)
 have hk2:=kid_iff (hi:=hi) (f:=first) (r:=r) (d:=d1)
 have hk3:=kid_no (hi:=hi) (f:=first) (r:=r) (d:=d1)
 have hg:=siftDown_go (f:=first) (d:=d1) (show 2*r+1<hi by omega)
 rw[he]at hg
 generalize kid hi first r d1=k at *
 refine cw_cut2 (ι:=(Unit)) [(0,_),(2,_),(3,_),(8,_)] ⟨rfl,rfl,rfl,rfl,trivial⟩ ((fun _=>[(9,.int .i64 k)])) ((fun _:Unit=>True)) ((fun _=>c1::F)) ?_ ?_
 ·refine cw_seq ?_
  refine cw_quiet Ty.mixed zdk ?_
  refine kmv ?_
  refine kv (v_add rfl rfl (nw_i64 zom zom)) ?_
  refine kmv ?_
  refine kv (v_lss rfl rfl) ?_
  refine kmv ?_
  refine kw_dec 21 rfl (fun hc21=>?_) (fun hc21=>?_)
  refine kmv ?_
  refine kmv ?_
  refine kmv ?_
  refine kv (v_add rfl rfl (nw_i64 zom zom)) ?_
  refine kw_val rfl rfl (v_indexAddr_ls Tryz.underlying34 (qTy) rfl rfl zas (Int.toNat_of_nonneg zom).symm zom) ?_
  refine kv (v_load rfl (Go.Sl.Vw.var (qTy) ((hL1.vw zhas)) zom)) ?_
  refine kmv ?_
  refine kmv ?_
  refine kmv ?_
  refine kv (v_add rfl rfl (nw_i64 zom zom)) ?_
  refine kv (v_add rfl rfl (nw_i64 zom zom)) ?_
  refine kw_val rfl rfl (v_indexAddr_ls Tryz.underlying34 (qTy) rfl rfl zas (Int.toNat_of_nonneg zom).symm zom) ?_
  refine kv (v_load rfl (Go.Sl.Vw.var (qTy) ((hL1.vw zhas)) zom)) ?_
  refine kv (v_call rfl rfl (lessQ_c)) ?_
  refine kv (v_pick_true rfl rfl) ?_
  refine kw_nil<|xw_then ?_
  refine cw_dec rfl (fun hc36=>?_) (fun hc36=>?_)
  refine cw_region<|qm ?_
  refine qv (v_add rfl rfl (nw_i64 zom zom))<|qa<|ow_nil ?_
  rotate_left
  refine cw_skip ?_
  rotate_left
  refine kk ?_
  refine kk ?_
  refine kk ?_
  refine kk ?_
  refine kk ?_
  refine kk ?_
  refine kk ?_
  refine kk ?_
  refine kk ?_
  refine kk ?_
  refine kk ?_
  refine kk ?_
  refine kk ?_
  refine kk ?_
  refine kv (v_pick_false rfl rfl) ?_
  refine kw_nil<|xw_then ?_
  refine cw_false rfl<|cw_skip ?_
  rotate_left
  ·rw[bangD (i:=first+(2*r+1)) _ zom,bangD (i:=first+(2*r+1)+1) _ zom]at hc36
   have h9:=(hk2 zom).1 hc36
   exact xw_joint () trivial zcov (by repeat (first|exact True.intro|refine And.intro rfl ?_|refine And.intro (congrArg (fun z:Int=>some (Value.int IntKind.i64 z)) (by (try dsimp only);omega)) ?_))
  ·rw[bangD (i:=first+(2*r+1)) _ zom,bangD (i:=first+(2*r+1)+1) _ zom]at hc36
   have h9:k≠2*r+2:=fun h=>hc36 ((hk2 zom).2 h)
   exact xw_joint () trivial zcov (by repeat (first|exact True.intro|refine And.intro rfl ?_|refine And.intro (congrArg (fun z:Int=>some (Value.int IntKind.i64 z)) (by (try dsimp only);omega)) ?_))
  ·have h9:=hk3 zom
   exact xw_joint () trivial zcov (by repeat (first|exact True.intro|refine And.intro rfl ?_|refine And.intro (congrArg (fun z:Int=>some (Value.int IntKind.i64 z)) (by (try dsimp only);omega)) ?_))
 rintro⟨⟩ -
 refine cw_seq<|cw_seq ?_
 refine cw_quiet Ty.mixed zdk ?_
 refine kmv ?_
 refine kmv ?_
 refine kmv ?_
 refine kv (v_add rfl rfl (nw_i64 zom zom)) ?_
 refine kw_val rfl rfl (v_indexAddr_ls Tryz.underlying34 (qTy) rfl rfl zas rfl zom) ?_
 refine kv (v_load rfl (Go.Sl.Vw.var (qTy) ((hL1.vw zhas)) zom)) ?_
 refine kmv ?_
 refine kmv ?_
 refine kmv ?_
 refine kv (v_add rfl rfl (nw_i64 zom zom)) ?_
 refine kw_val rfl rfl (v_indexAddr_ls Tryz.underlying34 (qTy) rfl rfl zas rfl zom) ?_
 refine kv (v_load rfl (Go.Sl.Vw.var (qTy) ((hL1.vw zhas)) zom)) ?_
 refine kv (v_call rfl rfl (lessQ_c)) ?_
 refine kv (v_not rfl) ?_
 refine kw_nil<|xw_then ?_
 refine cw_dec rfl (fun hc52=>?_) (fun hc52=>?_)
 refine cw_ret ?_
 refine xw_then_ret ?_
 refine xw_block_ret ?_
 refine xw_round_ret ?_
 refine xw_block_ret ?_
 refine ret0 rfl ?_
 rotate_left
 refine cw_skip<|xw_then ?_
 rotate_left
 ·rw[bangD (i:=first+r) _ zom,bangD (i:=first+k) _ zom]at hc52
  rw[if_neg (by simpa using hc52)]at hg
  rw[hg]
  exact⟨c1,rfl,hL1,zcov⟩
 rw[bangD (i:=first+r) _ zom,bangD (i:=first+k) _ zom]at hc52
 rw[if_pos (by simpa using hc52)]at hg
 refine cw_seq ?_
 refine cw_mix [] [21,22,23] [0,1,2,3,4,5,6,7,8,9,10,11,12,13,14,15,16,17,18,19,20] Ty.mixed rfl rfl rfl rfl zdk ?_
 refine hmv ?_
 refine hmv ?_
 refine hmv ?_
 refine hw_pure rfl rfl (v_add rfl rfl (nw_i64 zom zom)) rfl ?_
 refine hmv ?_
 refine hmv ?_
 refine hmv ?_
 refine hw_pure rfl rfl (v_add rfl rfl (nw_i64 zom zom)) rfl ?_
 refine hmv ?_
 refine hmv ?_
 refine hmv ?_
 refine hw_pure rfl rfl (v_add rfl rfl (nw_i64 zom zom)) rfl ?_
 refine hw_pure rfl rfl (v_indexAddr_ls Tryz.underlying34 (qTy) rfl rfl zas rfl zom) rfl ?_
 refine hw_read rfl rfl rfl (v_load rfl (Go.Sl.Vw.var (qTy) ((hL1.vw zhas)) zom)) ?_
 refine hmv ?_
 refine hmv ?_
 refine hmv ?_
 refine hw_pure rfl rfl (v_add rfl rfl (nw_i64 zom zom)) rfl ?_
 refine hw_pure rfl rfl (v_indexAddr_ls Tryz.underlying34 (qTy) rfl rfl zas rfl zom) rfl ?_
 refine hw_read rfl rfl rfl (v_load rfl (Go.Sl.Vw.var (qTy) ((hL1.vw zhas)) zom)) ?_
 refine hw_pure rfl rfl (v_indexAddr_ls Tryz.underlying34 (qTy) rfl rfl zas rfl zom) rfl ?_
 refine hw_nil ?_
 refine sw_nil ?_
 refine ow_storeL (i:=((first:Int)+(r:Int)).toNat) (a:=d1.toList[((first:Int)+(k:Int)).toNat]'zom) rfl rfl rfl qTy hL1 zsel zom (hL1.ok _ (List.getElem_mem _)) ?_
 intro csa hLsa
 have hlsa:(d1.toList.set ((first:Int)+(r:Int)).toNat (d1.toList[((first:Int)+(k:Int)).toNat]'zom)).length=d1.toList.length:=List.length_set
 refine ow_val rfl rfl (v_indexAddr_ls Tryz.underlying34 (qTy) rfl rfl zas rfl zom) ?_
 refine ow_storeL (i:=((first:Int)+(k:Int)).toNat) (a:=d1.toList[((first:Int)+(r:Int)).toNat]'zom) rfl rfl rfl qTy hLsa zsel (by rw[List.length_set];omega) (hL1.ok _ (List.getElem_mem _)) ?_
 intro cs hLs
 rw[swpL (i':=first+r) (j':=first+k) (bangD _ zom) (bangD _ zom) zom zom]at hLs
 refine ow_nil ?_
 refine xw_np<|xw_then<|cw_region<|qm<|qa<|ow_nil ?_
 refine xw_block ?_
 exact xw_round ((k,Sort.swp d1 (first+r) (first+k),cs):Nat×Array Int×Hp) ⟨by dsimp only;omega,by dsimp only;rw[swp_sz];exact hsz,hg.symm,hLs⟩ zdo zcov (by repeat (first|exact True.intro|refine And.intro rfl ?_|refine And.intro (congrArg (fun z:Int=>some (Value.int IntKind.i64 z)) (by (try dsimp only);omega)) ?_))
set_option maxHeartbeats 4000000 in
theorem heapQ_c {ao:Option Addr}{n cap a b:Nat}{c:Hp}{d:Array Int}(hsel:Sel G c R)(hL:Ls enQ 27 (.slice ao n cap) c d.toList)(hab:a<b)(hb:b≤d.size)(hn:d.size≤1000000):
  Go.Sl.Fn Tryz.prog 95 #[.slice ao n cap,.int .i64 a,.int .i64 b] B w0 G fun u G'=>∃c':Hp,u=.tuple #[]∧Ls enQ 27 (.slice ao n cap) c' (Sort.heapSort Sort.ltInt d a b).toList∧G'=R c':=by
 refine Fn.sel0 hsel fun F hR hF=>?_
 have hl:=hL.len
 rw[Array.length_toList]at hl
 subst hl
 unfold Sort.heapSort
 refine fn_enter Tryz.func95 rfl (by kernel_rfl) Tryz.ntmps95 (by simp) ?_
 refine qs<|qm<|qa<|qt<|qs<|qa<|qt<|qs<|qm<|qm ?_
 refine qv (v_sub rfl rfl (nw_i64 zom zom))<|qa ?_
 refine qt<|cw_seq<|qs<|qm ?_
 refine qv (v_sub rfl rfl (nw_i64 zom zom)) ?_
 refine qv (v_quoP_i64 rfl rfl zom zom zom)<|qa<|qt ?_
 refine cw_block ?_
 have hq:((b:Int)-a-1)/2=(((b-a-1)/2+1:Nat):Int)-1:=by omega
 rw[hq]
 refine cw_loop2 (ι:=((Nat×Array Int×Hp))) [(0,_),(6,_),(7,_),(8,_)] ⟨rfl,rfl,rfl,rfl,trivial⟩ ((fun x=>[(9,.int .i64 ((x.1:Int)-1))])) ((fun x=>x.1≤(b-a-1)/2+1∧x.2.1.size=d.size∧Sort.heapBuild Sort.ltInt (b-a) a x.1 x.2.1=Sort.heapBuild Sort.ltInt (b-a) a ((b-a-1)/2+1) d∧Ls enQ 27 (.slice ao d.size cap) x.2.2 x.2.1.toList)) ((fun x=>x.1)) ((fun x=>x.2.2::F)) ((((b-a-1)/2+1,d,c):Nat×Array Int×Hp)) zenv zcov ?_ ?_
 ·exact⟨Nat.le_refl _,rfl,rfl,hL⟩
 rintro⟨k,d1,c1⟩ ⟨hk,hsz,he,hL1⟩
 dsimp only at hk hsz he hL1⊢
 refine cw_seq<|qs<|qm ?_
 refine qv (v_geq rfl rfl)<|qt ?_
 refine cw_dec rfl (fun hc19=>?_) (fun hc19=>?_)
 refine cw_skip<|xw_then ?_
 rotate_left
 refine cw_exit ?_
 refine xw_then_exit ?_
 refine xw_round_exit ?_
 refine xw_block_exit<|xw_then ?_
 rotate_left
 ·obtain⟨k,rfl⟩:∃k',k=k'+1:=⟨k-1,by omega⟩
  have he2:Sort.heapBuild Sort.ltInt (b-a) a (k+1) d1=Sort.heapBuild Sort.ltInt (b-a) a k (Sort.siftDown Sort.ltInt (b-a) a k d1):=rfl
  refine cw_seq ?_
  refine cw_block<|cw_region<|qm<|qm<|qm<|qm ?_
  (refine ow_call rfl rfl rfl rfl (siftQ_c (lo:=k) (hi:=b-a) (first:=a) zom zom rfl zsel hL1 zom zom zom) ?_;rintro _ _ ⟨x26,rfl,hq26,rfl⟩)
  refine ow_nil ?_
  refine xw_block<|xw_then<|cw_region<|qm ?_
  refine qv (v_sub rfl rfl (nw_i64 zom zom))<|qa<|ow_nil ?_
  exact xw_round ((k,Sort.siftDown Sort.ltInt (b-a) a k d1,x26):Nat×Array Int×Hp) ⟨by dsimp only;omega,by dsimp only;rw[siftDown_size];exact hsz,by rw[←he,he2],hq26⟩ zdo zcov (by repeat (first|exact True.intro|refine And.intro rfl ?_|refine And.intro (congrArg (fun z:Int=>some (Value.int IntKind.i64 z)) (by (try dsimp only);omega)) ?_))
 obtain rfl:k=0:=by omega
 rw[show Sort.heapBuild Sort.ltInt (b-a) a 0 d1=d1 from rfl]at he
 rw[←he]
 refine qs<|qm ?_
 refine qv (v_sub rfl rfl (nw_i64 zom zom))<|qa<|qt ?_
 refine cw_block ?_
 rw[show (b:Int)-a-1=((b-a:Nat):Int)-1 by omega]
 refine cw_loop2 (ι:=((Nat×Array Int×Hp))) [(0,_),(6,_),(7,_)] ⟨rfl,rfl,rfl,trivial⟩ ((fun x=>[(10,.int .i64 ((x.1:Int)-1))])) ((fun x=>x.1≤b-a∧x.2.1.size=d.size∧Sort.heapPop Sort.ltInt a x.1 x.2.1=Sort.heapPop Sort.ltInt a (b-a) d1∧Ls enQ 27 (.slice ao d.size cap) x.2.2 x.2.1.toList)) ((fun x=>x.1)) ((fun x=>x.2.2::F)) (((b-a,d1,c1):Nat×Array Int×Hp)) zenv zcov ?_ ?_
 ·exact⟨Nat.le_refl _,hsz,rfl,hL1⟩
 rintro⟨k,d2,c2⟩ ⟨hk,hsz2,he2,hL2⟩
 dsimp only at hk hsz2 he2 hL2⊢
 refine cw_seq<|qs<|qm ?_
 refine qv (v_geq rfl rfl)<|qt ?_
 refine cw_dec rfl (fun hc30=>?_) (fun hc30=>?_)
 refine cw_skip<|xw_then ?_
 rotate_left
 refine cw_exit ?_
 refine xw_then_exit ?_
 refine xw_round_exit ?_
 refine xw_block_exit ?_
 refine ret0n rfl ?_
 rotate_left
 ·obtain⟨k,rfl⟩:∃k',k=k'+1:=⟨k-1,by omega⟩
  have he3:Sort.heapPop Sort.ltInt a (k+1) d2=Sort.heapPop Sort.ltInt a k (Sort.siftDown Sort.ltInt k a 0 (Sort.swp d2 a (a+k))):=rfl
  have hl2:d2.toList.length=d.size:=by rw[Array.length_toList];exact hsz2
  refine cw_seq ?_
  refine cw_block<|cw_seq ?_
  refine cw_mix [] [17,18,19] [0,1,2,3,4,5,6,7,8,9,10,11,12,13,14,15,16] Ty.mixed rfl rfl rfl rfl zdk ?_
  refine hmv ?_
  refine hmv ?_
  refine hmv ?_
  refine hmv ?_
  refine hmv ?_
  refine hw_pure rfl rfl (v_add rfl rfl (nw_i64 zom zom)) rfl ?_
  refine hmv ?_
  refine hmv ?_
  refine hmv ?_
  refine hw_pure rfl rfl (v_add rfl rfl (nw_i64 zom zom)) rfl ?_
  refine hw_pure rfl rfl (v_indexAddr_ls Tryz.underlying34 (qTy) rfl rfl zas (Int.toNat_of_nonneg zom).symm zom) rfl ?_
  refine hw_read rfl rfl rfl (v_load rfl (Go.Sl.Vw.var (qTy) ((hL2.vw zhas)) zom)) ?_
  refine hmv ?_
  refine hmv ?_
  refine hw_pure rfl rfl (v_indexAddr_ls Tryz.underlying34 (qTy) rfl rfl zas rfl zom) rfl ?_
  refine hw_read rfl rfl rfl (v_load rfl (Go.Sl.Vw.var (qTy) ((hL2.vw zhas)) zom)) ?_
  refine hw_pure rfl rfl (v_indexAddr_ls Tryz.underlying34 (qTy) rfl rfl zas rfl zom) rfl ?_
  refine hw_nil ?_
  refine sw_nil ?_
  refine ow_storeL (i:=a) (a:=d2.toList[((a:Int)+(((k+1:Nat):Int)-1)).toNat]'zom) rfl rfl rfl qTy hL2 zsel zom (hL2.ok _ (List.getElem_mem _)) ?_
  intro csa hLsa
  have hlsa:(d2.toList.set a (d2.toList[((a:Int)+(((k+1:Nat):Int)-1)).toNat]'zom)).length=d2.toList.length:=List.length_set
  refine ow_val rfl rfl (v_indexAddr_ls Tryz.underlying34 (qTy) rfl rfl zas (Int.toNat_of_nonneg zom).symm zom) ?_
  refine ow_storeL (i:=((a:Int)+(((k+1:Nat):Int)-1)).toNat) (a:=d2.toList[a]'zom) rfl rfl rfl qTy hLsa zsel (by rw[List.length_set];omega) (hL2.ok _ (List.getElem_mem _)) ?_
  intro cs hLs
  rw[swpL (i':=a) (j':=a+k) (bangD _ zom) (bangD _ zom) zom zom]at hLs
  refine ow_nil ?_
  refine xw_np<|xw_then<|cw_region<|qm<|qm<|qm<|qm ?_
  (refine ow_call rfl rfl rfl rfl (siftQ_c (lo:=0) (hi:=k) (first:=a) rfl zom rfl zsel hLs zom (by rw[swp_sz];omega) (by rw[swp_sz];omega)) ?_;rintro _ _ ⟨x55,rfl,hq55,rfl⟩)
  refine ow_nil ?_
  refine xw_block<|xw_then<|cw_region<|qm ?_
  refine qv (v_sub rfl rfl (nw_i64 zom zom))<|qa<|ow_nil ?_
  exact xw_round ((k,Sort.siftDown Sort.ltInt k a 0 (Sort.swp d2 a (a+k)),x55):Nat×Array Int×Hp) ⟨by dsimp only;omega,by dsimp only;rw[siftDown_size,swp_sz];exact hsz2,by rw[←he2,he3],hq55⟩ zdo zcov (by repeat (first|exact True.intro|refine And.intro rfl ?_|refine And.intro (congrArg (fun z:Int=>some (Value.int IntKind.i64 z)) (by (try dsimp only);omega)) ?_))
 obtain rfl:k=0:=by omega
 rw[show Sort.heapPop Sort.ltInt a 0 d2=d2 from rfl]at he2
 rw[←he2]
 skip
 exact⟨c2,rfl,hL2,zcov⟩
set_option maxHeartbeats 4000000 in
theorem revRQ_c {ao:Option Addr}{n cap a b:Nat}{c:Hp}{d:Array Int}(hsel:Sel G c R)(hL:Ls enQ 27 (.slice ao n cap) c d.toList)(hab:a<b)(hb:b≤d.size)(hn:d.size≤1000000):
  Go.Sl.Fn Tryz.prog 98 #[.slice ao n cap,.int .i64 a,.int .i64 b] B w0 G fun u G'=>∃c':Hp,u=.tuple #[]∧Ls enQ 27 (.slice ao n cap) c' (Sort.reverseRange d a b).toList∧G'=R c':=by
 refine Fn.sel0 hsel fun F hR hF=>?_
 have hl:=hL.len
 rw[Array.length_toList]at hl
 subst hl
 unfold Sort.reverseRange
 refine fn_enter Tryz.func98 rfl (by kernel_rfl) Tryz.ntmps98 (by simp) ?_
 refine qs<|qm<|qa<|qt<|qs<|qm ?_
 refine qv (v_sub rfl rfl (nw_i64 zom zom))<|qa<|qt ?_
 refine cw_block ?_
 rw[show (b:Int)-1=((b-1:Nat):Int) by omega]
 refine cw_loop2 (ι:=((Nat×Nat×Array Int×Hp))) [(0,_)] ⟨rfl,trivial⟩ ((fun x=>[(6,.int .i64 x.1),(7,.int .i64 x.2.1)])) ((fun x=>a≤x.1∧x.1≤b∧x.2.1<b∧x.2.2.1.size=d.size∧Sort.reverseLoop x.1 x.2.1 x.2.2.1=Sort.reverseLoop a (b-1) d∧Ls enQ 27 (.slice ao d.size cap) x.2.2.2 x.2.2.1.toList)) ((fun x=>b-x.1)) ((fun x=>x.2.2.2::F)) (((a,b-1,d,c):Nat×Nat×Array Int×Hp)) zenv zcov ?_ ?_
 ·exact⟨Nat.le_refl _,by dsimp only;omega,by dsimp only;omega,rfl,rfl,hL⟩
 rintro⟨i,j,d1,c1⟩ ⟨hi,hib,hj,hsz,he,hL1⟩
 dsimp only at hi hib hj hsz he hL1⊢
 have hl1:d1.toList.length=d.size:=by rw[Array.length_toList];exact hsz
 refine cw_seq<|qs<|qm<|qm ?_
 refine qv (v_lss rfl rfl)<|qt ?_
 refine cw_dec rfl (fun hc13=>?_) (fun hc13=>?_)
 refine cw_skip<|xw_then ?_
 refine cw_block ?_
 rotate_left
 refine cw_exit ?_
 refine xw_then_exit ?_
 refine xw_round_exit ?_
 refine xw_block_exit ?_
 refine ret0n rfl ?_
 rotate_left
 ·rw[revLoop_go zom]at he
  refine cw_seq ?_
  refine cw_mix [] [13,14,15] [0,1,2,3,4,5,6,7,8,9,10,11,12] Ty.mixed rfl rfl rfl rfl zdk ?_
  refine hmv ?_
  refine hmv ?_
  refine hmv ?_
  refine hmv ?_
  refine hmv ?_
  refine hmv ?_
  refine hw_pure rfl rfl (v_indexAddr_ls Tryz.underlying34 (qTy) rfl rfl zas rfl zom) rfl ?_
  refine hw_read rfl rfl rfl (v_load rfl (Go.Sl.Vw.var (qTy) ((hL1.vw zhas)) zom)) ?_
  refine hmv ?_
  refine hmv ?_
  refine hw_pure rfl rfl (v_indexAddr_ls Tryz.underlying34 (qTy) rfl rfl zas rfl zom) rfl ?_
  refine hw_read rfl rfl rfl (v_load rfl (Go.Sl.Vw.var (qTy) ((hL1.vw zhas)) zom)) ?_
  refine hw_pure rfl rfl (v_indexAddr_ls Tryz.underlying34 (qTy) rfl rfl zas rfl zom) rfl ?_
  refine hw_nil ?_
  refine sw_nil ?_
  refine ow_storeL (i:=i) (a:=d1.toList[j]'zom) rfl rfl rfl qTy hL1 zsel zom (hL1.ok _ (List.getElem_mem _)) ?_
  intro csa hLsa
  have hlsa:(d1.toList.set i (d1.toList[j]'zom)).length=d1.toList.length:=List.length_set
  refine ow_val rfl rfl (v_indexAddr_ls Tryz.underlying34 (qTy) rfl rfl zas rfl zom) ?_
  refine ow_storeL (i:=j) (a:=d1.toList[i]'zom) rfl rfl rfl qTy hLsa zsel (by rw[List.length_set];omega) (hL1.ok _ (List.getElem_mem _)) ?_
  intro cs hLs
  rw[swpL (i':=i) (j':=j) (bangD _ zom) (bangD _ zom) zom zom]at hLs
  refine ow_nil ?_
  refine xw_np<|xw_then<|qs<|qm ?_
  refine qv (v_add rfl rfl (nw_i64 zom zom))<|qa<|qt<|cw_region<|qm ?_
  refine qv (v_sub rfl rfl (nw_i64 zom zom))<|qa ?_
  refine ow_nil ?_
  refine xw_block ?_
  exact xw_round ((i+1,j-1,Sort.swp d1 i j,cs):Nat×Nat×Array Int×Hp) ⟨by dsimp only;omega,by dsimp only;omega,by dsimp only;omega,by dsimp only;rw[swp_sz];exact hsz,he,hLs⟩ zdo zcov (by repeat (first|exact True.intro|refine And.intro rfl ?_|refine And.intro (congrArg (fun z:Int=>some (Value.int IntKind.i64 z)) (by (try dsimp only);omega)) ?_))
 ·rw[revLoop_stop zom]at he
  rw[←he]
  skip
  exact⟨c1,rfl,hL1,zcov⟩
end Go.Proofs.YtnlaffkihohfkaaGreat
namespace Go.Proofs.YtnlaffkihohfkaaGreat
open Go Go.Sl Go.Proofs
variable {B:Nat}{w0:World}{G:List Hp}{R:Hp→List Hp}
set_option maxHeartbeats 8000000 in
theorem partQ_c {ao:Option Addr}{n cap a b pv:Nat}{c:Hp}{d:Array Int}(hsel:Sel G c R)(hL:Ls enQ 27 (.slice ao n cap) c d.toList)(hap:a≤pv)(hpb:pv<b)(hb:b≤d.size)(hn:d.size≤1000000):
  Go.Sl.Fn Tryz.prog 102 #[.slice ao n cap,.int .i64 a,.int .i64 b,.int .i64 pv] B w0 G fun u G'=>∃c':Hp,u=.tuple #[.int .i64 (Sort.partition Sort.ltInt d a b pv).1,.bool (Sort.partition Sort.ltInt d a b pv).2.1]∧Ls enQ 27 (.slice ao n cap) c' (Sort.partition Sort.ltInt d a b pv).2.2.toList∧G'=R c':=by
 refine Fn.sel0 hsel fun F hR hF=>?_
 have hl:=hL.len
 rw[Array.length_toList]at hl
 subst hl
 have hl0:d.toList.length=d.size:=Array.length_toList
 refine fn_enter Tryz.func102 rfl (by kernel_rfl) Tryz.ntmps102 (by simp) ?_
 refine qs<|qa<|qa<|qt<|cw_seq ?_
 refine cw_mix [] [13,14,15] [0,1,2,3,4,5,6,7,8,9,10,11,12] Ty.mixed rfl rfl rfl rfl zdk ?_
 refine hmv ?_
 refine hmv ?_
 refine hmv ?_
 refine hmv ?_
 refine hmv ?_
 refine hmv ?_
 refine hw_pure rfl rfl (v_indexAddr_ls Tryz.underlying34 (qTy) rfl rfl zas rfl zom) rfl ?_
 refine hw_read rfl rfl rfl (v_load rfl (Go.Sl.Vw.var (qTy) ((hL.vw zhas)) zom)) ?_
 refine hmv ?_
 refine hmv ?_
 refine hw_pure rfl rfl (v_indexAddr_ls Tryz.underlying34 (qTy) rfl rfl zas rfl zom) rfl ?_
 refine hw_read rfl rfl rfl (v_load rfl (Go.Sl.Vw.var (qTy) ((hL.vw zhas)) zom)) ?_
 refine hw_pure rfl rfl (v_indexAddr_ls Tryz.underlying34 (qTy) rfl rfl zas rfl zom) rfl ?_
 refine hw_nil ?_
 refine sw_nil ?_
 refine ow_storeL (i:=a) (a:=d.toList[pv]'zom) rfl rfl rfl qTy hL zsel zom (hL.ok _ (List.getElem_mem _)) ?_
 intro csa hLsa
 have hlsa:(d.toList.set a (d.toList[pv]'zom)).length=d.toList.length:=List.length_set
 refine ow_val rfl rfl (v_indexAddr_ls Tryz.underlying34 (qTy) rfl rfl zas rfl zom) ?_
 refine ow_storeL (i:=pv) (a:=d.toList[a]'zom) rfl rfl rfl qTy hLsa zsel (by rw[List.length_set];omega) (hL.ok _ (List.getElem_mem _)) ?_
 intro cs hLs
 rw[swpL (i':=a) (j':=pv) (bangD _ zom) (bangD _ zom) zom zom]at hLs
 have hsz1:(Sort.swp d a pv).size=d.size:=swp_sz
 have hpq:=fun i j=>part_eq (d:=d) (a:=a) (b:=b) (pivot:=pv) (i:=i) (j:=j) rfl
 generalize Sort.swp d a pv=d1 at *
 have hl1:d1.toList.length=d.size:=by rw[Array.length_toList];exact hsz1
 refine ow_nil ?_
 refine xw_np<|xw_then<|qs<|qm ?_
 refine qv (v_add rfl rfl (nw_i64 zom zom))<|qm ?_
 refine qv (v_sub rfl rfl (nw_i64 zom zom))<|qa<|qa<|qt ?_
 rw[show (b:Int)-1=((b-1:Nat):Int) by omega]
 refine cw_cut2 (ι:=(Nat)) [(0,_),(1,_),(3,_),(8,_),(9,_),(11,_)] ⟨rfl,rfl,rfl,rfl,rfl,rfl,trivial⟩ ((fun i=>[(10,.int .i64 i)])) ((fun i=>a+1≤i∧i≤max (a+1) (b-1+1)∧Sort.scanUp (fun x=>Sort.ltInt x d1[a]!) d1 (b-1) (a+1)=i)) ((fun _=>cs::F)) ?_ ?_
 ·refine cw_block ?_
  refine cw_loop2 (ι:=(Nat)) [(0,_),(1,_),(3,_),(8,_),(9,_),(11,_)] ⟨rfl,rfl,rfl,rfl,rfl,rfl,trivial⟩ ((fun i=>[(10,.int .i64 i)])) ((fun i=>a+1≤i∧i≤max (a+1) (b-1+1)∧Sort.scanUp (fun x=>Sort.ltInt x d1[a]!) d1 (b-1) i=Sort.scanUp (fun x=>Sort.ltInt x d1[a]!) d1 (b-1) (a+1))) ((fun i=>b-1+1-i)) ((fun _=>cs::F)) ((a+1:Nat)) zenv zcov ?_ ?_
  ·exact⟨Nat.le_refl _,by omega,rfl⟩
  rintro i ⟨hi1,hi2,hi3⟩
  refine cw_seq<|cw_seq ?_
  refine cw_quiet Ty.mixed zdk ?_
  refine kmv ?_
  refine kmv ?_
  refine kv (v_leq rfl rfl) ?_
  refine kmv ?_
  refine kw_dec 33 rfl (fun hc33=>?_) (fun hc33=>?_)
  refine kmv ?_
  refine kmv ?_
  refine kw_val rfl rfl (v_indexAddr_ls Tryz.underlying34 (qTy) rfl rfl zas rfl zom) ?_
  refine kv (v_load rfl (Go.Sl.Vw.var (qTy) ((hLs.vw zhas)) zom)) ?_
  refine kmv ?_
  refine kmv ?_
  refine kw_val rfl rfl (v_indexAddr_ls Tryz.underlying34 (qTy) rfl rfl zas rfl zom) ?_
  refine kv (v_load rfl (Go.Sl.Vw.var (qTy) ((hLs.vw zhas)) zom)) ?_
  refine kv (v_call rfl rfl (lessQ_c)) ?_
  refine kv (v_pick_true rfl rfl) ?_
  refine kw_nil<|xw_then ?_
  refine cw_dec rfl (fun hc43=>?_) (fun hc43=>?_)
  refine cw_skip<|xw_then ?_
  refine cw_block<|cw_region<|qm ?_
  refine qv (v_add rfl rfl (nw_i64 zom zom))<|qa<|ow_nil ?_
  refine xw_block ?_
  rotate_left
  refine cw_exit ?_
  refine xw_then_exit ?_
  refine xw_round_exit ?_
  refine xw_block_exit ?_
  rotate_left
  refine kk ?_
  refine kk ?_
  refine kk ?_
  refine kk ?_
  refine kk ?_
  refine kk ?_
  refine kk ?_
  refine kk ?_
  refine kk ?_
  refine kv (v_pick_false rfl rfl) ?_
  refine kw_nil<|xw_then ?_
  refine cw_false rfl ?_
  refine cw_exit ?_
  refine xw_then_exit ?_
  refine xw_round_exit ?_
  refine xw_block_exit ?_
  rotate_left
  ·rw[bangD (i:=i) _ rfl,bangD (i:=a) _ rfl]at hc43
   exact xw_round (i+1) ⟨by omega,by omega,by rw[←hi3];exact(scanUp_go zom (by simpa [Sort.ltInt] using hc43)).symm⟩ zom zcov zenv
  ·rw[bangD (i:=i) _ rfl,bangD (i:=a) _ rfl]at hc43
   exact xw_joint i ⟨hi1,hi2,by rw[←hi3];exact scanUp_stop (fun h=>hc43 (by simpa [Sort.ltInt] using h.2))⟩ zcov zenv
  ·exact xw_joint i ⟨hi1,hi2,by rw[←hi3];exact scanUp_stop (fun h=>by have:=h.1;omega)⟩ zcov zenv
 rintro i ⟨hi1,hi2,hi3⟩
 refine cw_cut2 (ι:=(Nat)) [(0,_),(1,_),(3,_),(8,_),(9,_),(10,_)] ⟨rfl,rfl,rfl,rfl,rfl,rfl,trivial⟩ ((fun j=>[(11,.int .i64 j)])) ((fun j=>j≤b-1∧(i≤j+1∨j=b-1)∧Sort.scanDown (fun x=>!Sort.ltInt x d1[a]!) d1 i (b-1)=j)) ((fun _=>cs::F)) ?_ ?_
 ·refine cw_block ?_
  refine cw_loop2 (ι:=(Nat)) [(0,_),(1,_),(3,_),(8,_),(9,_),(10,_)] ⟨rfl,rfl,rfl,rfl,rfl,rfl,trivial⟩ ((fun j=>[(11,.int .i64 j)])) ((fun j=>j≤b-1∧(i≤j+1∨j=b-1)∧Sort.scanDown (fun x=>!Sort.ltInt x d1[a]!) d1 i j=Sort.scanDown (fun x=>!Sort.ltInt x d1[a]!) d1 i (b-1))) ((fun j=>j)) ((fun _=>cs::F)) ((b-1:Nat)) zenv zcov ?_ ?_
  ·exact⟨Nat.le_refl _,by omega,rfl⟩
  rintro j ⟨hj1,hj2,hj3⟩
  refine cw_seq<|cw_seq ?_
  refine cw_quiet Ty.mixed zdk ?_
  refine kmv ?_
  refine kmv ?_
  refine kv (v_leq rfl rfl) ?_
  refine kmv ?_
  refine kw_dec 49 rfl (fun hc49=>?_) (fun hc49=>?_)
  refine kmv ?_
  refine kmv ?_
  refine kw_val rfl rfl (v_indexAddr_ls Tryz.underlying34 (qTy) rfl rfl zas rfl zom) ?_
  refine kv (v_load rfl (Go.Sl.Vw.var (qTy) ((hLs.vw zhas)) zom)) ?_
  refine kmv ?_
  refine kmv ?_
  refine kw_val rfl rfl (v_indexAddr_ls Tryz.underlying34 (qTy) rfl rfl zas rfl zom) ?_
  refine kv (v_load rfl (Go.Sl.Vw.var (qTy) ((hLs.vw zhas)) zom)) ?_
  refine kv (v_call rfl rfl (lessQ_c)) ?_
  refine kv (v_not rfl) ?_
  refine kv (v_pick_true rfl rfl) ?_
  refine kw_nil<|xw_then ?_
  refine cw_dec rfl (fun hc60=>?_) (fun hc60=>?_)
  refine cw_skip<|xw_then ?_
  refine cw_block<|cw_region<|qm ?_
  refine qv (v_sub rfl rfl (nw_i64 zom zom))<|qa<|ow_nil ?_
  refine xw_block ?_
  rotate_left
  refine cw_exit ?_
  refine xw_then_exit ?_
  refine xw_round_exit ?_
  refine xw_block_exit ?_
  rotate_left
  refine kk ?_
  refine kk ?_
  refine kk ?_
  refine kk ?_
  refine kk ?_
  refine kk ?_
  refine kk ?_
  refine kk ?_
  refine kk ?_
  refine kk ?_
  refine kv (v_pick_false rfl rfl) ?_
  refine kw_nil ?_
  refine xw_then ?_
  refine cw_false rfl ?_
  refine cw_exit ?_
  refine xw_then_exit ?_
  refine xw_round_exit ?_
  refine xw_block_exit ?_
  rotate_left
  ·rw[bangD (i:=j) _ rfl,bangD (i:=a) _ rfl]at hc60
   exact xw_round (j-1) ⟨by omega,by omega,by rw[←hj3];exact(scanDown_go zom zom (by simpa [Sort.ltInt] using hc60)).symm⟩ zom zcov (by repeat (first|exact True.intro|refine And.intro rfl ?_|refine And.intro (congrArg (fun z:Int=>some (Value.int IntKind.i64 z)) (by (try dsimp only);omega)) ?_))
  ·rw[bangD (i:=j) _ rfl,bangD (i:=a) _ rfl]at hc60
   exact xw_joint j ⟨hj1,hj2,by rw[←hj3];exact scanDown_stop zom (fun h=>hc60 (by simpa [Sort.ltInt] using h.2))⟩ zcov zenv
  ·exact xw_joint j ⟨hj1,hj2,by rw[←hj3];exact scanDown_stop zom (fun h=>by have:=h.1;omega)⟩ zcov zenv
 rintro j ⟨hj1,hj2,hj3⟩
 rw[hpq i j hi3 hj3]
 refine cw_seq<|qs<|qm<|qm ?_
 refine qv (v_gtr rfl rfl)<|qt ?_
 refine cw_dec rfl (fun hc65=>?_) (fun hc65=>?_)
 rotate_left
 refine cw_skip<|xw_then ?_
 rotate_left
 ·rw[if_pos zom]
  refine cw_seq ?_
  refine cw_mix [] [13,14,15] [0,1,2,3,4,5,6,7,8,9,10,11,12] Ty.mixed rfl rfl rfl rfl zdk ?_
  refine hmv ?_
  refine hmv ?_
  refine hmv ?_
  refine hmv ?_
  refine hmv ?_
  refine hmv ?_
  refine hw_pure rfl rfl (v_indexAddr_ls Tryz.underlying34 (qTy) rfl rfl zas rfl zom) rfl ?_
  refine hw_read rfl rfl rfl (v_load rfl (Go.Sl.Vw.var (qTy) ((hLs.vw zhas)) zom)) ?_
  refine hmv ?_
  refine hmv ?_
  refine hw_pure rfl rfl (v_indexAddr_ls Tryz.underlying34 (qTy) rfl rfl zas rfl zom) rfl ?_
  refine hw_read rfl rfl rfl (v_load rfl (Go.Sl.Vw.var (qTy) ((hLs.vw zhas)) zom)) ?_
  refine hw_pure rfl rfl (v_indexAddr_ls Tryz.underlying34 (qTy) rfl rfl zas rfl zom) rfl ?_
  refine hw_nil ?_
  refine sw_nil ?_
  refine ow_storeL (i:=j) (a:=d1.toList[a]'zom) rfl rfl rfl qTy hLs zsel zom (hLs.ok _ (List.getElem_mem _)) ?_
  intro cta hLta
  have hlta:(d1.toList.set j (d1.toList[a]'zom)).length=d1.toList.length:=List.length_set
  refine ow_val rfl rfl (v_indexAddr_ls Tryz.underlying34 (qTy) rfl rfl zas rfl zom) ?_
  refine ow_storeL (i:=a) (a:=d1.toList[j]'zom) rfl rfl rfl qTy hLta zsel (by rw[List.length_set];omega) (hLs.ok _ (List.getElem_mem _)) ?_
  intro ct hLt
  rw[swpL (i':=j) (j':=a) (bangD _ zom) (bangD _ zom) zom zom]at hLt
  refine ow_nil ?_
  refine xw_np<|xw_then<|qs<|qm<|qa<|qa<|qt ?_
  refine cw_ret ?_
  refine xw_then_ret ?_
  refine ret2 rfl (res_tmp rfl) (res_tmp rfl) ?_
  exact⟨ct,rfl,hLt,zcov⟩
 ·rw[if_neg zom]
  refine cw_seq ?_
  refine cw_mix [] [13,14,15] [0,1,2,3,4,5,6,7,8,9,10,11,12] Ty.mixed rfl rfl rfl rfl zdk ?_
  refine hmv ?_
  refine hmv ?_
  refine hmv ?_
  refine hmv ?_
  refine hmv ?_
  refine hmv ?_
  refine hw_pure rfl rfl (v_indexAddr_ls Tryz.underlying34 (qTy) rfl rfl zas rfl zom) rfl ?_
  refine hw_read rfl rfl rfl (v_load rfl (Go.Sl.Vw.var (qTy) ((hLs.vw zhas)) zom)) ?_
  refine hmv ?_
  refine hmv ?_
  refine hw_pure rfl rfl (v_indexAddr_ls Tryz.underlying34 (qTy) rfl rfl zas rfl zom) rfl ?_
  refine hw_read rfl rfl rfl (v_load rfl (Go.Sl.Vw.var (qTy) ((hLs.vw zhas)) zom)) ?_
  refine hw_pure rfl rfl (v_indexAddr_ls Tryz.underlying34 (qTy) rfl rfl zas rfl zom) rfl ?_
  refine hw_nil ?_
  refine sw_nil ?_
  refine ow_storeL (i:=i) (a:=d1.toList[j]'zom) rfl rfl rfl qTy hLs zsel zom (hLs.ok _ (List.getElem_mem _)) ?_
  intro cta hLta
  have hlta:(d1.toList.set i (d1.toList[j]'zom)).length=d1.toList.length:=List.length_set
  refine ow_val rfl rfl (v_indexAddr_ls Tryz.underlying34 (qTy) rfl rfl zas rfl zom) ?_
  refine ow_storeL (i:=j) (a:=d1.toList[i]'zom) rfl rfl rfl qTy hLta zsel (by rw[List.length_set];omega) (hLs.ok _ (List.getElem_mem _)) ?_
  intro ct hLt
  rw[swpL (i':=i) (j':=j) (bangD _ zom) (bangD _ zom) zom zom]at hLt
  have hszt:(Sort.swp d1 i j).size=d.size:=by rw[swp_sz];exact hsz1
  generalize Sort.swp d1 i j=d2 at *
  refine ow_nil ?_
  refine xw_np<|xw_then<|qs<|qm ?_
  refine qv (v_add rfl rfl (nw_i64 zom zom))<|qa<|qt<|qs<|qm ?_
  refine qv (v_sub rfl rfl (nw_i64 zom zom))<|qa ?_
  refine qt ?_
  rw[show (j:Int)-1=((j-1:Nat):Int) by omega]
  refine cw_cut2 (ι:=((Nat×Array Int×Hp))) [(0,_),(1,_),(8,_),(9,_)] ⟨rfl,rfl,rfl,rfl,trivial⟩ ((fun x=>[(11,.int .i64 x.1)])) ((fun x=>a≤x.1∧x.1<b∧x.2.1.size=d.size∧Sort.partLoop Sort.ltInt a (i+1) (j-1) d2=(x.1,x.2.1)∧Ls enQ 27 (.slice ao d.size cap) x.2.2 x.2.1.toList)) ((fun x=>x.2.2::F)) ?_ ?_
  ·refine cw_block ?_
   refine cw_loop2 (ι:=((Nat×Nat×Array Int×Hp))) [(0,_),(1,_),(3,_),(8,_),(9,_)] ⟨rfl,rfl,rfl,rfl,rfl,trivial⟩ ((fun x=>[(10,.int .i64 x.1),(11,.int .i64 x.2.1)])) ((fun x=>a+2≤x.1∧x.1≤x.2.1+2∧x.2.1<b∧x.2.2.1.size=d.size∧Sort.partLoop Sort.ltInt a x.1 x.2.1 x.2.2.1=Sort.partLoop Sort.ltInt a (i+1) (j-1) d2∧Ls enQ 27 (.slice ao d.size cap) x.2.2.2 x.2.2.1.toList)) ((fun x=>x.2.1+2-x.1)) ((fun x=>x.2.2.2::F)) (((i+1,j-1,d2,ct):Nat×Nat×Array Int×Hp)) zenv zcov ?_ ?_
   ·exact⟨by dsimp only;omega,by dsimp only;omega,by dsimp only;omega,hszt,rfl,hLt⟩
   rintro⟨i3,j3,d3,c3⟩ ⟨hi31,hi32,hj31,hsz3,he3,hL3⟩
   dsimp only at hi31 hi32 hj31 hsz3 he3 hL3⊢
   have hl3:d3.toList.length=d.size:=by rw[Array.length_toList];exact hsz3
   have hq3:=fun i2 j2=>partL_eq (d:=d3) (a:=a) (i:=i3) (j:=j3) (i2:=i2) (j2:=j2)
   refine cw_block ?_
   refine cw_cut2 (ι:=(Nat)) [(0,_),(1,_),(3,_),(8,_),(9,_),(11,_)] ⟨rfl,rfl,rfl,rfl,rfl,rfl,trivial⟩ ((fun i=>[(10,.int .i64 i)])) ((fun i=>i3≤i∧i≤max (i3) (j3+1)∧Sort.scanUp (fun x=>Sort.ltInt x d3[a]!) d3 (j3) (i3)=i)) ((fun _=>c3::F)) ?_ ?_
   ·refine cw_block ?_
    refine cw_loop2 (ι:=(Nat)) [(0,_),(1,_),(3,_),(8,_),(9,_),(11,_)] ⟨rfl,rfl,rfl,rfl,rfl,rfl,trivial⟩ ((fun i=>[(10,.int .i64 i)])) ((fun i=>i3≤i∧i≤max (i3) (j3+1)∧Sort.scanUp (fun x=>Sort.ltInt x d3[a]!) d3 (j3) i=Sort.scanUp (fun x=>Sort.ltInt x d3[a]!) d3 (j3) (i3))) ((fun i=>j3+1-i)) ((fun _=>c3::F)) ((i3:Nat)) zenv zcov ?_ ?_
    ·exact⟨Nat.le_refl _,by omega,rfl⟩
    rintro i ⟨hi1,hi2,hi3⟩
    refine cw_seq<|cw_seq ?_
    refine cw_quiet Ty.mixed zdk ?_
    refine kmv ?_
    refine kmv ?_
    refine kv (v_leq rfl rfl) ?_
    refine kmv ?_
    refine kw_dec 102 rfl (fun hc102=>?_) (fun hc102=>?_)
    refine kmv ?_
    refine kmv ?_
    refine kw_val rfl rfl (v_indexAddr_ls Tryz.underlying34 (qTy) rfl rfl zas rfl zom) ?_
    refine kv (v_load rfl (Go.Sl.Vw.var (qTy) ((hL3.vw zhas)) zom)) ?_
    refine kmv ?_
    refine kmv ?_
    refine kw_val rfl rfl (v_indexAddr_ls Tryz.underlying34 (qTy) rfl rfl zas rfl zom) ?_
    refine kv (v_load rfl (Go.Sl.Vw.var (qTy) ((hL3.vw zhas)) zom)) ?_
    refine kv (v_call rfl rfl (lessQ_c)) ?_
    refine kv (v_pick_true rfl rfl) ?_
    refine kw_nil<|xw_then ?_
    refine cw_dec rfl (fun hc112=>?_) (fun hc112=>?_)
    refine cw_skip<|xw_then ?_
    refine cw_block<|cw_region<|qm ?_
    refine qv (v_add rfl rfl (nw_i64 zom zom))<|qa<|ow_nil ?_
    refine xw_block ?_
    rotate_left
    refine cw_exit ?_
    refine xw_then_exit ?_
    refine xw_round_exit ?_
    refine xw_block_exit ?_
    rotate_left
    refine kk ?_
    refine kk ?_
    refine kk ?_
    refine kk ?_
    refine kk ?_
    refine kk ?_
    refine kk ?_
    refine kk ?_
    refine kk ?_
    refine kv (v_pick_false rfl rfl) ?_
    refine kw_nil<|xw_then ?_
    refine cw_false rfl ?_
    refine cw_exit ?_
    refine xw_then_exit ?_
    refine xw_round_exit ?_
    refine xw_block_exit ?_
    rotate_left
    ·rw[bangD (i:=i) _ rfl,bangD (i:=a) _ rfl]at hc112
     exact xw_round (i+1) ⟨by omega,by omega,by rw[←hi3];exact(scanUp_go zom (by simpa [Sort.ltInt] using hc112)).symm⟩ zom zcov zenv
    ·rw[bangD (i:=i) _ rfl,bangD (i:=a) _ rfl]at hc112
     exact xw_joint i ⟨hi1,hi2,by rw[←hi3];exact scanUp_stop (fun h=>hc112 (by simpa [Sort.ltInt] using h.2))⟩ zcov zenv
    ·exact xw_joint i ⟨hi1,hi2,by rw[←hi3];exact scanUp_stop (fun h=>by have:=h.1;omega)⟩ zcov zenv
   rintro i4 ⟨hi41,hi42,hi43⟩
   refine cw_cut2 (ι:=(Nat)) [(0,_),(1,_),(3,_),(8,_),(9,_),(10,_)] ⟨rfl,rfl,rfl,rfl,rfl,rfl,trivial⟩ ((fun j=>[(11,.int .i64 j)])) ((fun j=>j≤j3∧(i4≤j+1∨j=j3)∧Sort.scanDown (fun x=>!Sort.ltInt x d3[a]!) d3 i4 (j3)=j)) ((fun _=>c3::F)) ?_ ?_
   ·refine cw_block ?_
    refine cw_loop2 (ι:=(Nat)) [(0,_),(1,_),(3,_),(8,_),(9,_),(10,_)] ⟨rfl,rfl,rfl,rfl,rfl,rfl,trivial⟩ ((fun j=>[(11,.int .i64 j)])) ((fun j=>j≤j3∧(i4≤j+1∨j=j3)∧Sort.scanDown (fun x=>!Sort.ltInt x d3[a]!) d3 i4 j=Sort.scanDown (fun x=>!Sort.ltInt x d3[a]!) d3 i4 (j3))) ((fun j=>j)) ((fun _=>c3::F)) ((j3:Nat)) zenv zcov ?_ ?_
    ·exact⟨Nat.le_refl _,by omega,rfl⟩
    rintro j ⟨hj1,hj2,hj3⟩
    refine cw_seq<|cw_seq ?_
    refine cw_quiet Ty.mixed zdk ?_
    refine kmv ?_
    refine kmv ?_
    refine kv (v_leq rfl rfl) ?_
    refine kmv ?_
    refine kw_dec 118 rfl (fun hc118=>?_) (fun hc118=>?_)
    refine kmv ?_
    refine kmv ?_
    refine kw_val rfl rfl (v_indexAddr_ls Tryz.underlying34 (qTy) rfl rfl zas rfl zom) ?_
    refine kv (v_load rfl (Go.Sl.Vw.var (qTy) ((hL3.vw zhas)) zom)) ?_
    refine kmv ?_
    refine kmv ?_
    refine kw_val rfl rfl (v_indexAddr_ls Tryz.underlying34 (qTy) rfl rfl zas rfl zom) ?_
    refine kv (v_load rfl (Go.Sl.Vw.var (qTy) ((hL3.vw zhas)) zom)) ?_
    refine kv (v_call rfl rfl (lessQ_c)) ?_
    refine kv (v_not rfl) ?_
    refine kv (v_pick_true rfl rfl) ?_
    refine kw_nil<|xw_then ?_
    refine cw_dec rfl (fun hc129=>?_) (fun hc129=>?_)
    refine cw_skip<|xw_then ?_
    refine cw_block<|cw_region<|qm ?_
    refine qv (v_sub rfl rfl (nw_i64 zom zom))<|qa<|ow_nil ?_
    refine xw_block ?_
    rotate_left
    refine cw_exit ?_
    refine xw_then_exit ?_
    refine xw_round_exit ?_
    refine xw_block_exit ?_
    rotate_left
    refine kk ?_
    refine kk ?_
    refine kk ?_
    refine kk ?_
    refine kk ?_
    refine kk ?_
    refine kk ?_
    refine kk ?_
    refine kk ?_
    refine kk ?_
    refine kv (v_pick_false rfl rfl) ?_
    refine kw_nil ?_
    refine xw_then ?_
    refine cw_false rfl ?_
    refine cw_exit ?_
    refine xw_then_exit ?_
    refine xw_round_exit ?_
    refine xw_block_exit ?_
    rotate_left
    ·rw[bangD (i:=j) _ rfl,bangD (i:=a) _ rfl]at hc129
     exact xw_round (j-1) ⟨by omega,by omega,by rw[←hj3];exact(scanDown_go zom zom (by simpa [Sort.ltInt] using hc129)).symm⟩ zom zcov (by repeat (first|exact True.intro|refine And.intro rfl ?_|refine And.intro (congrArg (fun z:Int=>some (Value.int IntKind.i64 z)) (by (try dsimp only);omega)) ?_))
    ·rw[bangD (i:=j) _ rfl,bangD (i:=a) _ rfl]at hc129
     exact xw_joint j ⟨hj1,hj2,by rw[←hj3];exact scanDown_stop zom (fun h=>hc129 (by simpa [Sort.ltInt] using h.2))⟩ zcov zenv
    ·exact xw_joint j ⟨hj1,hj2,by rw[←hj3];exact scanDown_stop zom (fun h=>by have:=h.1;omega)⟩ zcov zenv
   rintro j4 ⟨hj41,hj42,hj43⟩
   have hq:=hq3 i4 j4 hi43 hj43
   rw[he3]at hq
   refine cw_seq<|qs<|qm<|qm ?_
   refine qv (v_gtr rfl rfl)<|qt ?_
   refine cw_dec rfl (fun hc134=>?_) (fun hc134=>?_)
   refine cw_exit ?_
   refine xw_then_exit ?_
   refine xw_block_other rfl ?_
   refine xw_round_exit ?_
   refine xw_block_exit ?_
   rotate_left
   refine cw_skip<|xw_then ?_
   rotate_left
   ·rw[if_pos zom]at hq
    exact xw_joint ((j4,d3,c3):Nat×Array Int×Hp) ⟨by dsimp only;omega,by dsimp only;omega,hsz3,hq,hL3⟩ zcov zenv
   ·rw[if_neg zom]at hq
    refine cw_seq ?_
    refine cw_mix [] [13,14,15] [0,1,2,3,4,5,6,7,8,9,10,11,12] Ty.mixed rfl rfl rfl rfl zdk ?_
    refine hmv ?_
    refine hmv ?_
    refine hmv ?_
    refine hmv ?_
    refine hmv ?_
    refine hmv ?_
    refine hw_pure rfl rfl (v_indexAddr_ls Tryz.underlying34 (qTy) rfl rfl zas rfl zom) rfl ?_
    refine hw_read rfl rfl rfl (v_load rfl (Go.Sl.Vw.var (qTy) ((hL3.vw zhas)) zom)) ?_
    refine hmv ?_
    refine hmv ?_
    refine hw_pure rfl rfl (v_indexAddr_ls Tryz.underlying34 (qTy) rfl rfl zas rfl zom) rfl ?_
    refine hw_read rfl rfl rfl (v_load rfl (Go.Sl.Vw.var (qTy) ((hL3.vw zhas)) zom)) ?_
    refine hw_pure rfl rfl (v_indexAddr_ls Tryz.underlying34 (qTy) rfl rfl zas rfl zom) rfl ?_
    refine hw_nil ?_
    refine sw_nil ?_
    refine ow_storeL (i:=i4) (a:=d3.toList[j4]'zom) rfl rfl rfl qTy hL3 zsel zom (hL3.ok _ (List.getElem_mem _)) ?_
    intro cua hLua
    have hlua:(d3.toList.set i4 (d3.toList[j4]'zom)).length=d3.toList.length:=List.length_set
    refine ow_val rfl rfl (v_indexAddr_ls Tryz.underlying34 (qTy) rfl rfl zas rfl zom) ?_
    refine ow_storeL (i:=j4) (a:=d3.toList[i4]'zom) rfl rfl rfl qTy hLua zsel (by rw[List.length_set];omega) (hL3.ok _ (List.getElem_mem _)) ?_
    intro cu hLu
    rw[swpL (i':=i4) (j':=j4) (bangD _ zom) (bangD _ zom) zom zom]at hLu
    refine ow_nil ?_
    refine xw_np<|xw_then<|qs<|qm ?_
    refine qv (v_add rfl rfl (nw_i64 zom zom))<|qa<|qt<|cw_region<|qm ?_
    refine qv (v_sub rfl rfl (nw_i64 zom zom))<|qa ?_
    refine ow_nil ?_
    refine xw_block ?_
    exact xw_round ((i4+1,j4-1,Sort.swp d3 i4 j4,cu):Nat×Nat×Array Int×Hp) ⟨by dsimp only;omega,by dsimp only;omega,by dsimp only;omega,by dsimp only;rw[swp_sz];exact hsz3,hq.symm,hLu⟩ zdo zcov (by repeat (first|exact True.intro|refine And.intro rfl ?_|refine And.intro (congrArg (fun z:Int=>some (Value.int IntKind.i64 z)) (by (try dsimp only);omega)) ?_))
  rintro⟨j5,d5,c5⟩ ⟨hj51,hj52,hsz5,he5,hL5⟩
  dsimp only at hj51 hj52 hsz5 he5 hL5⊢
  have hl5:d5.toList.length=d.size:=by rw[Array.length_toList];exact hsz5
  rw[he5]
  dsimp only
  skip
  refine cw_seq ?_
  refine cw_mix [] [13,14,15] [0,1,2,3,4,5,6,7,8,9,10,11,12] Ty.mixed rfl rfl rfl rfl zdk ?_
  refine hmv ?_
  refine hmv ?_
  refine hmv ?_
  refine hmv ?_
  refine hmv ?_
  refine hmv ?_
  refine hw_pure rfl rfl (v_indexAddr_ls Tryz.underlying34 (qTy) rfl rfl zas rfl zom) rfl ?_
  refine hw_read rfl rfl rfl (v_load rfl (Go.Sl.Vw.var (qTy) ((hL5.vw zhas)) zom)) ?_
  refine hmv ?_
  refine hmv ?_
  refine hw_pure rfl rfl (v_indexAddr_ls Tryz.underlying34 (qTy) rfl rfl zas rfl zom) rfl ?_
  refine hw_read rfl rfl rfl (v_load rfl (Go.Sl.Vw.var (qTy) ((hL5.vw zhas)) zom)) ?_
  refine hw_pure rfl rfl (v_indexAddr_ls Tryz.underlying34 (qTy) rfl rfl zas rfl zom) rfl ?_
  refine hw_nil ?_
  refine sw_nil ?_
  refine ow_storeL (i:=j5) (a:=d5.toList[a]'zom) rfl rfl rfl qTy hL5 zsel zom (hL5.ok _ (List.getElem_mem _)) ?_
  intro cva hLva
  have hlva:(d5.toList.set j5 (d5.toList[a]'zom)).length=d5.toList.length:=List.length_set
  refine ow_val rfl rfl (v_indexAddr_ls Tryz.underlying34 (qTy) rfl rfl zas rfl zom) ?_
  refine ow_storeL (i:=a) (a:=d5.toList[j5]'zom) rfl rfl rfl qTy hLva zsel (by rw[List.length_set];omega) (hL5.ok _ (List.getElem_mem _)) ?_
  intro cv hLv
  rw[swpL (i':=j5) (j':=a) (bangD _ zom) (bangD _ zom) zom zom]at hLv
  refine ow_nil ?_
  refine xw_np<|xw_then<|qs<|qm<|qa<|qa<|qt ?_
  refine cw_ret ?_
  refine ret2 rfl (res_tmp rfl) (res_tmp rfl) ?_
  exact⟨cv,rfl,hLv,zcov⟩
set_option maxHeartbeats 8000000 in
theorem partEQ_c {ao:Option Addr}{n cap a b pv:Nat}{c:Hp}{d:Array Int}(hsel:Sel G c R)(hL:Ls enQ 27 (.slice ao n cap) c d.toList)(hap:a≤pv)(hpb:pv<b)(hb:b≤d.size)(hn:d.size≤1000000):
  Go.Sl.Fn Tryz.prog 101 #[.slice ao n cap,.int .i64 a,.int .i64 b,.int .i64 pv] B w0 G fun u G'=>∃c':Hp,u=.int .i64 (Sort.partitionEqual Sort.ltInt d a b pv).1∧Ls enQ 27 (.slice ao n cap) c' (Sort.partitionEqual Sort.ltInt d a b pv).2.toList∧G'=R c':=by
 refine Fn.sel0 hsel fun F hR hF=>?_
 have hl:=hL.len
 rw[Array.length_toList]at hl
 subst hl
 have hl0:d.toList.length=d.size:=Array.length_toList
 unfold Sort.partitionEqual
 refine fn_enter Tryz.func101 rfl (by kernel_rfl) Tryz.ntmps101 (by simp) ?_
 refine qs<|qa<|qt<|cw_seq ?_
 refine cw_mix [] [13,14,15] [0,1,2,3,4,5,6,7,8,9,10,11,12] Ty.mixed rfl rfl rfl rfl zdk ?_
 refine hmv ?_
 refine hmv ?_
 refine hmv ?_
 refine hmv ?_
 refine hmv ?_
 refine hmv ?_
 refine hw_pure rfl rfl (v_indexAddr_ls Tryz.underlying34 (qTy) rfl rfl zas rfl zom) rfl ?_
 refine hw_read rfl rfl rfl (v_load rfl (Go.Sl.Vw.var (qTy) ((hL.vw zhas)) zom)) ?_
 refine hmv ?_
 refine hmv ?_
 refine hw_pure rfl rfl (v_indexAddr_ls Tryz.underlying34 (qTy) rfl rfl zas rfl zom) rfl ?_
 refine hw_read rfl rfl rfl (v_load rfl (Go.Sl.Vw.var (qTy) ((hL.vw zhas)) zom)) ?_
 refine hw_pure rfl rfl (v_indexAddr_ls Tryz.underlying34 (qTy) rfl rfl zas rfl zom) rfl ?_
 refine hw_nil ?_
 refine sw_nil ?_
 refine ow_storeL (i:=a) (a:=d.toList[pv]'zom) rfl rfl rfl qTy hL zsel zom (hL.ok _ (List.getElem_mem _)) ?_
 intro csa hLsa
 have hlsa:(d.toList.set a (d.toList[pv]'zom)).length=d.toList.length:=List.length_set
 refine ow_val rfl rfl (v_indexAddr_ls Tryz.underlying34 (qTy) rfl rfl zas rfl zom) ?_
 refine ow_storeL (i:=pv) (a:=d.toList[a]'zom) rfl rfl rfl qTy hLsa zsel (by rw[List.length_set];omega) (hL.ok _ (List.getElem_mem _)) ?_
 intro cs hLs
 rw[swpL (i':=a) (j':=pv) (bangD _ zom) (bangD _ zom) zom zom]at hLs
 have hsz1:(Sort.swp d a pv).size=d.size:=swp_sz
 generalize Sort.swp d a pv=d1 at *
 refine ow_nil ?_
 refine xw_np<|xw_then<|qs<|qm ?_
 refine qv (v_add rfl rfl (nw_i64 zom zom))<|qm ?_
 refine qv (v_sub rfl rfl (nw_i64 zom zom))<|qa<|qa<|qt ?_
 rw[show (b:Int)-1=((b-1:Nat):Int) by omega]
 refine cw_cut2 (ι:=((Nat×Array Int×Hp))) [(8,_)] ⟨rfl,trivial⟩ ((fun x=>[(9,.int .i64 x.1)])) ((fun x=>Sort.partEqLoop Sort.ltInt a (a+1) (b-1) d1=(x.1,x.2.1)∧Ls enQ 27 (.slice ao d.size cap) x.2.2 x.2.1.toList)) ((fun x=>x.2.2::F)) ?_ ?_
 ·refine cw_block ?_
  refine cw_loop2 (ι:=((Nat×Nat×Array Int×Hp))) [(0,_),(1,_),(3,_),(8,_)] ⟨rfl,rfl,rfl,rfl,trivial⟩ ((fun x=>[(9,.int .i64 x.1),(10,.int .i64 x.2.1)])) ((fun x=>a+1≤x.1∧x.1≤x.2.1+2∧x.2.1<b∧x.2.2.1.size=d.size∧Sort.partEqLoop Sort.ltInt a x.1 x.2.1 x.2.2.1=Sort.partEqLoop Sort.ltInt a (a+1) (b-1) d1∧Ls enQ 27 (.slice ao d.size cap) x.2.2.2 x.2.2.1.toList)) ((fun x=>x.2.1+2-x.1)) ((fun x=>x.2.2.2::F)) (((a+1,b-1,d1,cs):Nat×Nat×Array Int×Hp)) zenv zcov ?_ ?_
  ·exact⟨by dsimp only;omega,by dsimp only;omega,by dsimp only;omega,hsz1,rfl,hLs⟩
  rintro⟨i3,j3,d3,c3⟩ ⟨hi31,hi32,hj31,hsz3,he3,hL3⟩
  dsimp only at hi31 hi32 hj31 hsz3 he3 hL3⊢
  have hl3:d3.toList.length=d.size:=by rw[Array.length_toList];exact hsz3
  have hq3:=fun i2 j2=>partE_eq (d:=d3) (a:=a) (i:=i3) (j:=j3) (i2:=i2) (j2:=j2)
  refine cw_block ?_
  refine cw_cut2 (ι:=(Nat)) [(0,_),(1,_),(3,_),(8,_),(10,_)] ⟨rfl,rfl,rfl,rfl,rfl,trivial⟩ ((fun i=>[(9,.int .i64 i)])) ((fun i=>i3≤i∧i≤max (i3) (j3+1)∧Sort.scanUp (fun x=>!Sort.ltInt d3[a]! x) d3 (j3) (i3)=i)) ((fun _=>c3::F)) ?_ ?_
  ·refine cw_block ?_
   refine cw_loop2 (ι:=(Nat)) [(0,_),(1,_),(3,_),(8,_),(10,_)] ⟨rfl,rfl,rfl,rfl,rfl,trivial⟩ ((fun i=>[(9,.int .i64 i)])) ((fun i=>i3≤i∧i≤max (i3) (j3+1)∧Sort.scanUp (fun x=>!Sort.ltInt d3[a]! x) d3 (j3) i=Sort.scanUp (fun x=>!Sort.ltInt d3[a]! x) d3 (j3) (i3))) ((fun i=>j3+1-i)) ((fun _=>c3::F)) ((i3:Nat)) zenv zcov ?_ ?_
   ·exact⟨Nat.le_refl _,by omega,rfl⟩
   rintro i ⟨hi1,hi2,hi3⟩
   refine cw_seq<|cw_seq ?_
   refine cw_quiet Ty.mixed zdk ?_
   refine kmv ?_
   refine kmv ?_
   refine kv (v_leq rfl rfl) ?_
   refine kmv ?_
   refine kw_dec 32 rfl (fun hc32=>?_) (fun hc32=>?_)
   refine kmv ?_
   refine kmv ?_
   refine kw_val rfl rfl (v_indexAddr_ls Tryz.underlying34 (qTy) rfl rfl zas rfl zom) ?_
   refine kv (v_load rfl (Go.Sl.Vw.var (qTy) ((hL3.vw zhas)) zom)) ?_
   refine kmv ?_
   refine kmv ?_
   refine kw_val rfl rfl (v_indexAddr_ls Tryz.underlying34 (qTy) rfl rfl zas rfl zom) ?_
   refine kv (v_load rfl (Go.Sl.Vw.var (qTy) ((hL3.vw zhas)) zom)) ?_
   refine kv (v_call rfl rfl (lessQ_c)) ?_
   refine kv (v_not rfl) ?_
   refine kv (v_pick_true rfl rfl) ?_
   refine kw_nil<|xw_then ?_
   refine cw_dec rfl (fun hc43=>?_) (fun hc43=>?_)
   refine cw_skip<|xw_then ?_
   refine cw_block<|cw_region<|qm ?_
   refine qv (v_add rfl rfl (nw_i64 zom zom))<|qa<|ow_nil ?_
   refine xw_block ?_
   rotate_left
   refine cw_exit ?_
   refine xw_then_exit ?_
   refine xw_round_exit ?_
   refine xw_block_exit ?_
   rotate_left
   refine kk ?_
   refine kk ?_
   refine kk ?_
   refine kk ?_
   refine kk ?_
   refine kk ?_
   refine kk ?_
   refine kk ?_
   refine kk ?_
   refine kk ?_
   refine kv (v_pick_false rfl rfl) ?_
   refine kw_nil ?_
   refine xw_then ?_
   refine cw_false rfl ?_
   refine cw_exit ?_
   refine xw_then_exit ?_
   refine xw_round_exit ?_
   refine xw_block_exit ?_
   rotate_left
   ·rw[bangD (i:=a) _ rfl,bangD (i:=i) _ rfl]at hc43
    exact xw_round (i+1) ⟨by omega,by omega,by rw[←hi3];exact(scanUp_go zom (by simpa [Sort.ltInt] using hc43)).symm⟩ zom zcov zenv
   ·rw[bangD (i:=a) _ rfl,bangD (i:=i) _ rfl]at hc43
    exact xw_joint i ⟨hi1,hi2,by rw[←hi3];exact scanUp_stop (fun h=>hc43 (by simpa [Sort.ltInt] using h.2))⟩ zcov zenv
   ·exact xw_joint i ⟨hi1,hi2,by rw[←hi3];exact scanUp_stop (fun h=>by have:=h.1;omega)⟩ zcov zenv
  rintro i4 ⟨hi41,hi42,hi43⟩
  refine cw_cut2 (ι:=(Nat)) [(0,_),(1,_),(3,_),(8,_),(9,_)] ⟨rfl,rfl,rfl,rfl,rfl,trivial⟩ ((fun j=>[(10,.int .i64 j)])) ((fun j=>j≤j3∧(i4≤j+1∨j=j3)∧Sort.scanDown (fun x=>Sort.ltInt d3[a]! x) d3 i4 (j3)=j)) ((fun _=>c3::F)) ?_ ?_
  ·refine cw_block ?_
   refine cw_loop2 (ι:=(Nat)) [(0,_),(1,_),(3,_),(8,_),(9,_)] ⟨rfl,rfl,rfl,rfl,rfl,trivial⟩ ((fun j=>[(10,.int .i64 j)])) ((fun j=>j≤j3∧(i4≤j+1∨j=j3)∧Sort.scanDown (fun x=>Sort.ltInt d3[a]! x) d3 i4 j=Sort.scanDown (fun x=>Sort.ltInt d3[a]! x) d3 i4 (j3))) ((fun j=>j)) ((fun _=>c3::F)) ((j3:Nat)) zenv zcov ?_ ?_
   ·exact⟨Nat.le_refl _,by omega,rfl⟩
   rintro j ⟨hj1,hj2,hj3⟩
   refine cw_seq<|cw_seq ?_
   refine cw_quiet Ty.mixed zdk ?_
   refine kmv ?_
   refine kmv ?_
   refine kv (v_leq rfl rfl) ?_
   refine kmv ?_
   refine kw_dec 49 rfl (fun hc49=>?_) (fun hc49=>?_)
   refine kmv ?_
   refine kmv ?_
   refine kw_val rfl rfl (v_indexAddr_ls Tryz.underlying34 (qTy) rfl rfl zas rfl zom) ?_
   refine kv (v_load rfl (Go.Sl.Vw.var (qTy) ((hL3.vw zhas)) zom)) ?_
   refine kmv ?_
   refine kmv ?_
   refine kw_val rfl rfl (v_indexAddr_ls Tryz.underlying34 (qTy) rfl rfl zas rfl zom) ?_
   refine kv (v_load rfl (Go.Sl.Vw.var (qTy) ((hL3.vw zhas)) zom)) ?_
   refine kv (v_call rfl rfl (lessQ_c)) ?_
   refine kv (v_pick_true rfl rfl) ?_
   refine kw_nil<|xw_then ?_
   refine cw_dec rfl (fun hc59=>?_) (fun hc59=>?_)
   refine cw_skip<|xw_then ?_
   refine cw_block<|cw_region<|qm ?_
   refine qv (v_sub rfl rfl (nw_i64 zom zom))<|qa<|ow_nil ?_
   refine xw_block ?_
   rotate_left
   refine cw_exit ?_
   refine xw_then_exit ?_
   refine xw_round_exit ?_
   refine xw_block_exit ?_
   rotate_left
   refine kk ?_
   refine kk ?_
   refine kk ?_
   refine kk ?_
   refine kk ?_
   refine kk ?_
   refine kk ?_
   refine kk ?_
   refine kk ?_
   refine kv (v_pick_false rfl rfl) ?_
   refine kw_nil<|xw_then ?_
   refine cw_false rfl ?_
   refine cw_exit ?_
   refine xw_then_exit ?_
   refine xw_round_exit ?_
   refine xw_block_exit ?_
   rotate_left
   ·rw[bangD (i:=a) _ rfl,bangD (i:=j) _ rfl]at hc59
    exact xw_round (j-1) ⟨by omega,by omega,by rw[←hj3];exact(scanDown_go zom zom (by simpa [Sort.ltInt] using hc59)).symm⟩ zom zcov (by repeat (first|exact True.intro|refine And.intro rfl ?_|refine And.intro (congrArg (fun z:Int=>some (Value.int IntKind.i64 z)) (by (try dsimp only);omega)) ?_))
   ·rw[bangD (i:=a) _ rfl,bangD (i:=j) _ rfl]at hc59
    exact xw_joint j ⟨hj1,hj2,by rw[←hj3];exact scanDown_stop zom (fun h=>hc59 (by simpa [Sort.ltInt] using h.2))⟩ zcov zenv
   ·exact xw_joint j ⟨hj1,hj2,by rw[←hj3];exact scanDown_stop zom (fun h=>by have:=h.1;omega)⟩ zcov zenv
  rintro j4 ⟨hj41,hj42,hj43⟩
  have hq:=hq3 i4 j4 hi43 hj43
  rw[he3]at hq
  refine cw_seq<|qs<|qm<|qm ?_
  refine qv (v_gtr rfl rfl)<|qt ?_
  refine cw_dec rfl (fun hc64=>?_) (fun hc64=>?_)
  refine cw_exit ?_
  refine xw_then_exit ?_
  refine xw_block_other rfl ?_
  refine xw_round_exit ?_
  refine xw_block_exit ?_
  rotate_left
  refine cw_skip<|xw_then ?_
  rotate_left
  ·rw[if_pos zom]at hq
   exact xw_joint ((i4,d3,c3):Nat×Array Int×Hp) ⟨hq,hL3⟩ zcov zenv
  ·rw[if_neg zom]at hq
   refine cw_seq ?_
   refine cw_mix [] [13,14,15] [0,1,2,3,4,5,6,7,8,9,10,11,12] Ty.mixed rfl rfl rfl rfl zdk ?_
   refine hmv ?_
   refine hmv ?_
   refine hmv ?_
   refine hmv ?_
   refine hmv ?_
   refine hmv ?_
   refine hw_pure rfl rfl (v_indexAddr_ls Tryz.underlying34 (qTy) rfl rfl zas rfl zom) rfl ?_
   refine hw_read rfl rfl rfl (v_load rfl (Go.Sl.Vw.var (qTy) ((hL3.vw zhas)) zom)) ?_
   refine hmv ?_
   refine hmv ?_
   refine hw_pure rfl rfl (v_indexAddr_ls Tryz.underlying34 (qTy) rfl rfl zas rfl zom) rfl ?_
   refine hw_read rfl rfl rfl (v_load rfl (Go.Sl.Vw.var (qTy) ((hL3.vw zhas)) zom)) ?_
   refine hw_pure rfl rfl (v_indexAddr_ls Tryz.underlying34 (qTy) rfl rfl zas rfl zom) rfl ?_
   refine hw_nil ?_
   refine sw_nil ?_
   refine ow_storeL (i:=i4) (a:=d3.toList[j4]'zom) rfl rfl rfl qTy hL3 zsel zom (hL3.ok _ (List.getElem_mem _)) ?_
   intro cua hLua
   have hlua:(d3.toList.set i4 (d3.toList[j4]'zom)).length=d3.toList.length:=List.length_set
   refine ow_val rfl rfl (v_indexAddr_ls Tryz.underlying34 (qTy) rfl rfl zas rfl zom) ?_
   refine ow_storeL (i:=j4) (a:=d3.toList[i4]'zom) rfl rfl rfl qTy hLua zsel (by rw[List.length_set];omega) (hL3.ok _ (List.getElem_mem _)) ?_
   intro cu hLu
   rw[swpL (i':=i4) (j':=j4) (bangD _ zom) (bangD _ zom) zom zom]at hLu
   refine ow_nil ?_
   refine xw_np<|xw_then<|qs<|qm ?_
   refine qv (v_add rfl rfl (nw_i64 zom zom))<|qa<|qt<|cw_region<|qm ?_
   refine qv (v_sub rfl rfl (nw_i64 zom zom))<|qa ?_
   refine ow_nil ?_
   refine xw_block ?_
   exact xw_round ((i4+1,j4-1,Sort.swp d3 i4 j4,cu):Nat×Nat×Array Int×Hp) ⟨by dsimp only;omega,by dsimp only;omega,by dsimp only;omega,by dsimp only;rw[swp_sz];exact hsz3,hq.symm,hLu⟩ zdo zcov (by repeat (first|exact True.intro|refine And.intro rfl ?_|refine And.intro (congrArg (fun z:Int=>some (Value.int IntKind.i64 z)) (by (try dsimp only);omega)) ?_))
 rintro⟨j5,d5,c5⟩ ⟨he5,hL5⟩
 dsimp only at he5 hL5⊢
 rw[he5]
 dsimp only
 refine qs<|qm<|qa<|qt ?_
 refine cw_ret ?_
 refine ret1 rfl (res_tmp rfl) ?_
 exact⟨c5,rfl,hL5,zcov⟩
end Go.Proofs.YtnlaffkihohfkaaGreat
