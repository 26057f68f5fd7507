/- Two sets of streams: what a side does. Conditions: what holds of both sides holds. Two sets of streams: all is right. Conditions: what holds of both sides holds. Two sets of streams: how they begin; a fixed fact; are acts short? Conditions: numbers are small. Two sets of streams: how they begin, in memory; a fixed fact; are acts short? Conditions: numbers are small. Streams: a fixed fact; are acts short? Conditions: none. Two sets of streams: a measure of what is still to come. Conditions: none; no program is spoken of. Two sets of streams: each frame that comes lowers the measure. Conditions: none; no program is spoken of. Two sets of streams: what is sent and comes lowers the measure by a whole round. Conditions: none; no program is spoken of. Two sets of streams: a visit that sends, and the frame comes, lowers the measure. Conditions: none; no program is spoken of. Two sets of streams: a pump of one side lowers the measure, or nothing is to be sent. Conditions: none; no program is spoken of. Two sets of streams: a pump of one side lowers the measure by a round, or that side has nothing to send. Conditions: none; no program is spoken of. Two sets of streams: what is read lowers the measure. Conditions: none; no program is spoken of. Two sets of streams: a side reads of all its streams. Conditions: none; no program is spoken of. Streams: has any one something to send still? Conditions: the set is well made. Two sets of streams: what waits though nothing can be sent has no cr -/
import Derived.Test.YtnlaffkihohfkaaGreatStreamComesPk7
set_option maxRecDepth 20000
set_option linter.unusedVariables false
set_option linter.unusedSimpArgs false
namespace Go.Proofs.YtnlaffkihohfkaaGreat
open Go Go.Sl Go.Proofs
variable {B:Nat}{w0:World}{G:List Hp}{R:Hp→List Hp}
structure ActO where
 kind:Int
 id:Int
 ao:Option Addr
 len:Nat
 cap:Nat
 data:List UInt8
 many:Int
 side:Bool
 uni:Bool
 lose:Int
instance:Inhabited ActO:=⟨⟨0,0,none,0,0,[],0,false,false,0⟩⟩
def ActO.cells (a:ActO):List Value:=[.int .u8 a.kind,.int .u8 a.id,.slice a.ao a.len a.cap,.int .u8 a.many,.bool a.side,.bool a.uni,.int .u8 a.lose]
structure ActO.Ok (B:Nat)(w0:World)(a:ActO):Prop where
 kind:0≤a.kind∧a.kind≤255
 id:0≤a.id∧a.id≤255
 many:0≤a.many∧a.many≤255
 lose:0≤a.lose∧a.lose≤255
 data:a.data.length=a.len
 cap:a.len≤a.cap
 top:a.len≤9223372036854775807
 vw:∀G,Vw enB (St B w0 G) (.slice a.ao a.len a.cap) a.data
def enAct (B:Nat)(w0:World):Enc ActO:=⟨ActO.cells,7,fun a=>.agg a.cells.toArray,ActO.Ok B w0⟩
theorem acTy:EncTy Tryz.prog 30 (enAct B w0):=EncTy.agg Ty.ag30 (by show 0<7;decide) (fun _=>rfl) (fun _ _=>rfl) (fun a _ u hu=>by
 simp only[enAct,ActO.cells,List.mem_cons,List.not_mem_nil,or_false]at hu
 rcases hu with rfl|rfl|rfl|rfl|rfl|rfl|rfl<;>rfl)
theorem ActO.one {a:ActO}:∀u∈a.cells,u.oneCell'=true:=fun u hu=>by
 simp only[ActO.cells,List.mem_cons,List.not_mem_nil,or_false]at hu
 rcases hu with rfl|rfl|rfl|rfl|rfl|rfl|rfl<;>rfl
theorem AsAtM.stream {A:SdM}{id:Int}{q b:Nat}{c:Hp}(h:AsAtM A id q b c):∃cx cr,(∀z,cnt z c=cnt z cx+cnt z cr)∧SmAt (A.x id) q cx∧∀(x':SmM) (cx':Hp),x'.WF→x'.id=id→SmAt x' q cx'→∃c',AsAt (A.put id x') b c'∧∀z,cnt z c'=cnt z cx'+cnt z cr:=by
 obtain⟨M,ps,i,hM,hmd,rfl⟩:=h
 obtain⟨hx,hxid⟩:=hmd.get
 obtain⟨p,cm,cr0,cr1,cs,rfl,hMp,hR0,hR1,hS⟩:=hM
 obtain⟨hl,he⟩:=List.getElem?_eq_some_iff.1 hx
 obtain⟨cx,cr,h1,h2,h3⟩:=hS.focus hl
 rw[he]at h2
 refine⟨cx,cr++([(b,Obj.cells (M.cells p).toArray 73 (0,0))]++(cm++(cr0++cr1))),fun z=>?_,h2,fun x' cx' hw hid hA=>?_⟩
 ·have:=h1 z
  simp only[cnt_append]at this⊢
  omega
 ·obtain⟨c',h4,h5⟩:=h3 x' cx' hA
  have hmd2:=hmd.put hw hid
  refine⟨[(b,Obj.cells (M.cells p).toArray 73 (0,0))]++(cm++(cr0++(cr1++c'))),⟨M.setS i x',ps,⟨p,cm,cr0,cr1,c',rfl,?_,hR0,hR1,h4⟩,hmd2.wf,hmd2.abs⟩,fun z=>?_⟩
  ·refine hMp.congr fun k=>?_
   show ptrOf M.str ps k=ptrOf (M.str.set i x') ps k
   unfold ptrOf
   rw[idxS_set hx (hid.trans hxid.symm)]
  ·have:=h5 z
   simp only[cnt_append]at this⊢
   omega
theorem asOpenNo_c {A:SdM}{b:Nat}{c:Hp}{uni:Bool}(hA:AsAt A b c)(hs:Sub c G)(hn:(A.kn (if uni=true then 1 else 0)).may≤(A.kn (if uni=true then 1 else 0)).op):
  Go.Sl.Fn Tryz.prog 17 #[.pointer (some ⟨b,0,none⟩),.bool uni] B w0 G fun u G'=>u=.tuple #[.int .u64 0,.int .i64 15]∧G'=G:=by
 obtain⟨M,ps,hM,hw,rfl⟩:=hA
 exact openNo_c hM hs hn
theorem asOpen_c {A:SdM}{b:Nat}{c:Hp}{uni:Bool}(hsel:Sel G c R)(hA:AsAt A b c)(hn:(A.kn (if uni=true then 1 else 0)).op<(A.kn (if uni=true then 1 else 0)).may)(hb:(A.kn (if uni=true then 1 else 0)).op<1000000):
  Go.Sl.Fn Tryz.prog 17 #[.pointer (some ⟨b,0,none⟩),.bool uni] B w0 G fun u G'=>∃y:Int×Hp,u=.tuple #[.int .u64 y.1,.int .i64 0]∧AsAt (A.opened (if uni=true then 1 else 0)) b y.2∧G'=R y.2:=by
 obtain⟨M,ps,hM,hw,rfl⟩:=hA
 cases uni with
 |false=>
  refine(open0_c hsel hM hw hn).mono fun u G' h=>?_
  obtain⟨y,rfl,hy,rfl⟩:=h
  obtain⟨h1,h2⟩:=SsM.opened_wf hw (.inl rfl) hb
  exact⟨(_,y.2),rfl,⟨_,_,hy,h1,h2⟩,rfl⟩
 |true=>
  refine(open1_c hsel hM hw hn).mono fun u G' h=>?_
  obtain⟨y,rfl,hy,rfl⟩:=h
  obtain⟨h1,h2⟩:=SsM.opened_wf hw (.inr rfl) hb
  exact⟨(_,y.2),rfl,⟨_,_,hy,h1,h2⟩,rfl⟩
theorem finish_wf {m:BufM}(hm:m.WF):m.finish.WF:=by
 unfold BufM.finish
 split
 ·exact hm
 exact⟨hm.low,hm.top,hm.gp,hm.gc,hm.ip,hm.ic,hm.dis,hm.gone,hm.max_⟩
theorem SmM.WF.finish {x:SmM}(h:x.WF):x.finish.WF:=by
 unfold SmM.finish
 split
 ·exact h
 ·next hs=>
  cases ho:x.out with
  |none=>exact h
  |some m=>
   dsimp only
   split
   ·exact h
   ·refine⟨h.id,h.giv,h.got,h.reset,h.stop,h.code,h.inn,fun m' e=>by cases e;have hm:=h.out m ho;exact finish_wf hm,⟨⟨fun e=>absurd e (by show (2:Int)≠0;decide),fun e=>by cases e⟩,by show (0:Int)≤2∧(2:Int)≤5;decide⟩,h.recv⟩
theorem SmM.WF.unwant {x:SmM}{c:Int}(h:x.WF)(hc:0≤c∧c≤4611686018427387903):(x.unwant c).WF:=by
 unfold SmM.unwant
 split
 ·exact⟨h.id,h.giv,h.got,h.reset,hc,h.code,h.inn,h.out,h.send,h.recv⟩
 ·exact h
theorem finish_id {x:SmM}:x.finish.id=x.id:=by
 unfold SmM.finish
 split
 ·rfl
 ·cases x.out with
  |none=>rfl
  |some m=>dsimp only;split<;>rfl
theorem unwant_id {x:SmM}{c:Int}:(x.unwant c).id=x.id:=by
 unfold SmM.unwant
 split<;>rfl
theorem setW_i {P:PrM}{i:Bool}{id:Int}{W:List UInt8}:(P.setW i id W).wr i=(fun j=>if j=id then W else P.wr i j)∧(P.setW i id W).wr (!i)=P.wr (!i):=by
 refine⟨?_,?_⟩
 ·funext j
  by_cases h:j=id
  ·exact(if_pos ⟨rfl,h⟩).trans (if_pos h).symm
  ·exact(if_neg fun e=>h e.2).trans (if_neg h).symm
 ·funext j;exact if_neg fun e=>not_ne i e.1
theorem PrC.Ok.setW {C:PrC}{P:PrM}{p:PrP}(h:C.Ok P p){i:Bool}{id:Int}{W:List UInt8}{c:Hp}(hr:BmAt (fun j=>if j=id then W else P.wr i j) (p.w i) c):PrC.Ok {C with w:=upB C.w i c} (P.setW i id W) p:=by
 obtain⟨e1,e2⟩:=setW_i (P:=P) (i:=i) (id:=id) (W:=W)
 refine⟨h.s,bool_two i ?_ ?_,h.r,h.e⟩
 ·rw[e1];show BmAt _ _ (upB C.w i c i);rw[upB_i];exact hr
 ·rw[e2];show BmAt _ _ (upB C.w i c (!i));rw[upB_n];exact h.w _
theorem smWriteY_c {x:SmM}{b:Nat}{c:Hp}{ao:Option Addr}{n cap:Nat}{l:List UInt8}(hsel:Sel G c R)(hx:SmAt x b c)(hw:x.WF)(hV:Vw enB (St B w0 G) (.slice ao n cap) l)(hl:x.wrote+l.length≤65536)(hE:x.writeE=0):
  Go.Sl.Fn Tryz.prog 18 #[.pointer (some ⟨b,0,none⟩),.slice ao n cap] B w0 G fun u G'=>∃c':Hp,u=.tuple #[.int .i64 (l.length:Int),.int .i64 0]∧SmAt (x.write l) b c'∧G'=R c':=by
 have h:=smWrite_c hsel hx hw hV hl
 rw[hE]at h
 exact h
theorem smWriteN_c {x:SmM}{b:Nat}{c:Hp}{ao:Option Addr}{n cap:Nat}(hsel:Sel G c R)(hx:SmAt x b c)(hs:x.send≠1):
  Go.Sl.Fn Tryz.prog 18 #[.pointer (some ⟨b,0,none⟩),.slice ao n cap] B w0 G fun u G'=>∃c':Hp,u=.tuple #[.int .i64 0,.int .i64 16]∧SmAt x b c'∧G'=R c':=by
 refine Fn.sel0 hsel fun F hR hF=>?_
 obtain⟨p,ci,co,rfl,hI,hO⟩:=hx
 refine fn_enter Tryz.func18 rfl (by kernel_rfl) Tryz.ntmps18 (by simp) ?_
 refine cw_cov ([(b,.cells (x.cells p).toArray 55 (0,0))]::ci::co::F) zcov ?_
 refine qs<|qa<|qa<|qt<|cw_seq<|qs<|qm<|qv (v_eql_nil_some Tryz.underlying45 rfl)<|qt<|cw_false rfl<|cw_skip<|xw_then ?_
 refine cw_seq<|qs<|qm<|qn<|qf Ty.fd55_1<|ql (Var.at1 Ty.sc47 .here (GetN.lit rfl))<|qv (v_neq rfl rfl)<|qt ?_
 refine cw_dec rfl (fun hc12=>?_) (fun hc12=>?_)
 rotate_left;(exfalso;omega);rotate_right
 refine qs<|qa<|qa<|qt<|cw_ret<|xw_then_ret<|ret2 rfl (res_tmp rfl) (res_tmp rfl) ?_
 exact⟨_,rfl,⟨p,ci,co,rfl,hI,hO⟩,zcov⟩
set_option maxHeartbeats 8000000 in
theorem do_c {P:PrM}{p:PrP}{b n:Nat}{c:Hp}{a:ActO}{D one many:Int}(hsel:Sel G c R)(hP:PrAt P p b c)(h:Inv P D one many n)(ha:a.Ok B w0)(hl:a.data.length≤100)(hn:n+1≤50):
  Go.Sl.Fn Tryz.prog 8 #[.pointer (some ⟨b,0,none⟩),.agg a.cells.toArray] B w0 G fun u G'=>∃y:PrM×Hp,u=.tuple #[]∧(Inv y.1 D one many (n+1)∧PrAt y.1 p b y.2∧ActN P y.1)∧G'=R y.2:=by
 have hw0:ActN P P:=SameN.refl.act
 have hws:∀{Q:PrM},SameN P Q→ActN P Q:=fun h=>h.act
 refine Fn.sel0 hsel fun F hR hF=>?_
 obtain⟨C,hC,rfl⟩:=hP
 generalize hi:a.side=i
 have hiv:=iv_b i
 have hcn:=PrC.cnt_ (C:=C) (p:=p) (b:=b) i
 have hal:a.cells.length=7:=rfl
 have hao:=a.one
 have hk:=ha.kind;have hid:=ha.id;have hmn:=ha.many
 refine fn_enter Tryz.func8 rfl (by kernel_rfl) Tryz.ntmps8 (by simp) ?_
 refine cw_cov ([(b,.cells p.cells.toArray 42 (0,0))]::C.s i::C.s (!i)::C.w i::C.w (!i)::C.r i::C.r (!i)::C.e i::C.e (!i)::F) (zcv1 hcn) ?_
 have fin:∀(A:SdM) (d:Hp),AsAt A (p.s i) d→∃c',PrAt (P.set2 i A (P.s (!i))) p b c'∧∀z,cnt z c'=cnt z [(b,Obj.cells p.cells.toArray 42 (0,0))]+(cnt z d+(cnt z (C.s (!i))+(cnt z (C.w i)+(cnt z (C.w (!i))+(cnt z (C.r i)+(cnt z (C.r (!i))+(cnt z (C.e i)+cnt z (C.e (!i))))))))):=fun A d hA=>by
  have hC2:=hC.setS hA
  have hcn2:=PrC.cnt_ (C:={C with s:=upB C.s i d}) (p:=p) (b:=b) i
  simp only[upB_i,upB_n]at hcn2
  exact⟨_,⟨_,hC2,rfl⟩,hcn2⟩
 have same:P.set2 i (P.s i) (P.s (!i))=P:=PrM.set2_same
 have hI1:Inv P D one many (n+1):=h.mono ⟨by omega,hn⟩
 refine qs ?_
 refine ow_box rfl rfl rfl rfl fun b3=>qt<|qs<|qa<|qt ?_
 refine cw_cut2 (ι:=(Unit)) [(0,_),(3,_)] ⟨rfl,rfl,trivial⟩ ((fun _=>[(4,.int .i64 (iv i))])) ((fun _=>True)) ((fun _=>[(b3,.cells a.cells.toArray 30 (0,0))]::[(b,.cells p.cells.toArray 42 (0,0))]::C.s i::C.s (!i)::C.w i::C.w (!i)::C.r i::C.r (!i)::C.e i::C.e (!i)::F)) ?_ ?_
 ·refine cw_seq ?_
  refine cw_region ?_
  refine qf Ty.fd30_4 ?_
  refine ql (Var.at1 Ty.sc4 .here (GetN.lit rfl))<|qt ?_
  refine cw_bool rfl (fun hc13=>?_) (fun hc13=>?_)
  refine cw_region<|qa<|ow_nil ?_
  rotate_left
  refine cw_skip ?_
  rotate_left
  ·have e:i=true:=hi.symm.trans hc13
   subst e
   exact xw_joint () trivial zcov zenv
  ·have e:i=false:=hi.symm.trans hc13
   subst e
   exact xw_joint () trivial zcov zenv
 rintro _ -
 refine qs<|qm<|qm<|qn ?_
 refine qf Ty.fd42_0 ?_
 refine qv (v_indexAddrA Tryz.underlying36 Ty.el36 rfl rfl (Int.toNat_of_nonneg zom).symm zom) ?_
 refine ql (Var.at1 Ty.sc35 (.there .here) (PrP.gs))<|qa<|qt<|qs<|qm ?_
 (refine ow_call rfl rfl rfl rfl (asList_c (hC.s i) zhas (h.kn_b i)) ?_;rintro _ _ ⟨x21,rfl,hq21,rfl⟩)
 refine qa<|qt<|cw_seq<|qs ?_
 refine qf Ty.fd30_0 ?_
 refine ql (Var.at1 Ty.sc5 (.there .here) (GetN.lit rfl)) ?_
 refine qv (v_remP rfl rfl zom zom) ?_
 refine qv (v_lss rfl rfl)<|qt ?_
 refine cw_dec rfl (fun hc25=>?_) (fun hc25=>?_)
 rotate_left
 refine cw_skip<|xw_then<|cw_seq<|qs<|qm ?_
 refine qv (v_len rfl Tryz.underlying34 rfl) ?_
 refine qv (v_eql rfl rfl)<|qt ?_
 refine cw_dec rfl (fun hc32=>?_) (fun hc32=>?_)
 refine cw_ret ?_
 refine xw_then_ret ?_
 refine ret0 rfl ?_
 rotate_left
 refine cw_skip<|xw_then<|qs<|qm ?_
 refine qf Ty.fd30_1 ?_
 refine ql (Var.at1 Ty.sc5 (.there .here) (GetN.lit rfl)) ?_
 refine qv (v_convert Tryz.underlying5 Tryz.underlying3 rfl (nw_i64 zom zom))<|qm ?_
 refine qv (v_len rfl Tryz.underlying34 rfl) ?_
 refine qv (v_remP rfl rfl zom zom) ?_
 rotate_left
 ·by_cases hno:((P.s i).kn (if a.uni=true then 1 else 0)).may≤((P.s i).kn (if a.uni=true then 1 else 0)).op
  ·refine cw_seq ?_
   refine cw_region<|qm ?_
   refine qf Ty.fd30_5 ?_
   refine ql (Var.at1 Ty.sc4 (.there .here) (GetN.lit rfl)) ?_
   refine qv (v_call rfl rfl (asOpenNo_c (hC.s i) zhas hno))<|qt ?_
   refine cw_ret ?_
   refine xw_then_ret ?_
   refine ret0 rfl ?_
   obtain⟨c',h1,h2⟩:=fin (P.s i) (C.s i) (hC.s i)
   rw[same]at h1
   exact⟨(P,c'),rfl,⟨hI1,h1,hw0⟩,(zcv1 h2)⟩
  ·have hkk:(if a.uni=true then (1:Int) else 0)=0∨(if a.uni=true then (1:Int) else 0)=1:=by split<;>simp
   have hob:=(h.kn_b i _ hkk).1
   have hlt:((P.s i).kn (if a.uni=true then 1 else 0)).op<((P.s i).kn (if a.uni=true then 1 else 0)).may:=by omega
   refine qs<|qm ?_
   refine qf Ty.fd30_5 ?_
   refine ql (Var.at1 Ty.sc4 (.there .here) (GetN.lit rfl)) ?_
   (refine ow_call rfl rfl rfl rfl (asOpen_c zsel (hC.s i) hlt zom) ?_;rintro _ _ ⟨x29,rfl,hq29,rfl⟩)
   refine qt ?_
   refine cw_ret ?_
   refine xw_then_ret ?_
   refine ret0 rfl ?_
   obtain⟨c',h1,h2⟩:=fin _ _ hq29
   exact⟨(_,c'),rfl,⟨h.opened hkk hlt hn,h1,ActN.opened hkk⟩,(zcv1 h2)⟩
 ·obtain⟨c',h1,h2⟩:=fin (P.s i) (C.s i) (hC.s i)
  rw[same]at h1
  exact⟨(P,c'),rfl,⟨hI1,h1,hw0⟩,(zcv1 h2)⟩
 obtain⟨l,lo,lc,cl⟩:=x21
 obtain⟨hPm,hL⟩:=hq21
 dsimp only at hPm hL hc32⊢
 obtain⟨j,hj⟩:∃j:Nat,a.id%(l.length:Int)=j:=⟨(a.id%(l.length:Int)).toNat,by have:=Int.emod_nonneg a.id hc32;omega⟩
 have hjl:j<l.length:=by have:=Int.emod_lt_of_pos a.id (b:=(l.length:Int)) zom;omega
 rw[hj]
 have hhas:(P.s i).has l[j]:=SdM.ids_has.1 (hPm.mem_iff.1 (List.getElem_mem hjl))
 obtain⟨i0,i1⟩:=h.has_lt hhas
 have hNS:(NS:Int)=400:=rfl
 have hidb:0≤l[j]∧l[j]≤18446744073709551615:=⟨i0,by omega⟩
 have hxw:=(hC.s i).wf_x hidb
 have hokm:enQ.ok l[j]:=hidb
 refine ow_val rfl rfl (v_indexAddr_ls Tryz.underlying34 (qTy) rfl rfl zas rfl zom) ?_
 refine ql (Go.Sl.Vw.var (qTy) ((Go.Sl.Ls.vw hL zhas)) zom)<|qa<|qt<|qs<|qm<|qm ?_
 (refine ow_call rfl rfl rfl rfl (asGet_c zsel (hC.s i) hidb hhas) ?_;rintro _ _ ⟨x44,rfl,hq44,rfl⟩)
 refine qa<|qt<|qs ?_
 refine qf Ty.fd30_0 ?_
 refine ql (Var.at1 Ty.sc5 (.there .here) (GetN.lit rfl)) ?_
 refine qv (v_remP rfl rfl zom zom)<|qa<|qt ?_
 refine cw_block<|qs<|qm ?_
 refine qv (v_lss rfl rfl) ?_
 refine qa<|qt ?_
 refine cw_dec rfl (fun hc53=>?_) (fun hc53=>?_)
 rotate_left
 refine qs<|qm ?_
 refine qv (v_eql rfl rfl)<|qa<|qt ?_
 refine cw_dec rfl (fun hc85=>?_) (fun hc85=>?_)
 refine cw_region<|qm ?_
 rotate_left
 refine qs<|qm ?_
 refine qv (v_lss rfl rfl)<|qa<|qt ?_
 refine cw_dec rfl (fun hc90=>?_) (fun hc90=>?_)
 refine cw_region<|qm<|qm<|qm ?_
 refine qf Ty.fd30_3 ?_
 refine ql (Var.at1 Ty.sc5 (.there .here) (GetN.lit rfl)) ?_
 refine qv (v_convert Tryz.underlying5 Tryz.underlying3 rfl (nw_i64 zom zom)) ?_
 rotate_left
 refine qs<|qm ?_
 refine qv (v_eql rfl rfl)<|qa<|qt ?_
 refine cw_dec rfl (fun hc100=>?_) (fun hc100=>?_)
 refine cw_region<|qm ?_
 refine qf Ty.fd30_1 ?_
 refine ql (Var.at1 Ty.sc5 (.there .here) (GetN.lit rfl)) ?_
 refine qv (v_convert Tryz.underlying5 Tryz.underlying27 rfl (nw_u64 zom zom)) ?_
 rotate_left
 refine cw_region<|qm ?_
 refine qf Ty.fd30_1 ?_
 refine ql (Var.at1 Ty.sc5 (.there .here) (GetN.lit rfl)) ?_
 refine qv (v_convert Tryz.underlying5 Tryz.underlying27 rfl (nw_u64 zom zom)) ?_
 rotate_left
 all_goals
  obtain⟨qb,a5⟩:=x44
  dsimp only at hq44⊢
 all_goals obtain⟨cx,cr,hcs,hSm,bk⟩:=hq44.stream
 · -- written
  refine cw_cov (cl::[(b3,.cells a.cells.toArray 30 (0,0))]::[(b,.cells p.cells.toArray 42 (0,0))]::cx::cr::C.s (!i)::C.w i::C.w (!i)::C.r i::C.r (!i)::C.e i::C.e (!i)::F) (zcv1 hcs) ?_
  by_cases hsd:((P.s i).x l[j]).send=1
  ·obtain⟨hE,hwl,_,⟨o,hxo,how⟩,hI2⟩:=h.write hhas hsd hl hn
   have hW0:=hC.w i
   obtain⟨g,cm,ck,crw,ao,cap,hfc,hM,hg,hLw,back⟩:=hW0.focus l[j] i0
   have hwl2:=h.wl60 (a:=i) hhas
   have hdl:a.data.length=a.len:=ha.data
   have hcap:=ha.cap
   have hvw:∀G,Vw enB (St B w0 G) (.slice a.ao a.data.length a.cap) a.data:=fun G=>by rw[hdl];exact ha.vw G
   refine qs<|qm ?_
   refine qf Ty.fd30_2 ?_
   refine ql (Var.at1 Ty.sc28 (.there .here) (GetN.lit rfl)) ?_
   (refine ow_call rfl rfl rfl rfl (smWriteY_c zsel hSm hxw.1 (ha.vw _) hwl hE) ?_;rintro _ _ ⟨x60,rfl,hq60,rfl⟩)
   refine qm ?_
   refine qv (v_extract rfl rfl) ?_
   refine qv (v_extract rfl rfl)<|qa<|qa<|qt ?_
   refine cw_cov (cm::ck::crw::[(b3,.cells a.cells.toArray 30 (0,0))]::[(b,.cells p.cells.toArray 42 (0,0))]::x60::cr::cl::C.s (!i)::C.w (!i)::C.r i::C.r (!i)::C.e i::C.e (!i)::F) (zcv1 hfc) ?_
   have hxid:(((P.s i).x l[j]).write a.data).id=l[j]:=by rw[hxo];exact hxw.2
   have hxw2:(((P.s i).x l[j]).write a.data).WF:=by rw[hxo];exact hxw.1.outTo how zom
   obtain⟨c1,hA1,hc1⟩:=bk _ x60 hxw2 hxid hq60
   have hC1:=hC.setS hA1
   have don:∀(ao2:Option Addr) (cap2:Nat) (cm2 ck2:Hp),MapG .u64 (fun k=>if k=l[j] then some (.slice ao2 (P.wr i l[j]++a.data).length cap2) else g k) (p.w i) cm2→Ls enB 5 (.slice ao2 (P.wr i l[j]++a.data).length cap2) ck2 (P.wr i l[j]++a.data)→
     ∃c',PrAt ((P.set2 i ((P.s i).put l[j] (((P.s i).x l[j]).write a.data)) (P.s (!i))).setW i l[j] (P.wr i l[j]++a.data)) p b c'∧∀z,cnt z c'=cnt z [(b,Obj.cells p.cells.toArray 42 (0,0))]+((cnt z x60+cnt z cr)+(cnt z (C.s (!i))+((cnt z cm2+(cnt z ck2+cnt z crw))+(cnt z (C.w (!i))+(cnt z (C.r i)+(cnt z (C.r (!i))+(cnt z (C.e i)+cnt z (C.e (!i))))))))):=fun ao2 cap2 cm2 ck2 hM2 hL2=>by
    obtain⟨c3,hB3,hc3⟩:=back _ ao2 cap2 cm2 ck2 hM2 hL2
    have hC2:=hC1.setW (i:=i) (id:=l[j]) hB3
    have hcn2:=PrC.cnt_ (C:={C with s:=upB C.s i c1,w:=upB C.w i c3}) (p:=p) (b:=b) i
    simp only[upB_i,upB_n]at hcn2
    refine⟨_,⟨_,hC2,rfl⟩,fun z=>?_⟩
    rw[hcn2 z,hc3 z,hc1 z]
   refine qs<|qm ?_
   refine qv (v_eql rfl rfl)<|qt ?_
   refine cw_true rfl ?_
   refine cw_any Ty.mixed ?_
   refine aw_pure 0 rfl zdk rfl rfl (v_move rfl) rfl ?_
   refine aw_pure 1 rfl zdk rfl rfl (v_move rfl) rfl ?_
   refine aw_pure 2 rfl zdk rfl rfl (v_nilCheck rfl) rfl ?_
   refine aw_pure 3 rfl zdk rfl rfl (v_fieldAddr0 Ty.fd42_1 rfl) rfl ?_
   refine aw_pure 4 rfl zdk rfl rfl (v_indexAddrA Tryz.underlying38 Ty.el38 rfl rfl (Int.toNat_of_nonneg zom).symm zom) rfl ?_
   refine aw_pure 6 rfl zdk rfl rfl (v_move rfl) rfl ?_
   refine aw_pure 7 rfl zdk rfl rfl (v_move rfl) rfl ?_
   refine aw_pure 8 rfl zdk rfl rfl (v_move rfl) rfl ?_
   refine aw_pure 9 rfl zdk rfl rfl (v_nilCheck rfl) rfl ?_
   refine aw_pure 10 rfl zdk rfl rfl (v_fieldAddr0 Ty.fd42_1 rfl) rfl ?_
   refine aw_pure 11 rfl zdk rfl rfl (v_indexAddrA Tryz.underlying38 Ty.el38 rfl rfl (Int.toNat_of_nonneg zom).symm zom) rfl ?_
   refine aw_pure 13 rfl zdk rfl rfl (v_move rfl) rfl ?_
   refine aw_pure 15 rfl zdk rfl rfl (v_fieldAddr0 Ty.fd30_2 rfl) rfl ?_
   refine aw_pure 17 rfl zdk rfl rfl (v_move rfl) rfl ?_
   refine aw_step3 5 12 16 zdk rfl rfl rfl ?_ ?_ ?_
   refine ql (Var.at1 Ty.sc37 (.there (.there (.there (.there .here)))) (PrP.gw))<|qx ?_
   refine aw_step2 12 16 zdk rfl rfl ?_ ?_
   refine ql (Var.at1 Ty.sc37 (.there (.there (.there (.there .here)))) (PrP.gw))<|qx ?_
   refine aw_step2 14 16 zdk rfl rfl ?_ ?_
   refine qv ((v_bytes rfl rfl zhas hM hg))<|qx ?_
   refine aw_step1 16 zdk rfl ?_
   refine ql (Var.at1 Ty.sc28 (.there (.there (.there .here))) (GetN.lit rfl))<|qx ?_
   refine aw_pure 18 rfl zdk rfl rfl (v_slice_nh Tryz.underlying28 Ty.el28 rfl rfl rfl zom) rfl ?_
   refine aw_step1 19 zdk rfl ?_
   (refine ow_appendL rfl rfl Tryz.underlying28 Tryz.underlying28 Ty.em28 (u8Ty) rfl rfl zas zsel (hvw _) zlo zlo ?_;intro ao84 cap84 c84 hL84)
   refine qx ?_
   refine aw_step1 20 zdk rfl ?_
   rotate_left
   refine ql (Var.at1 Ty.sc28 (.there (.there (.there .here))) (GetN.lit rfl))<|qx ?_
   refine aw_pure 18 rfl zdk rfl rfl (v_slice_nh Tryz.underlying28 Ty.el28 rfl rfl rfl zom) rfl ?_
   refine aw_step1 14 zdk rfl ?_
   refine qv ((v_bytes rfl rfl zhas hM hg))<|qx ?_
   refine aw_step1 19 zdk rfl ?_
   (refine ow_appendL rfl rfl Tryz.underlying28 Tryz.underlying28 Ty.em28 (u8Ty) rfl rfl zas zsel (hvw _) zlo zlo ?_;intro ao84 cap84 c84 hL84)
   refine qx ?_
   refine aw_step1 20 zdk rfl ?_
   rotate_left
   refine ql (Var.at1 Ty.sc28 (.there (.there (.there .here))) (GetN.lit rfl))<|qx ?_
   refine aw_pure 18 rfl zdk rfl rfl (v_slice_nh Tryz.underlying28 Ty.el28 rfl rfl rfl zom) rfl ?_
   refine aw_step1 12 zdk rfl ?_
   refine ql (Var.at1 Ty.sc37 (.there (.there (.there (.there .here)))) (PrP.gw))<|qx ?_
   refine aw_step1 14 zdk rfl ?_
   refine qv ((v_bytes rfl rfl zhas hM hg))<|qx ?_
   refine aw_step1 19 zdk rfl ?_
   (refine ow_appendL rfl rfl Tryz.underlying28 Tryz.underlying28 Ty.em28 (u8Ty) rfl rfl zas zsel (hvw _) zlo zlo ?_;intro ao84 cap84 c84 hL84)
   refine qx ?_
   refine aw_step1 20 zdk rfl ?_
   rotate_left
   refine ql (Var.at1 Ty.sc37 (.there (.there (.there (.there .here)))) (PrP.gw))<|qx ?_
   refine aw_step3 5 14 16 zdk rfl rfl rfl ?_ ?_ ?_
   refine ql (Var.at1 Ty.sc37 (.there (.there (.there (.there .here)))) (PrP.gw))<|qx ?_
   refine aw_step2 14 16 zdk rfl rfl ?_ ?_
   refine qv ((v_bytes rfl rfl zhas hM hg))<|qx ?_
   refine aw_step1 16 zdk rfl ?_
   refine ql (Var.at1 Ty.sc28 (.there (.there (.there .here))) (GetN.lit rfl))<|qx ?_
   refine aw_pure 18 rfl zdk rfl rfl (v_slice_nh Tryz.underlying28 Ty.el28 rfl rfl rfl zom) rfl ?_
   refine aw_step1 19 zdk rfl ?_
   (refine ow_appendL rfl rfl Tryz.underlying28 Tryz.underlying28 Ty.em28 (u8Ty) rfl rfl zas zsel (hvw _) zlo zlo ?_;intro ao84 cap84 c84 hL84)
   refine qx ?_
   refine aw_step1 20 zdk rfl ?_
   rotate_left
   refine ql (Var.at1 Ty.sc28 (.there (.there (.there .here))) (GetN.lit rfl))<|qx ?_
   refine aw_pure 18 rfl zdk rfl rfl (v_slice_nh Tryz.underlying28 Ty.el28 rfl rfl rfl zom) rfl ?_
   refine aw_step1 14 zdk rfl ?_
   refine qv ((v_bytes rfl rfl zhas hM hg))<|qx ?_
   refine aw_step1 19 zdk rfl ?_
   (refine ow_appendL rfl rfl Tryz.underlying28 Tryz.underlying28 Ty.em28 (u8Ty) rfl rfl zas zsel (hvw _) zlo zlo ?_;intro ao84 cap84 c84 hL84)
   refine qx ?_
   refine aw_step1 20 zdk rfl ?_
   rotate_left
   refine qv ((v_bytes rfl rfl zhas hM hg))<|qx ?_
   refine aw_step2 5 16 zdk rfl rfl ?_ ?_
   refine ql (Var.at1 Ty.sc37 (.there (.there (.there (.there .here)))) (PrP.gw))<|qx ?_
   refine aw_step1 16 zdk rfl ?_
   refine ql (Var.at1 Ty.sc28 (.there (.there (.there .here))) (GetN.lit rfl))<|qx ?_
   refine aw_pure 18 rfl zdk rfl rfl (v_slice_nh Tryz.underlying28 Ty.el28 rfl rfl rfl zom) rfl ?_
   refine aw_step1 19 zdk rfl ?_
   (refine ow_appendL rfl rfl Tryz.underlying28 Tryz.underlying28 Ty.em28 (u8Ty) rfl rfl zas zsel (hvw _) zlo zlo ?_;intro ao84 cap84 c84 hL84)
   refine qx ?_
   refine aw_step1 20 zdk rfl ?_
   rotate_left
   refine ql (Var.at1 Ty.sc28 (.there (.there (.there .here))) (GetN.lit rfl))<|qx ?_
   refine aw_pure 18 rfl zdk rfl rfl (v_slice_nh Tryz.underlying28 Ty.el28 rfl rfl rfl zom) rfl ?_
   refine aw_step2 5 19 zdk rfl rfl ?_ ?_
   refine ql (Var.at1 Ty.sc37 (.there (.there (.there (.there .here)))) (PrP.gw))<|qx ?_
   refine aw_step1 19 zdk rfl ?_
   (refine ow_appendL rfl rfl Tryz.underlying28 Tryz.underlying28 Ty.em28 (u8Ty) rfl rfl zas zsel (hvw _) zlo zlo ?_;intro ao84 cap84 c84 hL84)
   refine qx ?_
   refine aw_step1 20 zdk rfl ?_
   rotate_left
   (refine ow_appendL rfl rfl Tryz.underlying28 Tryz.underlying28 Ty.em28 (u8Ty) rfl rfl zas zsel (hvw _) zlo zlo ?_;intro ao84 cap84 c84 hL84)
   refine qx ?_
   refine aw_step1 5 zdk rfl ?_
   refine ql (Var.at1 Ty.sc37 (.there (.there (.there (.there .here)))) (PrP.gw))<|qx ?_
   refine aw_step1 20 zdk rfl ?_
   rotate_left
   refine ql (Var.at1 Ty.sc28 (.there (.there (.there .here))) (GetN.lit rfl))<|qx ?_
   refine aw_pure 18 rfl zdk rfl rfl (v_slice_nh Tryz.underlying28 Ty.el28 rfl rfl rfl zom) rfl ?_
   refine aw_step2 5 14 zdk rfl rfl ?_ ?_
   refine ql (Var.at1 Ty.sc37 (.there (.there (.there (.there .here)))) (PrP.gw))<|qx ?_
   refine aw_step1 14 zdk rfl ?_
   refine qv ((v_bytes rfl rfl zhas hM hg))<|qx ?_
   refine aw_step1 19 zdk rfl ?_
   (refine ow_appendL rfl rfl Tryz.underlying28 Tryz.underlying28 Ty.em28 (u8Ty) rfl rfl zas zsel (hvw _) zlo zlo ?_;intro ao84 cap84 c84 hL84)
   refine qx ?_
   refine aw_step1 20 zdk rfl ?_
   rotate_left
   refine qv ((v_bytes rfl rfl zhas hM hg))<|qx ?_
   refine aw_step2 5 19 zdk rfl rfl ?_ ?_
   refine ql (Var.at1 Ty.sc37 (.there (.there (.there (.there .here)))) (PrP.gw))<|qx ?_
   refine aw_step1 19 zdk rfl ?_
   (refine ow_appendL rfl rfl Tryz.underlying28 Tryz.underlying28 Ty.em28 (u8Ty) rfl rfl zas zsel (hvw _) zlo zlo ?_;intro ao84 cap84 c84 hL84)
   refine qx ?_
   refine aw_step1 20 zdk rfl ?_
   rotate_left
   (refine ow_appendL rfl rfl Tryz.underlying28 Tryz.underlying28 Ty.em28 (u8Ty) rfl rfl zas zsel (hvw _) zlo zlo ?_;intro ao84 cap84 c84 hL84)
   refine qx ?_
   refine aw_step1 5 zdk rfl ?_
   refine ql (Var.at1 Ty.sc37 (.there (.there (.there (.there .here)))) (PrP.gw))<|qx ?_
   refine aw_step1 20 zdk rfl ?_
   rotate_left
   refine ql (Var.at1 Ty.sc28 (.there (.there (.there .here))) (GetN.lit rfl))<|qx ?_
   refine aw_pure 18 rfl zdk rfl rfl (v_slice_nh Tryz.underlying28 Ty.el28 rfl rfl rfl zom) rfl ?_
   refine aw_step2 5 12 zdk rfl rfl ?_ ?_
   refine ql (Var.at1 Ty.sc37 (.there (.there (.there (.there .here)))) (PrP.gw))<|qx ?_
   refine aw_step1 12 zdk rfl ?_
   refine ql (Var.at1 Ty.sc37 (.there (.there (.there (.there .here)))) (PrP.gw))<|qx ?_
   refine aw_step1 14 zdk rfl ?_
   refine qv ((v_bytes rfl rfl zhas hM hg))<|qx ?_
   refine aw_step1 19 zdk rfl ?_
   (refine ow_appendL rfl rfl Tryz.underlying28 Tryz.underlying28 Ty.em28 (u8Ty) rfl rfl zas zsel (hvw _) zlo zlo ?_;intro ao84 cap84 c84 hL84)
   refine qx ?_
   refine aw_step1 20 zdk rfl ?_
   rotate_left
   refine ql (Var.at1 Ty.sc37 (.there (.there (.there (.there .here)))) (PrP.gw))<|qx ?_
   refine aw_step2 5 14 zdk rfl rfl ?_ ?_
   refine ql (Var.at1 Ty.sc37 (.there (.there (.there (.there .here)))) (PrP.gw))<|qx ?_
   refine aw_step1 14 zdk rfl ?_
   refine qv ((v_bytes rfl rfl zhas hM hg))<|qx ?_
   refine aw_step1 19 zdk rfl ?_
   (refine ow_appendL rfl rfl Tryz.underlying28 Tryz.underlying28 Ty.em28 (u8Ty) rfl rfl zas zsel (hvw _) zlo zlo ?_;intro ao84 cap84 c84 hL84)
   refine qx ?_
   refine aw_step1 20 zdk rfl ?_
   rotate_left
   refine qv ((v_bytes rfl rfl zhas hM hg))<|qx ?_
   refine aw_step2 5 19 zdk rfl rfl ?_ ?_
   refine ql (Var.at1 Ty.sc37 (.there (.there (.there (.there .here)))) (PrP.gw))<|qx ?_
   refine aw_step1 19 zdk rfl ?_
   (refine ow_appendL rfl rfl Tryz.underlying28 Tryz.underlying28 Ty.em28 (u8Ty) rfl rfl zas zsel (hvw _) zlo zlo ?_;intro ao84 cap84 c84 hL84)
   refine qx ?_
   refine aw_step1 20 zdk rfl ?_
   rotate_left
   (refine ow_appendL rfl rfl Tryz.underlying28 Tryz.underlying28 Ty.em28 (u8Ty) rfl rfl zas zsel (hvw _) zlo zlo ?_;intro ao84 cap84 c84 hL84)
   refine qx ?_
   refine aw_step1 5 zdk rfl ?_
   refine ql (Var.at1 Ty.sc37 (.there (.there (.there (.there .here)))) (PrP.gw))<|qx ?_
   refine aw_step1 20 zdk rfl ?_
   rotate_left
   all_goals
    refine ow_mapUpdateG (kd:=.u64) rfl Tryz.underlying37 Tryz.underlying27 rfl rfl rfl zsel hM ?_
    intro cm' hM'
    refine qx ?_
    refine aw_end zdk ?_
    refine xw_np ?_
    refine xw_block ?_
    refine ret0n rfl ?_
    obtain⟨c',h1,h2⟩:=don ao84 cap84 cm' c84 hM' hL84
    exact⟨(_,c'),rfl,⟨hI2,h1,ActN.write (h.has_lt hhas) SameK.put.ope (AhE.put (by rw[hxo];exact⟨rfl,fun e=>e⟩)) hl⟩,(zcv1 h2)⟩
  ·have hE:((P.s i).x l[j]).writeE=16:=if_pos hsd
   refine qs<|qm ?_
   refine qf Ty.fd30_2 ?_
   refine ql (Var.at1 Ty.sc28 (.there .here) (GetN.lit rfl)) ?_
   (refine ow_call rfl rfl rfl rfl (smWriteN_c zsel hSm hsd) ?_;rintro _ _ ⟨x60,rfl,hq60,rfl⟩)
   refine qm ?_
   refine qv (v_extract rfl rfl) ?_
   refine qv (v_extract rfl rfl)<|qa<|qa<|qt<|qs<|qm ?_
   refine qv (v_eql rfl rfl)<|qt ?_
   refine cw_false rfl<|cw_skip ?_
   refine xw_block ?_
   refine ret0n rfl ?_
   obtain⟨c1,h1,h2⟩:=bk _ x60 hxw.1 hxw.2 hq60
   obtain⟨c',h3,h4⟩:=fin _ c1 h1
   rw[SdM.put_same,same]at h3
   exact⟨(P,c'),rfl,⟨hI1,h3,hw0⟩,(zcv2 h4 h2)⟩
 ·refine ow_cov (cl::[(b3,.cells a.cells.toArray 30 (0,0))]::[(b,.cells p.cells.toArray 42 (0,0))]::cx::cr::C.s (!i)::C.w i::C.w (!i)::C.r i::C.r (!i)::C.e i::C.e (!i)::F) (zcv1 hcs) ?_
  (refine ow_call rfl rfl rfl rfl (smFinish_c zsel hSm hxw.1) ?_;rintro _ _ ⟨x89,rfl,hq89,rfl⟩)
  refine ow_nil ?_
  refine xw_block ?_
  refine ret0n rfl ?_
  obtain⟨c1,h1,h2⟩:=bk _ x89 hxw.1.finish (finish_id.trans hxw.2) hq89
  obtain⟨c',h3,h4⟩:=fin _ c1 h1
  exact⟨(_,c'),rfl,⟨hI1.finish hhas,h3,hws (SameN.set2 SameK.put.ope (AhE.put finish_smS))⟩,(zcv2 h4 h2)⟩
 ·obtain⟨c',h3,h4⟩:=fin _ a5 hq44.as
  rw[same]at h3
  refine ow_cov (c'::cl::[(b3,.cells a.cells.toArray 30 (0,0))]::F) (zcv1 h4) ?_
  have hte:enQ.val l[j]=.int .u64 l[j]:=rfl
  (refine ow_call rfl rfl rfl rfl (take_c zsel h3 h hhas ⟨hmn.1,by omega⟩) ?_;rintro _ _ ⟨x99,rfl,hq99,rfl⟩)
  refine ow_nil ?_
  refine xw_block ?_
  refine ret0n rfl ?_
  exact⟨(_,x99),rfl,⟨hI1.take hhas hmn.1,hq99,hws wt_take⟩,zcov⟩
 ·refine ow_cov (cl::[(b3,.cells a.cells.toArray 30 (0,0))]::[(b,.cells p.cells.toArray 42 (0,0))]::cx::cr::C.s (!i)::C.w i::C.w (!i)::C.r i::C.r (!i)::C.e i::C.e (!i)::F) (zcv1 hcs) ?_
  (refine ow_call rfl rfl rfl rfl (smGiveUp_c zsel hSm zom) ?_;rintro _ _ ⟨x107,rfl,hq107,rfl⟩)
  refine ow_nil ?_
  refine xw_block ?_
  refine ret0n rfl ?_
  obtain⟨c1,h1,h2⟩:=bk _ x107 (hxw.1.giveUp hid.1) (giveUp_id.trans hxw.2) hq107
  obtain⟨c',h3,h4⟩:=fin _ c1 h1
  exact⟨(_,c'),rfl,⟨hI1.giveUp hhas zom,h3,hws (SameN.set2 SameK.put.ope (AhE.put giveUp_smS))⟩,(zcv2 h4 h2)⟩
 ·refine ow_cov (cl::[(b3,.cells a.cells.toArray 30 (0,0))]::[(b,.cells p.cells.toArray 42 (0,0))]::cx::cr::C.s (!i)::C.w i::C.w (!i)::C.r i::C.r (!i)::C.e i::C.e (!i)::F) (zcv1 hcs) ?_
  (refine ow_call rfl rfl rfl rfl (smUnwant_c zsel hSm zom) ?_;rintro _ _ ⟨x52,rfl,hq52,rfl⟩)
  refine ow_nil ?_
  refine xw_block ?_
  refine ret0n rfl ?_
  obtain⟨c1,h1,h2⟩:=bk _ x52 (hxw.1.unwant ⟨hid.1,by omega⟩) (unwant_id.trans hxw.2) hq52
  obtain⟨c',h3,h4⟩:=fin _ c1 h1
  exact⟨(_,c'),rfl,⟨hI1.unwant hhas,h3,hws (SameN.set2 SameK.put.ope (AhE.put unwant_smS))⟩,(zcv2 h4 h2)⟩
end Go.Proofs.YtnlaffkihohfkaaGreat
namespace Go.Proofs.YtnlaffkihohfkaaGreat
open Go Go.Sl Go.Proofs
variable {B:Nat}{w0:World}{G:List Hp}{R:Hp→List Hp}
def sumL (f:Int→Int):List Int→Int
 |[]=>0
 |a::l=>f a+sumL f l
theorem sumL_perm {f:Int→Int}{l m:List Int}(h:l.Perm m):sumL f l=sumL f m:=by
 induction h with
 |nil=>rfl
 |cons a _ ih=>simp only[sumL];omega
 |swap a b l=>simp only[sumL];omega
 |trans _ _ i1 i2=>omega
theorem sumL_app {f:Int→Int}{l m:List Int}:sumL f (l++m)=sumL f l+sumL f m:=by
 induction l with
 |nil=>simp[sumL]
 |cons a l ih=>simp only[List.cons_append,sumL,ih];omega
theorem sumL_all {f:Int→Int}{l:List Int}{n:Nat}(hn:l.Nodup)(hl:∀i∈l,0≤i∧i<n)(hz:∀i:Int,0≤i→i<n→i∉l→f i=0):sumL f l=sumTo f n:=by
 have key:∀(l:List Int),l.Nodup→(∀i∈l,0≤i∧i<n)→sumL f l=sumTo (fun i=>if i∈l then f i else 0) n:=by
  intro l
  induction l with
  |nil=>intro _ _;rw[sumTo_zero (f:=fun i=>if i∈([]:List Int) then f i else 0) fun i _ _=>by simp];rfl
  |cons a l ih=>
   intro hn hl
   obtain⟨h1,h2⟩:=List.nodup_cons.1 hn
   have hu:=sumTo_upd (f:=fun i=>if i∈l then f i else 0) (g:=fun i=>if i∈a::l then f i else 0) (n:=n) (hl a (List.mem_cons_self ..)).1 (hl a (List.mem_cons_self ..)).2 fun i hi=>by
    by_cases hil:i∈l
    ·rw[if_pos hil,if_pos (List.mem_cons_of_mem _ hil)]
    ·rw[if_neg hil,if_neg (fun h=>by rcases List.mem_cons.1 h with h|h;exact hi h;exact hil h)]
   rw[hu,if_pos (List.mem_cons_self ..),if_neg h1]
   have:=ih h2 fun i hi=>hl i (List.mem_cons_of_mem _ hi)
   simp only[sumL]
   omega
 rw[key l hn hl]
 refine sumTo_congr fun i h0 h1=>?_
 by_cases hi:i∈l
 ·rw[if_pos hi]
 ·rw[if_neg hi,hz i h0 h1 hi]
theorem idsK_nd {cl m:Bool}{k:Int}{n:Nat}(hk:k=0∨k=1):(idsK cl m k n).Nodup:=by
 unfold idsK
 rw[List.Nodup,List.pairwise_map]
 refine(List.nodup_range (n:=n)).imp fun {a b} hne h=>hne ?_
 have:=congrArg cnI h
 rw[idOf_cn hk,idOf_cn hk]at this
 omega
theorem ids_nd {A:SdM}:A.ids.Nodup:=by
 have key:∀k,(k=0∨k=1)→(A.idsOf k).Nodup∧∀x∈A.idsOf k,kdI x=k:=fun k hk=>by
  refine⟨List.nodup_append.2 ⟨idsK_nd hk,idsK_nd hk,fun a ha b hb hab=>?_⟩,fun x hx=>?_⟩
  ·unfold idsK at ha hb
   obtain⟨n,_,rfl⟩:=List.mem_map.1 ha
   obtain⟨m,_,hm⟩:=List.mem_map.1 hb
   have h1:A.mine (idOf A.cl true k n)=true:=SdM.mine_idOf
   rw[hab,←hm,SdM.mine_idOf]at h1
   cases h1
  ·rcases List.mem_append.1 hx with hx|hx<;>
   ·unfold idsK at hx
    obtain⟨n,_,rfl⟩:=List.mem_map.1 hx
    exact idOf_kd hk
 refine List.nodup_append.2 ⟨(key 0 (.inl rfl)).1,(key 1 (.inr rfl)).1,fun a ha b hb hab=>?_⟩
 have h1:=(key 0 (.inl rfl)).2 a ha
 have h2:=(key 1 (.inr rfl)).2 b hb
 rw[hab]at h1
 omega
theorem AsAt.fresh {A:SdM}{b:Nat}{c:Hp}(h:AsAt A b c){id:Int}(hh:¬A.has id):∃M:SsM,M.abs=A∧M.WF∧A.x id=M.fresh id (M.granted id):=by
 obtain⟨M,ps,hM,hw,rfl⟩:=h
 refine⟨M,rfl,hw,?_⟩
 show M.at id=_
 cases hx:idxS M.str id with
 |none=>exact SsM.at_none hx
 |some i=>
  obtain⟨h1,h2⟩:=SsM.at_idx hx
  have h3:=hw.ex _ (List.mem_of_getElem? h1)
  rw[h2]at h3
  exact absurd ⟨h3.2.1,h3.2.2⟩ hh
theorem AsAt.zero {A:SdM}{b:Nat}{c:Hp}(h:AsAt A b c){id:Int}(hh:¬A.has id):(A.x id).giv.used=0:=by
 obtain⟨M,_,_,e⟩:=h.fresh hh
 rw[e]
 unfold SsM.fresh
 dsimp only
 split<;>rfl
theorem Inv.sum_used {P:PrM}{D one many:Int}{n:Nat}{i:Bool}{b:Nat}{c:Hp}{l:List Int}(h:Inv P D one many n)(hA:AsAt (P.s i) b c)(hl:l.Perm (P.s i).ids):sumL (fun id=>((P.s i).x id).giv.used) l=(P.s i).giv.used:=by
 rw[sumL_perm hl,h.vu i]
 exact sumL_all ids_nd (fun j hj=>h.has_lt (SdM.ids_has.1 hj)) fun j _ _ hj=>hA.zero fun hh=>hj (SdM.ids_has.2 hh)
theorem AsAtM.streamR {A:SdM}{id:Int}{q b:Nat}{c:Hp}{G:List Hp}(h:AsAtM A id q b c)(hs:Sub c G):∃cx,Sub cx G∧SmAt (A.x id) q cx:=by
 obtain⟨cx,cr,h1,h2,_⟩:=h.stream
 exact⟨cx,fun z hz=>hs z (cnt_pos (by have:=mem_cnt' hz;have:=h1 z;omega)),h2⟩
theorem asCounts_c {A:SdM}{b:Nat}{c:Hp}{k:Int}(hA:AsAt A b c)(hs:Sub c G)(hk:k=0∨k=1):
  Go.Sl.Fn Tryz.prog 34 #[.pointer (some ⟨b,0,none⟩),.int .i64 k] B w0 G fun u G'=>u=.tuple #[.int .u64 (A.kn k).op,.int .u64 (A.kn k).may,.int .u64 (A.kn k).came,.int .u64 (A.kn k).giv]∧G'=G:=by
 obtain⟨M,ps,hM,hw,rfl⟩:=hA
 exact counts_c hM hs hk
theorem Dir.right {x y:SmM}{W Rd:List UInt8}{E:Bool}(h:Dir x y W Rd E):Rd.length≤W.length∧Rd=W.take Rd.length∧(E=true→Rd.length=W.length):=by
 rcases h with⟨k,r,f,h⟩|⟨r,h⟩|⟨k,r,f,h⟩|h
 ·have h1:Rd.length=r:=by rw[h.rd,List.length_take];have:=h.hk;have:=h.hr;omega
  rw[h1,h.en]
  exact⟨by have:=h.hk;have:=h.hr;omega,h.rd,fun e=>by cases e⟩
 ·have h1:Rd.length=r:=by rw[h.rd,List.length_take];have:=h.hr;omega
  rw[h1]
  refine⟨h.hr,h.rd,fun e=>?_⟩
  rcases h.rv with⟨_,e2⟩|⟨_,_,e2⟩
  ·rw[e]at e2;cases e2
  ·exact e2
 ·have h1:Rd.length=r:=by rw[h.rd,List.length_take];have:=h.hk;have:=h.hr;omega
  rw[h1,h.en]
  exact⟨by have:=h.hk;have:=h.hr;omega,h.rd,fun e=>by cases e⟩
 ·rw[h.rd,h.en]
  exact⟨by simp,by simp,fun e=>by cases e⟩
theorem Dir.places {x y:SmM}{W Rd:List UInt8}{E:Bool}(h:Dir x y W Rd E):x.base≤x.wrote∧x.wrote=W.length∧0≤x.base:=by
 have key:∀(k:Nat) (f e:Bool),k≤W.length→x.out=some (bufG W k f e)→x.base≤x.wrote∧x.wrote=W.length∧0≤x.base:=fun k f e hk ho=>by
  have e1:x.base=k:=by unfold SmM.base;rw[ho];rfl
  have e2:x.wrote=W.length:=by
   unfold SmM.wrote
   rw[ho]
   show (k:Int)+((W.drop k).length:Int)=_
   rw[List.length_drop];omega
  rw[e1,e2];omega
 rcases h with⟨k,r,f,h⟩|⟨r,h⟩|⟨k,r,f,h⟩|h
 ·exact key k f false h.hk h.out
 ·exact key _ true true (Nat.le_refl _) h.out
 ·exact key k f false h.hk h.out
 ·have e1:x.base=0:=by unfold SmM.base;rw[h.out];rfl
  have e2:x.wrote=0:=by unfold SmM.wrote;rw[h.out];rfl
  rw[e1,e2,h.w];simp
theorem SmM.WF.read_high {x:SmM}(h:x.WF):x.read≤x.high:=by
 unfold SmM.read SmM.high
 cases hi:x.inn with
 |none=>exact Int.le_refl _
 |some m=>exact(h.inn m hi).rd.2.1
structure RtS where
 j:Nat
 c:Hp
structure RtI where
 m:Nat
 z:Int
 a:Hp
set_option maxHeartbeats 8000000 in
theorem right_c {P:PrM}{p:PrP}{b n:Nat}{c:Hp}{D one many:Int}(hsel:Sel G c R)(hP:PrAt P p b c)(h:Inv P D one many n):
  Go.Sl.Fn Tryz.prog 10 #[.pointer (some ⟨b,0,none⟩)] B w0 G fun u G'=>∃c':Hp,u=.bool true∧PrAt P p b c'∧G'=R c':=by
 refine Fn.sel0 hsel fun F hR hF=>?_
 refine fn_enter Tryz.func10 rfl (by kernel_rfl) Tryz.ntmps10 (by simp) ?_
 obtain⟨C,hC,rfl⟩:=hP
 have hs1:∀G,Sub [(b,Obj.cells p.cells.toArray 42 (0,0))] (C.all p b::G):=fun G=>by unfold PrC.all;exact Sub.here.left
 have hs2:=hs1 F
 refine qs<|qa<|qt<|cw_seq<|qs<|qm<|qn ?_
 refine qf Ty.fd42_4 ?_
 refine ql (Var.get1 Ty.sc4 .here (.head _) (GetN.lit rfl)) ?_
 refine qv (v_not_true rfl)<|qt ?_
 refine cw_false rfl ?_
 refine cw_skip<|xw_then<|cw_seq<|qs<|qm<|qt ?_
 refine cw_block ?_
 refine cw_loop2 (ι:=(RtS)) [(0,_),(24,_)] ⟨rfl,rfl,trivial⟩ ((fun x=>[(28,.int .i64 x.j)])) ((fun x=>x.j≤2∧PrAt P p b x.c)) ((fun x=>2-x.j)) ((fun x=>x.c::F)) ((⟨0,C.all p b⟩:RtS)) zenv zcov ?_ ?_
 ·exact⟨Nat.zero_le _,⟨C,hC,rfl⟩⟩
 clear hs1 hs2 hC
 rintro⟨j,c⟩ ⟨hj,hPr⟩
 dsimp only at hj hPr⊢
 refine qs ?_
 refine qv (v_lss rfl rfl)<|qt<|cw_seq ?_
 refine cw_dec rfl (fun hc29=>?_) (fun hc29=>?_)
 refine cw_skip<|xw_then ?_
 rotate_left
 refine cw_exit ?_
 refine xw_then_exit ?_
 refine xw_round_exit ?_
 refine xw_block_exit<|xw_then<|qs<|qa<|qt ?_
 refine cw_ret ?_
 refine ret1 rfl (res_tmp rfl) ?_
 rotate_left
 ·obtain⟨C,hC,rfl⟩:=hPr
  obtain⟨i,hi⟩:∃i:Bool,(j:Int)=iv i:=by
   have:j=0∨j=1:=by omega
   rcases this with rfl|rfl
   ·exact⟨false,rfl⟩
   ·exact⟨true,rfl⟩
  have hiv:=iv_b i
  have hcn:=PrC.cnt_ (C:=C) (p:=p) (b:=b) i
  rw[hi]
  refine cw_cov ([(b,.cells p.cells.toArray 42 (0,0))]::C.s i::C.s (!i)::C.w i::C.w (!i)::C.r i::C.r (!i)::C.e i::C.e (!i)::F) (zcv1 hcn) ?_
  obtain⟨m,cm,hsm,hMV,hm⟩:=(hC.r i).range (G:=[(b,.cells p.cells.toArray 42 (0,0))]::C.s i::C.s (!i)::C.w i::C.w (!i)::C.r i::C.r (!i)::C.e i::C.e (!i)::F) zhas
  refine cw_seq ?_
  refine cw_block<|qs<|qm<|qa<|qt<|cw_seq<|qs<|qm<|qm<|qn ?_
  refine qf Ty.fd42_2 ?_
  refine qv (v_indexAddrA Tryz.underlying38 Ty.el38 rfl rfl (Int.toNat_of_nonneg zom).symm zom) ?_
  refine ql (Var.at1 Ty.sc37 .here (PrP.gr)) ?_
  refine ow_range (kd:=.u64) rfl rfl Tryz.underlying37 rfl hsm hMV ?_
  intro br ci hIt
  refine qt ?_
  refine cw_block ?_
  refine cw_loop2 (ι:=((Option (Int×Value)×List (Int×Value)×Hp))) [(0,_),(3,_),(24,_),(28,_),(37,_)] ⟨rfl,rfl,rfl,rfl,rfl,trivial⟩ ((fun x=>[])) ((fun x=>ItAt .u64 (.map (some (p.r i))) cm br x.1 x.2.1 x.2.2∧∀q∈x.2.1,q∈m)) ((fun x=>x.2.1.length)) ((fun x=>x.2.2::[(b,.cells p.cells.toArray 42 (0,0))]::C.s i::C.s (!i)::C.w i::C.w (!i)::C.r i::C.r (!i)::C.e i::C.e (!i)::F)) (((none,m,ci):Option (Int×Value)×List (Int×Value)×Hp)) zenv zcov ?_ ?_
  ·exact⟨hIt,fun q hq=>hq⟩
  rintro⟨cur,rem,c1⟩ ⟨i1,i2⟩
  dsimp only at i1 i2⊢
  refine qs ?_
  refine ow_next (kd:=.u64) rfl rfl rfl .here (hsm.there) i1 ?_ ?_
  ·intro h0
   refine qv (v_extract rfl rfl)<|qt<|cw_seq ?_
   refine cw_false rfl ?_
   refine cw_exit ?_
   refine xw_then_exit ?_
   refine xw_round_exit ?_
   refine xw_block_exit<|xw_then<|qs<|qm<|qm ?_
   refine qn ?_
   refine qf Ty.fd42_0 ?_
   refine qv (v_indexAddrA Tryz.underlying36 Ty.el36 rfl rfl (Int.toNat_of_nonneg zom).symm zom) ?_
   refine ql (Var.at1 Ty.sc35 (.there .here) (PrP.gs))<|qa<|qt<|qs<|qa<|qt<|cw_seq<|qs<|qm ?_
   (refine ow_call rfl rfl rfl rfl (asList_c (hC.s i) zhas (h.kn_b i)) ?_;rintro _ _ ⟨x91,rfl,hq91,rfl⟩)
   refine qv (v_len rfl Tryz.underlying34 rfl)<|qm<|qt ?_
   refine cw_block ?_
   obtain⟨l,lo,lc,cl⟩:=x91
   obtain⟨hPm,hL⟩:=hq91
   dsimp only at hPm hL⊢
   have hll:l.length≤4000:=by
    have h0:=h.kn_b i 0 (.inl rfl)
    have h1:=h.kn_b i 1 (.inr rfl)
    rw[hPm.length_eq]
    unfold SdM.ids SdM.idsOf
    simp only[List.length_append,idsK_len]
    omega
   have hsum:=h.sum_used (hC.s i) hPm
   have hlim:=(h.dir i 0 (Int.le_refl _))
   refine cw_loop2 (ι:=(RtI)) [(0,_),(3,_),(7,_),(24,_),(28,_),(91,_),(92,_)] ⟨rfl,rfl,rfl,rfl,rfl,rfl,rfl,trivial⟩ ((fun x=>[(8,.int .u64 x.z),(93,.int .i64 x.m)])) ((fun x=>x.m≤l.length∧x.z=sumL (fun id=>((P.s i).x id).giv.used) (l.take x.m)∧(0≤x.z∧x.z≤60000*x.m)∧AsAt (P.s i) (p.s i) x.a)) ((fun x=>l.length-x.m)) ((fun x=>cl::[(b,.cells p.cells.toArray 42 (0,0))]::x.a::C.s (!i)::C.w i::C.w (!i)::C.r i::C.r (!i)::C.e i::C.e (!i)::F)) ((⟨0,0,C.s i⟩:RtI)) zenv zcov ?_ ?_
   ·exact⟨Nat.zero_le _,by rw[List.take_zero];rfl,by dsimp only;omega,hC.s i⟩
   rintro⟨m2,z,a⟩ ⟨hm2,hz,hzb,hA⟩
   dsimp only at hm2 hz hzb hA⊢
   refine qs ?_
   refine qv (v_lss rfl rfl)<|qt<|cw_seq ?_
   refine cw_dec rfl (fun hc94=>?_) (fun hc94=>?_)
   refine cw_skip<|xw_then ?_
   rotate_left
   refine cw_exit ?_
   refine xw_then_exit ?_
   refine xw_round_exit ?_
   refine xw_block_exit<|xw_then ?_
   rotate_left
   ·have hm3:m2<l.length:=by omega
    have hhas:(P.s i).has l[m2]:=SdM.ids_has.1 (hPm.mem_iff.1 (List.getElem_mem hm3))
    obtain⟨i0,i1⟩:=h.has_lt hhas
    have hNS:(NS:Int)=400:=rfl
    have hidb:0≤l[m2]∧l[m2]≤18446744073709551615:=⟨i0,by omega⟩
    have hxw:=hA.wf_x hidb
    have hokm:enQ.ok l[m2]:=hidb
    obtain⟨u1,u2,u3,u4,_⟩:=(h.dir i l[m2] i0).used
    obtain⟨v1,v2,v3,v4,v5⟩:=(h.dir' i i0).used
    obtain⟨w1,w2,w3⟩:=(h.dir i l[m2] i0).places
    have hrh:=hxw.1.read_high
    have hW:=h.wl60 (a:=!i) hhas
    have o1:=((P.s i).x l[m2]).giv.one
    have o2:=((P.s i).x l[m2]).got.one
    have ln1:((P.s i).x l[m2]).giv.cells.length=5:=rfl
    have ln2:((P.s i).x l[m2]).got.cells.length=3:=rfl
    refine cw_seq ?_
    refine cw_block<|qs ?_
    refine ow_val rfl rfl (v_indexAddr_ls Tryz.underlying34 (qTy) rfl rfl zas rfl zom) ?_
    refine ql (Go.Sl.Vw.var (qTy) ((Go.Sl.Ls.vw hL zhas)) zom)<|qa<|qt<|qs<|qm<|qm ?_
    (refine ow_call rfl rfl rfl rfl (asGet_c zsel hA hidb hhas) ?_;rintro _ _ ⟨x99,rfl,hq99,rfl⟩)
    refine qa<|qt ?_
    obtain⟨qb,a5⟩:=x99
    dsimp only at hq99⊢
    obtain⟨cx,hsx,hSm⟩:=hq99.streamR (G:=cl::[(b,.cells p.cells.toArray 42 (0,0))]::a5::C.s (!i)::C.w i::C.w (!i)::C.r i::C.r (!i)::C.e i::C.e (!i)::F) zhas
    refine qs<|qm ?_
    refine qv (v_call rfl rfl (smCredits_c hsx hSm))<|qm ?_
    refine qv (v_extract rfl rfl) ?_
    refine qv (v_extract rfl rfl) ?_
    refine ow_alloc rfl rfl Ty.ze51 fun b12=>ow_alloc rfl rfl Ty.ze53 fun b13=>?_
    refine ow_storeN rfl rfl rfl Ty.ag51 zra zao (.there .here) (SetN.all zsa) ?_
    refine ow_storeN rfl rfl rfl Ty.ag53 zra zao .here (SetN.all zsa) ?_
    refine qt<|qs<|qm ?_
    refine qv (v_call rfl rfl (smPlaces_c hsx.there.there hSm hxw.1))<|qm ?_
    refine qv (v_extract rfl rfl) ?_
    refine qv (v_extract rfl rfl) ?_
    refine qv (v_extract rfl rfl) ?_
    refine qv (v_extract rfl rfl)<|qa<|qa<|qa ?_
    refine qa<|qt<|cw_seq<|qs ?_
    refine qf Ty.fd51_1 ?_
    refine ql (Var.at1 Ty.sc27 (.there .here) (GetN.lit rfl)) ?_
    refine qf Ty.fd51_0 ?_
    refine ql (Var.at1 Ty.sc27 (.there .here) (GetN.lit rfl)) ?_
    refine qv (v_gtr rfl rfl)<|qm ?_
    refine ow_dec 117 rfl (fun hc117=>?_) (fun hc117=>?_)
    (exfalso;omega)
    refine qf Ty.fd53_1 ?_
    refine ql (Var.at1 Ty.sc27 .here (GetN.lit rfl)) ?_
    refine qf Ty.fd53_0 ?_
    refine ql (Var.at1 Ty.sc27 .here (GetN.lit rfl)) ?_
    refine qv (v_gtr rfl rfl) ?_
    refine qv (v_pick_false rfl rfl)<|qm ?_
    refine ow_dec 124 rfl (fun hc124=>?_) (fun hc124=>?_)
    (exfalso;omega)
    refine qm<|qm ?_
    refine qv (v_gtr rfl rfl) ?_
    refine qv (v_pick_false rfl rfl)<|qm ?_
    refine ow_dec 129 rfl (fun hc129=>?_) (fun hc129=>?_)
    (exfalso;omega)
    refine qm<|qm ?_
    refine qv (v_gtr rfl rfl) ?_
    refine qv (v_pick_false rfl rfl)<|qm ?_
    refine ow_dec 134 rfl (fun hc134=>?_) (fun hc134=>?_)
    (exfalso;omega)
    refine qf Ty.fd53_1 ?_
    refine ql (Var.at1 Ty.sc27 .here (GetN.lit rfl))<|qm ?_
    refine qv (v_gtr rfl rfl) ?_
    refine qv (v_pick_false rfl rfl)<|qt ?_
    refine cw_dec rfl (fun hc139=>?_) (fun hc139=>?_)
    (exfalso;omega)
    refine cw_skip<|xw_then<|cw_region<|qm ?_
    refine qf Ty.fd51_1 ?_
    refine ql (Var.at1 Ty.sc27 (.there .here) (GetN.lit rfl)) ?_
    refine qv (v_add rfl rfl (nw_u64 zom zom))<|qa<|ow_nil ?_
    refine xw_block<|xw_then<|cw_region ?_
    refine qv (v_add rfl rfl (nw_i64 zom zom))<|qm<|ow_nil ?_
    refine xw_round (⟨m2+1,z+((P.s i).x l[m2]).giv.used,a5⟩:RtI) ⟨by dsimp only;omega,?_,by dsimp only;omega,hq99.as⟩ zdo zcov zenv
    dsimp only
    rw[List.take_succ_eq_append_getElem hm3,sumL_app,hz]
    simp only[sumL]
    omega
   ·have hm3:m2=l.length:=by omega
    rw[hm3,List.take_length]at hz
    have hzz:z=(P.s i).giv.used:=hz.trans hsum
    have hcr1:=h.cr i
    have hcr2:=h.cr' i
    have ca:=hcr1.a;have cb:=hcr2.a;have cc:=hcr2.b;have cd:=hcr2.c;have ce:=hcr2.f
    obtain⟨M,pp,hsM,hMw,hMa⟩:=hA.look (G:=cl::[(b,.cells p.cells.toArray 42 (0,0))]::a::C.s (!i)::C.w i::C.w (!i)::C.r i::C.r (!i)::C.e i::C.e (!i)::F) zhas
    have f1:M.giv.used=z:=by rw[hzz,←hMa];rfl
    have f2:M.giv.used≤M.giv.lim:=by
     have:M.abs.giv.used≤M.abs.giv.lim:=by rw[hMa];omega
     exact this
    have f3:M.got.used≤M.got.lim:=by
     have:M.abs.got.used≤M.abs.got.lim:=by rw[hMa];omega
     exact this
    refine cw_seq<|cw_seq ?_
    refine cw_quiet Ty.mixed zdk ?_
    refine kmv ?_
    refine kmv ?_
    refine kv (v_nilCheck rfl) ?_
    refine kv (v_fieldAddr0 Ty.fd73_0 rfl) ?_
    refine kv (v_fieldAddr0 Ty.fd51_1 rfl) ?_
    refine kv (v_load rfl (Var.sub1 Ty.sc27 zthr (.head _) (GetN.lit rfl))) ?_
    refine kv (v_neq rfl rfl) ?_
    refine kmv ?_
    refine kw_dec 152 rfl (fun hc152=>?_) (fun hc152=>?_)
    (exfalso;omega)
    refine kmv ?_
    refine kv (v_nilCheck rfl) ?_
    refine kv (v_fieldAddr0 Ty.fd73_0 rfl) ?_
    refine kv (v_fieldAddr0 Ty.fd51_1 rfl) ?_
    refine kv (v_load rfl (Var.sub1 Ty.sc27 zthr (.head _) (GetN.lit rfl))) ?_
    refine kmv ?_
    refine kv (v_nilCheck rfl) ?_
    refine kv (v_fieldAddr0 Ty.fd73_0 rfl) ?_
    refine kv (v_fieldAddr0 Ty.fd51_0 rfl) ?_
    refine kv (v_load rfl (Var.sub1 Ty.sc27 zthr (.head _) (GetN.lit rfl))) ?_
    refine kv (v_gtr rfl rfl) ?_
    refine kv (v_pick_false rfl rfl) ?_
    refine kmv ?_
    refine kw_dec 165 rfl (fun hc165=>?_) (fun hc165=>?_)
    (exfalso;omega)
    refine kmv ?_
    refine kv (v_nilCheck rfl) ?_
    refine kv (v_fieldAddr0 Ty.fd73_1 rfl) ?_
    refine kv (v_fieldAddr Ty.fd53_1 rfl) ?_
    refine kv (v_load rfl (Var.sub1 Ty.sc27 zthr (.head _) (GetN.lit rfl))) ?_
    refine kmv ?_
    refine kv (v_nilCheck rfl) ?_
    refine kv (v_fieldAddr0 Ty.fd73_1 rfl) ?_
    refine kv (v_fieldAddr Ty.fd53_0 rfl) ?_
    refine kv (v_load rfl (Var.sub1 Ty.sc27 zthr (.head _) (GetN.lit rfl))) ?_
    refine kv (v_gtr rfl rfl) ?_
    refine kv (v_pick_false rfl rfl) ?_
    refine kw_nil<|xw_then ?_
    refine cw_dec rfl (fun hc177=>?_) (fun hc177=>?_)
    (exfalso;omega)
    refine cw_skip<|xw_then<|qs<|qm<|qt ?_
    refine cw_block ?_
    refine cw_loop2 (ι:=(Nat)) [(0,_),(3,_),(7,_),(24,_),(28,_)] ⟨rfl,rfl,rfl,rfl,rfl,trivial⟩ ((fun x=>[(178,.int .i64 x)])) ((fun x=>x≤2)) ((fun x=>2-x)) ((fun x=>[(b,.cells p.cells.toArray 42 (0,0))]::a::C.s (!i)::C.w i::C.w (!i)::C.r i::C.r (!i)::C.e i::C.e (!i)::F)) ((0:Nat)) zenv zcov ?_ ?_
    ·decide
    intro k hk
    refine qs ?_
    refine qv (v_lss rfl rfl)<|qt<|cw_seq ?_
    refine cw_dec rfl (fun hc179=>?_) (fun hc179=>?_)
    refine cw_skip<|xw_then ?_
    rotate_left
    refine cw_exit ?_
    refine xw_then_exit ?_
    refine xw_round_exit ?_
    refine xw_block_exit ?_
    refine xw_block<|xw_then<|cw_region ?_
    refine qv (v_add rfl rfl (nw_i64 zom zom))<|qm<|ow_nil ?_
    rotate_left
    ·have hk2:(k:Int)=0∨(k:Int)=1:=by omega
     have q1:=h.kd i k hk2
     have q2:=h.kd (!i) k hk2
     rw[not_not_]at q2
     have q3:=q1.m;have q4:=q2.c;have q5:=q2.m;have q6:=q2.g
     refine cw_seq ?_
     refine cw_block<|qs<|qm<|qa<|qt<|qs<|qm<|qm ?_
     refine qv (v_call rfl rfl (asCounts_c hA zhas hk2))<|qm ?_
     refine qv (v_extract rfl rfl) ?_
     refine qv (v_extract rfl rfl) ?_
     refine qv (v_extract rfl rfl) ?_
     refine qv (v_extract rfl rfl)<|qa<|qa<|qa<|qa<|qt<|qs<|qm<|qm ?_
     refine qv (v_gtr rfl rfl) ?_
     refine qm ?_
     refine ow_dec 192 rfl (fun hc192=>?_) (fun hc192=>?_)
     (exfalso;omega)
     refine qm<|qm ?_
     refine qv (v_gtr rfl rfl) ?_
     refine qv (v_pick_false rfl rfl)<|qt ?_
     refine cw_dec rfl (fun hc196=>?_) (fun hc196=>?_)
     (exfalso;omega)
     refine cw_skip ?_
     refine xw_block<|xw_then<|cw_region ?_
     refine qv (v_add rfl rfl (nw_i64 zom zom))<|qm<|ow_nil ?_
     exact xw_round (k+1) zom zom zcov zenv
    ·have hC2:PrC.Ok {C with s:=upB C.s i a} P p:=by
      have:=hC.setS hA
      rwa [PrM.set2_same]at this
     have hcn2:=PrC.cnt_ (C:={C with s:=upB C.s i a}) (p:=p) (b:=b) i
     simp only[upB_i,upB_n]at hcn2
     generalize hc2e:PrC.all {C with s:=upB C.s i a} p b=c2 at hcn2
     rw[←hi]
     exact xw_round (⟨j+1,c2⟩:RtS) ⟨by dsimp only;omega,⟨_,hC2,hc2e.symm⟩⟩ zdo (zcv1 hcn2) zenv
  ·intro k u rem' c1' hp hI
   have hku:=i2 _ (hp.mem_iff.2 (List.mem_cons_self ..))
   obtain⟨hk0,ao,cap,ck,hu,hsk,hLk⟩:=hm _ hku
   dsimp only at hk0 hu hsk hLk
   subst hu
   have hlr:=hp.length_eq
   rw[List.length_cons]at hlr
   obtain⟨g,cw,ckw,aow,capw,hsw,hskw,hMw,hgw,hLw⟩:=(hC.w (!i)).look (G:=[(b,.cells p.cells.toArray 42 (0,0))]::C.s i::C.s (!i)::C.w i::C.w (!i)::C.r i::C.r (!i)::C.e i::C.e (!i)::F) zhas k hk0
   obtain⟨d1,d2,d3⟩:=(h.dir' i hk0).right
   refine qv (v_extract rfl rfl)<|qt<|cw_seq ?_
   refine cw_true rfl<|cw_skip<|xw_then ?_
   refine cw_block<|qs ?_
   refine qv (v_entry rfl .here (hsm.there) hI) ?_
   refine qv (v_extract rfl rfl) ?_
   refine qv (v_extract rfl rfl)<|qa ?_
   refine qa<|qt<|qs<|qm<|qm ?_
   refine qv (v_sub rfl rfl (nw_i64 zom zom))<|qn ?_
   refine qf Ty.fd42_1 ?_
   refine qv (v_indexAddrA Tryz.underlying38 Ty.el38 rfl rfl (Int.toNat_of_nonneg zom).symm zom) ?_
   refine ql (Var.at1 Ty.sc37 (.there .here) (PrP.gwn))<|qm ?_
   refine qv ((v_bytes rfl rfl (hsw.there) hMw hgw)) ?_
   refine qa<|qt ?_
   have hLk':∀c,Vw enB (St B w0 (c::[(b,.cells p.cells.toArray 42 (0,0))]::C.s i::C.s (!i)::C.w i::C.w (!i)::C.r i::C.r (!i)::C.e i::C.e (!i)::F)) (.slice ao (P.rd i k).length cap) (P.rd i k):=fun c=>hLk.vw hsk.there
   have hLw':∀c,Vw enB (St B w0 (c::[(b,.cells p.cells.toArray 42 (0,0))]::C.s i::C.s (!i)::C.w i::C.w (!i)::C.r i::C.r (!i)::C.e i::C.e (!i)::F)) (.slice aow (P.rd i k).length capw) (P.rd i k):=fun c=>by
    have h1:=Vw.sub1 u8Ty (hLw.vw (B:=B) (w0:=w0) (hskw.there (y:=c))) d1
    rw[←d2]at h1
    exact h1
   have hcapw:(P.wr (!i) k).length≤capw:=by
    obtain⟨ao',cap',e1,e2⟩:=hLw.view
    injection e1 with _ _ e3
    omega
   refine cw_seq ?_
   refine cw_quiet Ty.mixed zdk ?_
   refine kmv ?_
   refine kv (v_len rfl Tryz.underlying28 rfl) ?_
   refine kmv ?_
   refine kv (v_len rfl Tryz.underlying28 rfl) ?_
   refine kv (v_gtr rfl rfl) ?_
   refine kmv ?_
   refine kw_dec 57 rfl (fun hc57=>?_) (fun hc57=>?_)
   (exfalso;omega)
   refine kmv ?_
   refine kw_val rfl rfl (v_str Tryz.underlying9 Tryz.underlying28 Tryz.underlying5 rfl (hLk' _)) ?_
   refine kmv ?_
   refine kmv ?_
   refine kv (v_len rfl Tryz.underlying28 rfl) ?_
   refine kv (v_slice_nh Tryz.underlying28 Ty.el28 rfl rfl rfl zom) ?_
   refine kw_val rfl rfl (v_str Tryz.underlying9 Tryz.underlying28 Tryz.underlying5 rfl (hLw' _)) ?_
   refine kv (v_neqS rfl rfl) ?_
   refine kv (v_pick_false rfl rfl) ?_
   refine kmv ?_
   refine kw_dec 67 rfl (fun hc67=>?_) (fun hc67=>?_)
   refine kk ?_
   refine kk ?_
   refine kk ?_
   refine kk ?_
   refine kk ?_
   refine kk ?_
   refine kk ?_
   refine kk ?_
   refine kk ?_
   refine kk ?_
   refine kk ?_
   refine kk ?_
   refine kk ?_
   refine kk ?_
   refine kk ?_
   refine kv (v_pick_true rfl rfl) ?_
   refine kw_nil<|xw_then ?_
   refine cw_true rfl<|qs<|qa<|qt ?_
   refine cw_ret ?_
   refine xw_block_ret ?_
   refine xw_round_ret ?_
   refine xw_block_ret ?_
   refine xw_then_ret ?_
   refine xw_block_ret ?_
   refine xw_then_ret ?_
   refine xw_round_ret ?_
   refine xw_block_ret ?_
   refine xw_then_ret ?_
   refine ret1 rfl (res_tmp rfl) ?_
   rotate_left
   refine kmv ?_
   refine kmv ?_
   refine kv (v_nilCheck rfl) ?_
   refine kv (v_fieldAddr0 Ty.fd42_3 rfl) ?_
   refine kv (v_indexAddrA Tryz.underlying40 Ty.el40 rfl rfl (Int.toNat_of_nonneg zom).symm zom) ?_
   refine kv (v_load rfl (Var.at1 Ty.sc39 (.there .here) (PrP.ge))) ?_
   refine kmv ?_
   refine kv ((v_bools rfl rfl zhas (hC.e i))) ?_
   refine kmv ?_
   refine kw_bool 76 rfl (fun hc76=>?_) (fun hc76=>?_)
   refine kmv ?_
   refine kv (v_len rfl Tryz.underlying28 rfl) ?_
   refine kmv ?_
   refine kv (v_len rfl Tryz.underlying28 rfl) ?_
   refine kv (v_neq rfl rfl) ?_
   refine kv (v_pick_true rfl rfl) ?_
   refine kv (v_pick_false rfl rfl) ?_
   refine kw_nil<|xw_then ?_
   refine cw_dec rfl (fun hc83=>?_) (fun hc83=>?_)
   refine qs<|qa<|qt ?_
   refine cw_ret ?_
   refine xw_block_ret ?_
   refine xw_round_ret ?_
   refine xw_block_ret ?_
   refine xw_then_ret ?_
   refine xw_block_ret ?_
   refine xw_then_ret ?_
   refine xw_round_ret ?_
   refine xw_block_ret ?_
   refine xw_then_ret ?_
   refine ret1 rfl (res_tmp rfl) ?_
   rotate_left
   refine cw_skip ?_
   refine xw_block ?_
   rotate_left
   refine kk ?_
   refine kk ?_
   refine kk ?_
   refine kk ?_
   refine kk ?_
   refine kv (v_pick_false rfl rfl) ?_
   refine kv (v_pick_false rfl rfl) ?_
   refine kw_nil<|xw_then ?_
   refine cw_false rfl<|cw_skip ?_
   refine xw_block ?_
   rotate_left
   all_goals first
    |exact xw_round ((some (k,.slice ao (P.rd i k).length cap),rem',c1'):Option (Int×Value)×List (Int×Value)×Hp) ⟨hI,fun q hq=>i2 q (hp.mem_iff.2 (List.mem_cons_of_mem _ hq))⟩ zdo zcov zenv
    |exact absurd rfl hc67
    |exact absurd hc57 zom
    |exact absurd (by have:=d3 hc76;omega) hc83
 exact⟨c,rfl,hPr,zcov⟩
end Go.Proofs.YtnlaffkihohfkaaGreat
namespace Go.Proofs.YtnlaffkihohfkaaGreat
open Go Go.Sl Go.Proofs
variable {B:Nat}{w0:World}{G:List Hp}{R:Hp→List Hp}
def limP (one:Int):LimM:=⟨one,one+3,one+1⟩
def SsM.first (cl:Bool)(D one many:Int):SsM:=(SsM.new cl D (limP one) many many).start D (limP one) many many
theorem RunsOK.nil {g:Int}:RunsOK [] 0 g:=⟨List.Pairwise.nil,fun _ h=>(by cases h),fun _ h=>(by cases h),fun h=>zom,fun _ h=>(by cases h),by decide⟩
theorem SsM.first_eq {cl:Bool}{D one many:Int}(hm:0≤many):SsM.first cl D one many=⟨GivM.new D,got0.raise D,cl,limP one,limP one,[],[],[],⟨0,many,0,many,many⟩,⟨0,many,0,many,many⟩⟩:=by
 have e:max 0 many=many:=by omega
 show (⟨GivM.new D,got0.raise D,cl,limP one,limP one,[],[],[],⟨0,max 0 many,0,many,many⟩,⟨0,max 0 many,0,many,many⟩⟩:SsM)=_
 rw[e]
theorem SsM.first_wf {cl:Bool}{D one many:Int}(hD:0≤D)(ho:0≤one∧one≤1000)(hm:0≤many∧many≤1000):(SsM.first cl D one many).WF:=by
 rw[SsM.first_eq hm.1]
 have hl:(limP one).WF:=⟨by show 0≤one∧one≤_;omega,by show 0≤one+3∧one+3≤_;omega,by show 0≤one+1∧one+1≤_;omega⟩
 have hk:(⟨0,many,0,many,many⟩:KdM).WF:=⟨by dsimp only;omega,by dsimp only;omega,by dsimp only;omega,by dsimp only;omega,by dsimp only;omega⟩
 refine⟨GivM.new_wf hD,GotM.raise_wf got0_wf hD,hl,hl,fun _ h=>(by cases h),List.Pairwise.nil,fun _ h=>(by cases h),hk,hk,RunsOK.nil,RunsOK.nil,fun id h0 h1 h2=>?_⟩
 exfalso
 have h3:cnI id<0:=by
  have h4:cnI id<(SsM.kd ⟨GivM.new D,got0.raise D,cl,limP one,limP one,[],[],[],⟨0,many,0,many,many⟩,⟨0,many,0,many,many⟩⟩ id).op:=h2
  unfold SsM.kd at h4
  dsimp only at h4
  split at h4<;>exact h4
 unfold cnI at h3
 omega
def pr0 (D one many:Int):PrM:=⟨fun i=>(SsM.first (!i) D one many).abs,fun _ _=>[],fun _ _=>[],fun _ _=>false⟩
theorem first_x {cl:Bool}{D one many id:Int}(hm:0≤many):(SsM.first cl D one many).abs.x id=(SsM.first cl D one many).fresh id ((SsM.first cl D one many).granted id):=by
 show (SsM.first cl D one many).at id=_
 refine SsM.at_none ?_
 rw[SsM.first_eq hm]
 rfl
theorem pr0_inv {D one many:Int}(hD:0≤D∧D≤1000000)(ho:0≤one∧one≤1000)(hm:0≤many∧many≤1000):Inv (pr0 D one many) D one many 0:=by
 have hx:∀i id,((pr0 D one many).s i).x id=(SsM.first (!i) D one many).fresh id ((SsM.first (!i) D one many).granted id):=fun i id=>first_x hm.1
 have hz:∀i id,(((pr0 D one many).s i).x id).got.used=0∧(((pr0 D one many).s i).x id).giv.used=0∧tkS (((pr0 D one many).s i).x id)=0∧cS (((pr0 D one many).s i).x id)=0:=fun i id=>by
  rw[hx]
  unfold SsM.fresh tkS SmM.read cS
  refine⟨?_,?_,?_,rfl⟩
  ·dsimp only;split<;>rfl
  ·dsimp only;split<;>rfl
  ·dsimp only
   rw[if_neg (by split<;>decide)]
   split<;>rfl
 have hs:∀i,(pr0 D one many).s i=⟨GivM.new D,got0.raise D,!i,limP one,limP one,⟨0,many,0,many,many⟩,⟨0,many,0,many,many⟩,((pr0 D one many).s i).x⟩:=fun i=>by
  show (SsM.first (!i) D one many).abs=⟨_,_,_,_,_,_,_,(SsM.first (!i) D one many).abs.x⟩
  rw[SsM.first_eq hm.1]
  rfl
 have hgv:GivM.new D=⟨D,0,0,D,D⟩:=by unfold GivM.new;rw[show min D 4611686018427387903=D by omega]
 have kd:∀i k,k=0∨k=1→((pr0 D one many).s i).kn k=⟨0,many,0,many,many⟩:=fun i k hk=>by
  rw[hs]
  rcases hk with rfl|rfl<;>rfl
 refine⟨fun i=>by rw[hs],fun i=>by rw[hs];rfl,fun i=>by rw[hs];rfl,fun i id hid=>?_,fun i=>?_,fun i=>?_,fun i=>?_,fun i=>?_,fun i=>?_,fun i k hk=>?_,fun i=>?_,fun i k hk=>?_,?_,⟨by omega,hm.1,hm.2,ho⟩⟩
 ·rw[hx,hx]
  show Dir _ _ [] [] false
  have hmn:(SsM.first (!(!i)) D one many).mine id=!(SsM.first (!i) D one many).mine id:=by
   rw[SsM.first_eq hm.1,SsM.first_eq hm.1]
   unfold SsM.mine
   cases i<;>by_cases h0:oddI id=0<;>simp[h0]
  have hgr:(SsM.first (!(!i)) D one many).grants id=(SsM.first (!i) D one many).granted id:=by
   unfold SsM.grants SsM.granted
   rw[hmn,SsM.first_eq hm.1,SsM.first_eq hm.1]
   split
   ·rfl
   ·cases (SsM.mine _ id)<;>rfl
  have hgb:0≤(SsM.first (!i) D one many).granted id∧(SsM.first (!i) D one many).granted id≤1000000:=by
   rw[SsM.first_eq hm.1]
   unfold SsM.granted limP
   dsimp only
   split
   ·omega
   ·split<;>omega
  unfold SsM.fresh
  rw[hmn,hgr]
  by_cases hc:(SsM.first (!i) D one many).mine id=true∨kdI id=0
  ·have hc2:(!(SsM.first (!i) D one many).mine id)=false∨kdI id=0:=by
    rcases hc with h|h
    ·rw[h];exact .inl rfl
    ·exact .inr h
   refine .inl ⟨0,0,false,?_⟩
   have hcr:=Cr.new hgb
   refine⟨?_,?_,Nat.le_refl _,Nat.le_refl _,.inl ⟨?_,rfl⟩,?_,rfl,rfl,?_,?_,?_,?_⟩
   ·dsimp only;rw[if_pos hc,bufG_0]
   ·dsimp only;rw[if_pos hc2,inG_0]
   ·dsimp only;rw[if_pos hc]
   ·dsimp only;rw[if_pos hc2]
   ·dsimp only;rw[if_pos hc];exact⟨Int.le_refl _,Int.le_refl _⟩
   ·dsimp only;rw[if_pos hc2];rfl
   ·dsimp only;rw[if_pos hc2];rfl
   ·dsimp only;rw[if_pos hc,if_pos hc2];exact hcr
  ·have hc2:¬((!(SsM.first (!i) D one many).mine id)=false∨kdI id=0):=by
    rintro (h|h)
    ·exact hc (.inl (by simpa using h))
    ·exact hc (.inr h)
   refine .inr (.inr (.inr ?_))
   refine⟨?_,?_,?_,?_,rfl,rfl,rfl,?_,?_,?_,?_⟩
   ·dsimp only;rw[if_neg hc]
   ·dsimp only;rw[if_neg hc2]
   ·dsimp only;rw[if_neg hc]
   ·dsimp only;rw[if_neg hc2]
   ·dsimp only;rw[if_neg hc];rfl
   ·dsimp only;rw[if_neg hc2];rfl
   ·dsimp only;rw[if_neg hc];exact Int.le_refl _
   ·dsimp only;rw[if_neg hc2];exact Int.le_refl _
 ·rw[sumTo_zero fun id _ _=>(hz i id).1,hs];rfl
 ·rw[sumTo_zero fun id _ _=>(hz i id).2.1,hs];rfl
 ·rw[sumTo_zero fun id _ _=>(hz i id).2.2.1,hs];rfl
 ·rw[hs,hs];exact Cr.new hD
 ·rw[hs,hgv]
 ·rw[kd i k hk,kd (!i) k hk]
  exact⟨by dsimp only;omega,by dsimp only;omega,by dsimp only;omega,by dsimp only;omega,by dsimp only;omega,by dsimp only;omega⟩
 ·rw[sumTo_zero fun id _ _=>(hz i id).2.2.2,hs]
  dsimp only
  omega
 ·rw[kd i k hk];exact hm.1
 ·have:∀b:Bool,sumTo (fun id=>(((pr0 D one many).wr b id).length:Int)) NS=0:=fun b=>sumTo_zero fun _ _ _=>rfl
  rw[this,this]
  decide
end Go.Proofs.YtnlaffkihohfkaaGreat
namespace Go.Sl
open Go.RowKit Go Go.Instr
variable {P:Program}{ops:Array Oper}{Q:Exit→Act→World→Prop}{B:Nat}{w0:World}{N:Nat}{G:List Hp}{E:Env}{ty T:TypeId}
end Go.Sl
namespace Go.Proofs.YtnlaffkihohfkaaGreat
open Go Go.Sl Go.Proofs
variable {B:Nat}{w0:World}{G:List Hp}{R:Hp→List Hp}
theorem asNew_c {cl:Bool}{d bi un:Int}{own:LimM}(hd:0≤d∧d≤18446744073709551615):
  Go.Sl.Fn Tryz.prog 15 #[.bool cl,.int .u64 d,.agg own.cells.toArray,.int .u64 bi,.int .u64 un] B w0 G fun u G'=>∃y:Nat×Hp,u=.pointer (some ⟨y.1,0,none⟩)∧SsAt (SsM.new cl d own bi un) [] y.1 y.2∧G'=[y.2]++G:=ssNew_c hd
theorem b_lim {a b c:Int}:Build Tryz.prog 59 #[(0,.int .u64 a),(1,.int .u64 b),(2,.int .u64 c)] (.agg (LimM.cells ⟨a,b,c⟩).toArray):=fun w=>by kernel_rfl
theorem b_lim0:Build Tryz.prog 59 #[] (.agg (LimM.cells ⟨0,0,0⟩).toArray):=fun w=>by kernel_rfl
def zP:List Value:=[.pointer none,.pointer none,.map none,.map none,.map none,.map none,.map none,.map none,.bool true]
def oP (s w r e:Nat):List Value:=[.pointer (some ⟨s,0,none⟩),.pointer none,.map (some w),.map none,.map (some r),.map none,.map (some e),.map none,.bool true]
theorem b_pair:Build Tryz.prog 42 #[(4,.bool true)] (.agg zP.toArray):=fun w=>by kernel_rfl
theorem limP_one {one:Int}:∀u∈(limP one).cells,u.oneCell'=true:=fun u hu=>by
 simp only[LimM.cells,limP,List.mem_cons,List.not_mem_nil,or_false]at hu
 rcases hu with rfl|rfl|rfl<;>rfl
theorem zP_one:∀u∈zP,u.oneCell'=true:=allOne rfl
def npCells (p:PrP):Nat→List Value
 |0=>zP
 |1=>oP (p.s false) (p.w false) (p.r false) (p.e false)
 |_=>p.cells
structure NpS where
 j:Nat
 p:PrP
 C:PrC
structure NpOk (D one many:Int)(x:NpS)(i:Bool):Prop where
 s:AsAt ((pr0 D one many).s i) (x.p.s i) (x.C.s i)
 w:BmAt (fun _=>[]) (x.p.w i) (x.C.w i)
 r:BmAt (fun _=>[]) (x.p.r i) (x.C.r i)
 e:BlAt (fun _=>false) (x.p.e i) (x.C.e i)
theorem asFirst {D one many:Int}{i:Bool}{b:Nat}{c:Hp}(hD:0≤D)(ho:0≤one∧one≤1000)(hm:0≤many∧many≤1000)(h:SsAt (SsM.first (!i) D one many) [] b c):AsAt ((pr0 D one many).s i) b c:=⟨_,_,h,SsM.first_wf hD ho hm,rfl⟩
theorem setZ {s w r e:Nat}:((((zP.set (0+0*1) (Value.pointer (some ⟨s,0,none⟩))).set (2+0*1) (Value.map (some w))).set (4+0*1) (Value.map (some r))).set (6+0*1) (Value.map (some e)))=oP s w r e:=rfl
def prP2 (s w r e s' w' r' e':Nat):PrP:=⟨fun i=>cond i s' s,fun i=>cond i w' w,fun i=>cond i r' r,fun i=>cond i e' e⟩
theorem setO {s w r e s' w' r' e':Nat}:(((((oP s w r e).set (0+1*1) (Value.pointer (some ⟨s',0,none⟩))).set (2+1*1) (Value.map (some w'))).set (4+1*1) (Value.map (some r'))).set (6+1*1) (Value.map (some e')))=(prP2 s w r e s' w' r' e').cells:=rfl
def prC2 (a b c d a' b' c' d':Hp):PrC:=⟨fun i=>cond i a' a,fun i=>cond i b' b,fun i=>cond i c' c,fun i=>cond i d' d⟩
set_option maxHeartbeats 8000000 in
theorem newPair_c {D one many:Int}(hD:0≤D∧D≤1000000)(ho:0≤one∧one≤1000)(hm:0≤many∧many≤1000):
  Go.Sl.Fn Tryz.prog 7 #[.int .u64 D,.int .u64 one,.int .u64 many] B w0 G fun u G'=>∃y:Nat×PrP×Hp,u=.pointer (some ⟨y.1,0,none⟩)∧PrAt (pr0 D one many) y.2.1 y.1 y.2.2∧G'=[y.2.2]++G:=by
 refine Fn.new ?_
 have zl:zP.length=9:=rfl
 have zo:=zP_one
 have ll:(limP one).cells.length=3:=rfl
 have lo:=limP_one (one:=one)
 have hll:(⟨one,one+3,one+1⟩:LimM)=limP one:=rfl
 refine fn_enter Tryz.func7 rfl (by kernel_rfl) Tryz.ntmps7 (by simp) ?_
 refine qs<|qa<|qt<|qs ?_
 refine qv (v_build rfl (b_pair)) ?_
 refine ow_box rfl rfl rfl rfl fun b11=>qa<|qt<|qs<|qm<|qm ?_
 refine qv (v_add rfl rfl (nw_u64 zom zom)) ?_
 refine qm ?_
 refine qv (v_add rfl rfl (nw_u64 zom zom)) ?_
 refine qv (v_build rfl (b_lim)) ?_
 refine ow_alloc rfl rfl Ty.ze59 fun b8=>?_
 refine ow_storeN rfl rfl rfl Ty.ag59 zra zao .here (SetN.all zsa) ?_
 refine qt<|cw_seq<|qs<|qm<|qt ?_
 refine cw_block ?_
 refine cw_loop2 (ι:=(NpS)) [(0,_),(2,_),(6,_),(7,_),(8,_)] ⟨rfl,rfl,rfl,rfl,rfl,trivial⟩ ((fun x=>[(18,.int .i64 x.j)])) ((fun x=>x.j≤2∧(0<x.j→NpOk D one many x false)∧(1<x.j→NpOk D one many x true)∧(x.j=0→x.C.s false=[]∧x.C.w false=[]∧x.C.r false=[]∧x.C.e false=[])∧(x.j≤1→x.C.s true=[]∧x.C.w true=[]∧x.C.r true=[]∧x.C.e true=[]))) ((fun x=>2-x.j)) ((fun x=>[(b8,.cells (LimM.cells ⟨one,one+3,one+1⟩).toArray 59 (0,0))]::[(b11,.cells (npCells x.p x.j).toArray 42 (0,0))]::x.C.s false::x.C.w false::x.C.r false::x.C.e false::x.C.s true::x.C.w true::x.C.r true::x.C.e true::G)) ((⟨0,⟨fun _=>0,fun _=>0,fun _=>0,fun _=>0⟩,⟨fun _=>[],fun _=>[],fun _=>[],fun _=>[]⟩⟩:NpS)) zenv zcov ?_ ?_
 ·exact⟨Nat.zero_le _,fun h=>absurd h (Nat.lt_irrefl _),fun h=>absurd h zdo,fun _=>⟨rfl,rfl,rfl,rfl⟩,fun _=>⟨rfl,rfl,rfl,rfl⟩⟩
 rintro⟨j,p,C⟩ ⟨hj,hf,ht,z0,z1⟩
 dsimp only at hj hf ht z0 z1⊢
 rw[hll]
 refine qs ?_
 refine qv (v_lss rfl rfl)<|qt<|cw_seq ?_
 refine cw_dec rfl (fun hc19=>?_) (fun hc19=>?_)
 refine cw_skip<|xw_then ?_
 rotate_left
 refine cw_exit ?_
 refine xw_then_exit ?_
 refine xw_round_exit ?_
 refine xw_block_exit<|xw_then<|qs<|qm<|qa<|qt ?_
 refine cw_ret ?_
 refine ret1 rfl (res_tmp rfl) ?_
 rotate_left
 ·have hj2:j=0∨j=1:=by omega
  rcases hj2 with rfl|rfl
  ·obtain⟨z2,z3,z4,z5⟩:=z0 rfl
   obtain⟨z6,z7,z8,z9⟩:=z1 zom
   rw[z2,z3,z4,z5,z6,z7,z8,z9]
   refine cw_cov ([(b8,.cells (limP one).cells.toArray 59 (0,0))]::[(b11,.cells zP.toArray 42 (0,0))]::G) zcov ?_
   refine cw_seq ?_
   refine cw_block<|qs<|qm<|qa<|qt<|cw_seq ?_
   refine cw_mix [] [8,11,12] [0,1,2,3,4,5,6,7,9,10] Ty.mixed rfl rfl rfl rfl zdk ?_
   refine hmv ?_
   refine hmv ?_
   refine hmv ?_
   refine hw_pure rfl rfl (v_eql rfl rfl) rfl ?_
   refine hmv ?_
   refine hw_read rfl rfl rfl (v_load rfl (Var.atN Ty.ag59 .here GetN.all zra)) ?_
   refine hmv ?_
   refine hmv ?_
   refine hw_pure rfl rfl (v_nilCheck rfl) rfl ?_
   refine hw_pure rfl rfl (v_fieldAddr0 Ty.fd42_0 rfl) rfl ?_
   refine hw_nil ?_
   refine sw_nil ?_
   (refine ow_call rfl rfl rfl rfl (asNew_c (own:=limP one) zom) ?_;rintro _ _ ⟨x29,rfl,hq29,rfl⟩)
   refine qv (v_indexAddrA Tryz.underlying36 Ty.el36 rfl rfl rfl zom) ?_
   refine ow_store1 rfl rfl rfl rfl Ty.sc35 (.there (.there .here)) (SetN.one zdn)<|ow_nil ?_
   refine xw_np<|xw_then ?_
   have hq29':SsAt (SsM.new true D (limP one) many many) [] x29.1 x29.2:=hq29
   refine cw_seq ?_
   refine cw_mix [] [10] [0,1,2,3,4,5,6,7,8,9] Ty.mixed rfl rfl rfl rfl zdk ?_
   refine hmv ?_
   refine hmv ?_
   refine hw_pure rfl rfl (v_nilCheck rfl) rfl ?_
   refine hw_pure rfl rfl (v_fieldAddr0 Ty.fd42_0 rfl) rfl ?_
   refine hw_pure rfl rfl (v_indexAddrA Tryz.underlying36 Ty.el36 rfl rfl rfl zom) rfl ?_
   refine hw_read rfl rfl rfl (v_load rfl (Var.at1 Ty.sc35 (.there (.there .here)) (GetN.lit rfl))) ?_
   refine hmv ?_
   refine hw_read rfl rfl rfl (v_load rfl (Var.atN Ty.ag59 (.there .here) GetN.all zra)) ?_
   refine hmv ?_
   refine hmv ?_
   refine hw_nil ?_
   refine sw_nil ?_
   (refine ow_call rfl rfl rfl rfl (start_c (th:=limP one) zsel hq29') ?_;rintro _ _ ⟨x43,rfl,hq43,rfl⟩)
   refine ow_nil ?_
   refine xw_np<|xw_then ?_
   refine cw_mixA [6,7,8,11,12,15,16,19,20] [0,1,2,3,4,5,9,10,13,14,17,18] (((((((((((((Array.replicate 21 false).setIfInBounds 0 true).setIfInBounds 1 true).setIfInBounds 2 true).setIfInBounds 3 true).setIfInBounds 4 true).setIfInBounds 5 true).setIfInBounds 9 true).setIfInBounds 10 true).setIfInBounds 13 true).setIfInBounds 14 true).setIfInBounds 17 true).setIfInBounds 18 true) Ty.mixed rfl rfl zdk rfl ?_
   refine hwa_pure rfl rfl (v_move rfl) rfl ?_
   refine hwa_pure rfl rfl (v_move rfl) rfl ?_
   refine hwa_pure rfl rfl (v_move rfl) rfl ?_
   refine hwa_pure rfl rfl (v_move rfl) rfl ?_
   refine hwa_pure rfl rfl (v_move rfl) rfl ?_
   refine hwa_pure rfl rfl (v_move rfl) rfl ?_
   refine hwa_pure rfl rfl (v_nilCheck rfl) rfl ?_
   refine hwa_pure rfl rfl (v_fieldAddr0 Ty.fd42_1 rfl) rfl ?_
   refine hwa_pure rfl rfl (v_nilCheck rfl) rfl ?_
   refine hwa_pure rfl rfl (v_fieldAddr0 Ty.fd42_2 rfl) rfl ?_
   refine hwa_pure rfl rfl (v_nilCheck rfl) rfl ?_
   refine hwa_pure rfl rfl (v_fieldAddr0 Ty.fd42_3 rfl) rfl ?_
   refine hwa_nil ?_
   refine aw_step3 6 7 8 zdk rfl rfl rfl ?_ ?_ ?_
   (refine ow_makeMapG (kd:=.u64) rfl rfl ?_;intro b50 c50 hm50)
   refine qx ?_
   refine aw_pure 11 rfl zdk rfl rfl (v_indexAddrA Tryz.underlying38 Ty.el38 rfl rfl rfl zom) rfl ?_
   refine aw_step3 7 8 12 zdk rfl rfl rfl ?_ ?_ ?_
   (refine ow_makeMapG (kd:=.u64) rfl rfl ?_;intro b51 c51 hm51)
   refine qx ?_
   refine aw_step2 8 12 zdk rfl rfl ?_ ?_
   (refine ow_makeMapG (kd:=.u64) rfl rfl ?_;intro b52 c52 hm52)
   refine qx ?_
   refine aw_step1 12 zdk rfl ?_
   refine ow_store1 rfl rfl rfl rfl Ty.sc37 (.there (.there (.there (.there (.there .here))))) (SetN.one zdn)<|qx ?_
   refine aw_pure 15 rfl zdk rfl rfl (v_indexAddrA Tryz.underlying38 Ty.el38 rfl rfl rfl zom) rfl ?_
   refine aw_step1 16 zdk rfl ?_
   refine ow_store1 rfl rfl rfl rfl Ty.sc37 (.there (.there (.there (.there (.there .here))))) (SetN.one zdn)<|qx ?_
   refine aw_pure 19 rfl zdk rfl rfl (v_indexAddrA Tryz.underlying40 Ty.el40 rfl rfl rfl zom) rfl ?_
   refine aw_step1 20 zdk rfl ?_
   refine ow_store1 rfl rfl rfl rfl Ty.sc39 (.there (.there (.there (.there (.there .here))))) (SetN.one zdn)<|qx ?_
   refine aw_end zdk ?_
   refine xw_np ?_
   refine xw_block<|xw_then<|cw_region ?_
   refine qv (v_add rfl rfl (nw_i64 zom zom))<|qm<|ow_nil ?_
   rotate_left
   refine ow_store1 rfl rfl rfl rfl Ty.sc37 (.there (.there (.there (.there .here)))) (SetN.one zdn)<|qx ?_
   refine aw_pure 15 rfl zdk rfl rfl (v_indexAddrA Tryz.underlying38 Ty.el38 rfl rfl rfl zom) rfl ?_
   refine aw_step2 8 16 zdk rfl rfl ?_ ?_
   (refine ow_makeMapG (kd:=.u64) rfl rfl ?_;intro b52 c52 hm52)
   refine qx ?_
   refine aw_step1 16 zdk rfl ?_
   refine ow_store1 rfl rfl rfl rfl Ty.sc37 (.there (.there (.there (.there (.there .here))))) (SetN.one zdn)<|qx ?_
   refine aw_pure 19 rfl zdk rfl rfl (v_indexAddrA Tryz.underlying40 Ty.el40 rfl rfl rfl zom) rfl ?_
   refine aw_step1 20 zdk rfl ?_
   refine ow_store1 rfl rfl rfl rfl Ty.sc39 (.there (.there (.there (.there (.there .here))))) (SetN.one zdn)<|qx ?_
   refine aw_end zdk ?_
   refine xw_np ?_
   refine xw_block<|xw_then ?_
   refine cw_region ?_
   refine qv (v_add rfl rfl (nw_i64 zom zom))<|qm<|ow_nil ?_
   rotate_left
   refine ow_store1 rfl rfl rfl rfl Ty.sc37 (.there (.there (.there (.there .here)))) (SetN.one zdn)<|qx ?_
   refine aw_step1 8 zdk rfl ?_
   (refine ow_makeMapG (kd:=.u64) rfl rfl ?_;intro b52 c52 hm52)
   refine qx ?_
   refine aw_pure 19 rfl zdk rfl rfl (v_indexAddrA Tryz.underlying40 Ty.el40 rfl rfl rfl zom) rfl ?_
   refine aw_step1 20 zdk rfl ?_
   refine ow_store1 rfl rfl rfl rfl Ty.sc39 (.there (.there (.there (.there (.there .here))))) (SetN.one zdn)<|qx ?_
   refine aw_end zdk ?_
   refine xw_np ?_
   refine xw_block<|xw_then<|cw_region ?_
   refine qv (v_add rfl rfl (nw_i64 zom zom))<|qm ?_
   refine ow_nil ?_
   rotate_left
   (refine ow_makeMapG (kd:=.u64) rfl rfl ?_;intro b52 c52 hm52)
   refine qx ?_
   refine aw_step2 7 12 zdk rfl rfl ?_ ?_
   (refine ow_makeMapG (kd:=.u64) rfl rfl ?_;intro b51 c51 hm51)
   refine qx ?_
   refine aw_step1 12 zdk rfl ?_
   refine ow_store1 rfl rfl rfl rfl Ty.sc37 (.there (.there (.there (.there (.there .here))))) (SetN.one zdn)<|qx ?_
   refine aw_pure 15 rfl zdk rfl rfl (v_indexAddrA Tryz.underlying38 Ty.el38 rfl rfl rfl zom) rfl ?_
   refine aw_step1 16 zdk rfl ?_
   refine ow_store1 rfl rfl rfl rfl Ty.sc37 (.there (.there (.there (.there (.there .here))))) (SetN.one zdn)<|qx ?_
   refine aw_pure 19 rfl zdk rfl rfl (v_indexAddrA Tryz.underlying40 Ty.el40 rfl rfl rfl zom) rfl ?_
   refine aw_step1 20 zdk rfl ?_
   refine ow_store1 rfl rfl rfl rfl Ty.sc39 (.there (.there (.there (.there (.there .here))))) (SetN.one zdn)<|qx ?_
   refine aw_end zdk ?_
   refine xw_np ?_
   refine xw_block<|xw_then<|cw_region ?_
   refine qv (v_add rfl rfl (nw_i64 zom zom))<|qm<|ow_nil ?_
   rotate_left
   refine ow_store1 rfl rfl rfl rfl Ty.sc37 (.there (.there (.there (.there .here)))) (SetN.one zdn)<|qx ?_
   refine aw_step1 7 zdk rfl ?_
   (refine ow_makeMapG (kd:=.u64) rfl rfl ?_;intro b51 c51 hm51)
   refine qx ?_
   refine aw_pure 15 rfl zdk rfl rfl (v_indexAddrA Tryz.underlying38 Ty.el38 rfl rfl rfl zom) rfl ?_
   refine aw_step1 16 zdk rfl ?_
   refine ow_store1 rfl rfl rfl rfl Ty.sc37 (.there (.there (.there (.there (.there .here))))) (SetN.one zdn)<|qx ?_
   refine aw_pure 19 rfl zdk rfl rfl (v_indexAddrA Tryz.underlying40 Ty.el40 rfl rfl rfl zom) rfl ?_
   refine aw_step1 20 zdk rfl ?_
   refine ow_store1 rfl rfl rfl rfl Ty.sc39 (.there (.there (.there (.there (.there .here))))) (SetN.one zdn)<|qx ?_
   refine aw_end zdk ?_
   refine xw_np ?_
   refine xw_block ?_
   refine xw_then<|cw_region ?_
   refine qv (v_add rfl rfl (nw_i64 zom zom))<|qm<|ow_nil ?_
   rotate_left
   refine ow_store1 rfl rfl rfl rfl Ty.sc37 (.there (.there (.there .here))) (SetN.one zdn)<|qx ?_
   refine aw_step2 7 8 zdk rfl rfl ?_ ?_
   (refine ow_makeMapG (kd:=.u64) rfl rfl ?_;intro b51 c51 hm51)
   refine qx ?_
   refine aw_pure 15 rfl zdk rfl rfl (v_indexAddrA Tryz.underlying38 Ty.el38 rfl rfl rfl zom) rfl ?_
   refine aw_step2 8 16 zdk rfl rfl ?_ ?_
   (refine ow_makeMapG (kd:=.u64) rfl rfl ?_;intro b52 c52 hm52)
   refine qx ?_
   refine aw_step1 16 zdk rfl ?_
   refine ow_store1 rfl rfl rfl rfl Ty.sc37 (.there (.there (.there (.there (.there .here))))) (SetN.one zdn)<|qx ?_
   refine aw_pure 19 rfl zdk rfl rfl (v_indexAddrA Tryz.underlying40 Ty.el40 rfl rfl rfl zom) rfl ?_
   refine aw_step1 20 zdk rfl ?_
   refine ow_store1 rfl rfl rfl rfl Ty.sc39 (.there (.there (.there (.there (.there .here))))) (SetN.one zdn)<|qx ?_
   refine aw_end zdk ?_
   refine xw_np ?_
   refine xw_block<|xw_then ?_
   refine cw_region ?_
   refine qv (v_add rfl rfl (nw_i64 zom zom))<|qm<|ow_nil ?_
   rotate_left
   refine ow_store1 rfl rfl rfl rfl Ty.sc37 (.there (.there (.there (.there .here)))) (SetN.one zdn)<|qx ?_
   refine aw_step1 8 zdk rfl ?_
   (refine ow_makeMapG (kd:=.u64) rfl rfl ?_;intro b52 c52 hm52)
   refine qx ?_
   refine aw_pure 19 rfl zdk rfl rfl (v_indexAddrA Tryz.underlying40 Ty.el40 rfl rfl rfl zom) rfl ?_
   refine aw_step1 20 zdk rfl ?_
   refine ow_store1 rfl rfl rfl rfl Ty.sc39 (.there (.there (.there (.there (.there .here))))) (SetN.one zdn)<|qx ?_
   refine aw_end zdk ?_
   refine xw_np ?_
   refine xw_block<|xw_then<|cw_region ?_
   refine qv (v_add rfl rfl (nw_i64 zom zom))<|qm ?_
   refine ow_nil ?_
   rotate_left
   (refine ow_makeMapG (kd:=.u64) rfl rfl ?_;intro b52 c52 hm52)
   refine qx ?_
   refine aw_step1 7 zdk rfl ?_
   (refine ow_makeMapG (kd:=.u64) rfl rfl ?_;intro b51 c51 hm51)
   refine qx ?_
   refine aw_pure 15 rfl zdk rfl rfl (v_indexAddrA Tryz.underlying38 Ty.el38 rfl rfl rfl zom) rfl ?_
   refine aw_step1 16 zdk rfl ?_
   refine ow_store1 rfl rfl rfl rfl Ty.sc37 (.there (.there (.there (.there (.there .here))))) (SetN.one zdn)<|qx ?_
   refine aw_pure 19 rfl zdk rfl rfl (v_indexAddrA Tryz.underlying40 Ty.el40 rfl rfl rfl zom) rfl ?_
   refine aw_step1 20 zdk rfl ?_
   refine ow_store1 rfl rfl rfl rfl Ty.sc39 (.there (.there (.there (.there (.there .here))))) (SetN.one zdn)<|qx ?_
   refine aw_end zdk ?_
   refine xw_np ?_
   refine xw_block ?_
   refine xw_then<|cw_region ?_
   refine qv (v_add rfl rfl (nw_i64 zom zom))<|qm<|ow_nil ?_
   rotate_left
   (refine ow_makeMapG (kd:=.u64) rfl rfl ?_;intro b51 c51 hm51)
   refine qx ?_
   refine aw_step2 6 8 zdk rfl rfl ?_ ?_
   (refine ow_makeMapG (kd:=.u64) rfl rfl ?_;intro b50 c50 hm50)
   refine qx ?_
   refine aw_pure 11 rfl zdk rfl rfl (v_indexAddrA Tryz.underlying38 Ty.el38 rfl rfl rfl zom) rfl ?_
   refine aw_step2 8 12 zdk rfl rfl ?_ ?_
   (refine ow_makeMapG (kd:=.u64) rfl rfl ?_;intro b52 c52 hm52)
   refine qx ?_
   refine aw_step1 12 zdk rfl ?_
   refine ow_store1 rfl rfl rfl rfl Ty.sc37 (.there (.there (.there (.there (.there .here))))) (SetN.one zdn)<|qx ?_
   refine aw_pure 15 rfl zdk rfl rfl (v_indexAddrA Tryz.underlying38 Ty.el38 rfl rfl rfl zom) rfl ?_
   refine aw_step1 16 zdk rfl ?_
   refine ow_store1 rfl rfl rfl rfl Ty.sc37 (.there (.there (.there (.there (.there .here))))) (SetN.one zdn)<|qx ?_
   refine aw_pure 19 rfl zdk rfl rfl (v_indexAddrA Tryz.underlying40 Ty.el40 rfl rfl rfl zom) rfl ?_
   refine aw_step1 20 zdk rfl ?_
   refine ow_store1 rfl rfl rfl rfl Ty.sc39 (.there (.there (.there (.there (.there .here))))) (SetN.one zdn)<|qx ?_
   refine aw_end zdk ?_
   refine xw_np ?_
   refine xw_block<|xw_then<|cw_region ?_
   refine qv (v_add rfl rfl (nw_i64 zom zom))<|qm<|ow_nil ?_
   rotate_left
   refine ow_store1 rfl rfl rfl rfl Ty.sc37 (.there (.there (.there (.there .here)))) (SetN.one zdn)<|qx ?_
   refine aw_pure 15 rfl zdk rfl rfl (v_indexAddrA Tryz.underlying38 Ty.el38 rfl rfl rfl zom) rfl ?_
   refine aw_step2 8 16 zdk rfl rfl ?_ ?_
   (refine ow_makeMapG (kd:=.u64) rfl rfl ?_;intro b52 c52 hm52)
   refine qx ?_
   refine aw_step1 16 zdk rfl ?_
   refine ow_store1 rfl rfl rfl rfl Ty.sc37 (.there (.there (.there (.there (.there .here))))) (SetN.one zdn)<|qx ?_
   refine aw_pure 19 rfl zdk rfl rfl (v_indexAddrA Tryz.underlying40 Ty.el40 rfl rfl rfl zom) rfl ?_
   refine aw_step1 20 zdk rfl ?_
   refine ow_store1 rfl rfl rfl rfl Ty.sc39 (.there (.there (.there (.there (.there .here))))) (SetN.one zdn)<|qx ?_
   refine aw_end zdk ?_
   refine xw_np ?_
   refine xw_block<|xw_then ?_
   refine cw_region ?_
   refine qv (v_add rfl rfl (nw_i64 zom zom))<|qm<|ow_nil ?_
   rotate_left
   refine ow_store1 rfl rfl rfl rfl Ty.sc37 (.there (.there (.there (.there .here)))) (SetN.one zdn)<|qx ?_
   refine aw_step1 8 zdk rfl ?_
   (refine ow_makeMapG (kd:=.u64) rfl rfl ?_;intro b52 c52 hm52)
   refine qx ?_
   refine aw_pure 19 rfl zdk rfl rfl (v_indexAddrA Tryz.underlying40 Ty.el40 rfl rfl rfl zom) rfl ?_
   refine aw_step1 20 zdk rfl ?_
   refine ow_store1 rfl rfl rfl rfl Ty.sc39 (.there (.there (.there (.there (.there .here))))) (SetN.one zdn)<|qx ?_
   refine aw_end zdk ?_
   refine xw_np ?_
   refine xw_block<|xw_then<|cw_region ?_
   refine qv (v_add rfl rfl (nw_i64 zom zom))<|qm ?_
   refine ow_nil ?_
   rotate_left
   (refine ow_makeMapG (kd:=.u64) rfl rfl ?_;intro b52 c52 hm52)
   refine qx ?_
   refine aw_step1 6 zdk rfl ?_
   (refine ow_makeMapG (kd:=.u64) rfl rfl ?_;intro b50 c50 hm50)
   refine qx ?_
   refine aw_pure 11 rfl zdk rfl rfl (v_indexAddrA Tryz.underlying38 Ty.el38 rfl rfl rfl zom) rfl ?_
   refine aw_step1 12 zdk rfl ?_
   refine ow_store1 rfl rfl rfl rfl Ty.sc37 (.there (.there (.there (.there (.there .here))))) (SetN.one zdn)<|qx ?_
   refine aw_pure 15 rfl zdk rfl rfl (v_indexAddrA Tryz.underlying38 Ty.el38 rfl rfl rfl zom) rfl ?_
   refine aw_step1 16 zdk rfl ?_
   refine ow_store1 rfl rfl rfl rfl Ty.sc37 (.there (.there (.there (.there (.there .here))))) (SetN.one zdn)<|qx ?_
   refine aw_pure 19 rfl zdk rfl rfl (v_indexAddrA Tryz.underlying40 Ty.el40 rfl rfl rfl zom) rfl ?_
   refine aw_step1 20 zdk rfl ?_
   refine ow_store1 rfl rfl rfl rfl Ty.sc39 (.there (.there (.there (.there (.there .here))))) (SetN.one zdn) ?_
   refine qx ?_
   refine aw_end zdk ?_
   refine xw_np ?_
   refine xw_block<|xw_then<|cw_region ?_
   refine qv (v_add rfl rfl (nw_i64 zom zom))<|qm<|ow_nil ?_
   rotate_left
   (refine ow_makeMapG (kd:=.u64) rfl rfl ?_;intro b52 c52 hm52)
   refine qx ?_
   refine aw_step2 6 7 zdk rfl rfl ?_ ?_
   (refine ow_makeMapG (kd:=.u64) rfl rfl ?_;intro b50 c50 hm50)
   refine qx ?_
   refine aw_pure 11 rfl zdk rfl rfl (v_indexAddrA Tryz.underlying38 Ty.el38 rfl rfl rfl zom) rfl ?_
   refine aw_step2 7 12 zdk rfl rfl ?_ ?_
   (refine ow_makeMapG (kd:=.u64) rfl rfl ?_;intro b51 c51 hm51)
   refine qx ?_
   refine aw_step1 12 zdk rfl ?_
   refine ow_store1 rfl rfl rfl rfl Ty.sc37 (.there (.there (.there (.there (.there .here))))) (SetN.one zdn)<|qx ?_
   refine aw_pure 15 rfl zdk rfl rfl (v_indexAddrA Tryz.underlying38 Ty.el38 rfl rfl rfl zom) rfl ?_
   refine aw_step1 16 zdk rfl ?_
   refine ow_store1 rfl rfl rfl rfl Ty.sc37 (.there (.there (.there (.there (.there .here))))) (SetN.one zdn)<|qx ?_
   refine aw_pure 19 rfl zdk rfl rfl (v_indexAddrA Tryz.underlying40 Ty.el40 rfl rfl rfl zom) rfl ?_
   refine aw_step1 20 zdk rfl ?_
   refine ow_store1 rfl rfl rfl rfl Ty.sc39 (.there (.there (.there (.there (.there .here))))) (SetN.one zdn)<|qx ?_
   refine aw_end zdk ?_
   refine xw_np ?_
   refine xw_block<|xw_then<|cw_region ?_
   refine qv (v_add rfl rfl (nw_i64 zom zom))<|qm<|ow_nil ?_
   rotate_left
   refine ow_store1 rfl rfl rfl rfl Ty.sc37 (.there (.there (.there (.there .here)))) (SetN.one zdn)<|qx ?_
   refine aw_step1 7 zdk rfl ?_
   (refine ow_makeMapG (kd:=.u64) rfl rfl ?_;intro b51 c51 hm51)
   refine qx ?_
   refine aw_pure 15 rfl zdk rfl rfl (v_indexAddrA Tryz.underlying38 Ty.el38 rfl rfl rfl zom) rfl ?_
   refine aw_step1 16 zdk rfl ?_
   refine ow_store1 rfl rfl rfl rfl Ty.sc37 (.there (.there (.there (.there (.there .here))))) (SetN.one zdn)<|qx ?_
   refine aw_pure 19 rfl zdk rfl rfl (v_indexAddrA Tryz.underlying40 Ty.el40 rfl rfl rfl zom) rfl ?_
   refine aw_step1 20 zdk rfl ?_
   refine ow_store1 rfl rfl rfl rfl Ty.sc39 (.there (.there (.there (.there (.there .here))))) (SetN.one zdn)<|qx ?_
   refine aw_end zdk ?_
   refine xw_np ?_
   refine xw_block ?_
   refine xw_then<|cw_region ?_
   refine qv (v_add rfl rfl (nw_i64 zom zom))<|qm<|ow_nil ?_
   rotate_left
   (refine ow_makeMapG (kd:=.u64) rfl rfl ?_;intro b51 c51 hm51)
   refine qx ?_
   refine aw_step1 6 zdk rfl ?_
   (refine ow_makeMapG (kd:=.u64) rfl rfl ?_;intro b50 c50 hm50)
   refine qx ?_
   refine aw_pure 11 rfl zdk rfl rfl (v_indexAddrA Tryz.underlying38 Ty.el38 rfl rfl rfl zom) rfl ?_
   refine aw_step1 12 zdk rfl ?_
   refine ow_store1 rfl rfl rfl rfl Ty.sc37 (.there (.there (.there (.there (.there .here))))) (SetN.one zdn)<|qx ?_
   refine aw_pure 15 rfl zdk rfl rfl (v_indexAddrA Tryz.underlying38 Ty.el38 rfl rfl rfl zom) rfl ?_
   refine aw_step1 16 zdk rfl ?_
   refine ow_store1 rfl rfl rfl rfl Ty.sc37 (.there (.there (.there (.there (.there .here))))) (SetN.one zdn)<|qx ?_
   refine aw_pure 19 rfl zdk rfl rfl (v_indexAddrA Tryz.underlying40 Ty.el40 rfl rfl rfl zom) rfl ?_
   refine aw_step1 20 zdk rfl ?_
   refine ow_store1 rfl rfl rfl rfl Ty.sc39 (.there (.there (.there (.there (.there .here))))) (SetN.one zdn) ?_
   refine qx ?_
   refine aw_end zdk ?_
   refine xw_np ?_
   refine xw_block<|xw_then<|cw_region ?_
   refine qv (v_add rfl rfl (nw_i64 zom zom))<|qm<|ow_nil ?_
   rotate_left
   all_goals
    rw[setZ]
    refine xw_round (⟨1,prP2 x29.1 b50 b51 b52 0 0 0 0,prC2 x43 c50 c51 c52 [] [] [] []⟩:NpS) ⟨by dsimp only;omega,fun _=>⟨asFirst (i:=false) hD.1 ho hm hq43,BmAt.new hm50,BmAt.new hm51,BlAt.new hm52⟩,fun h=>absurd h zdo,fun h=>absurd h zdo,fun _=>⟨rfl,rfl,rfl,rfl⟩⟩ zdo (by intro p;simp only[List.flatten_cons,List.flatten_nil,List.flatten_append,List.append_nil,List.nil_append,cnt_append,cnt_cons,cnt_nil,List.set_cons_zero,List.set_cons_succ,List.length_nil,List.length_cons,Nat.zero_add,List.append,npCells,prP2,prC2,cond_true,cond_false,hll];omega) zenv
  ·obtain⟨f1,f2,f3,f4⟩:=hf zom
   obtain⟨z6,z7,z8,z9⟩:=z1 zom
   rw[z6,z7,z8,z9]
   have ol:(oP (p.s false) (p.w false) (p.r false) (p.e false)).length=9:=rfl
   have oo:∀u∈oP (p.s false) (p.w false) (p.r false) (p.e false),u.oneCell'=true:=allOne rfl
   refine cw_cov ([(b8,.cells (limP one).cells.toArray 59 (0,0))]::[(b11,.cells (oP (p.s false) (p.w false) (p.r false) (p.e false)).toArray 42 (0,0))]::C.s false::C.w false::C.r false::C.e false::G) (by intro p;simp only[List.flatten_cons,List.flatten_nil,List.flatten_append,List.append_nil,List.nil_append,cnt_append,cnt_cons,cnt_nil,List.set_cons_zero,List.set_cons_succ,List.length_nil,List.length_cons,Nat.zero_add,List.append,npCells];omega) ?_
   refine cw_seq ?_
   refine cw_block<|qs<|qm<|qa<|qt<|cw_seq ?_
   refine cw_mix [] [8,11,12] [0,1,2,3,4,5,6,7,9,10] Ty.mixed rfl rfl rfl rfl zdk ?_
   refine hmv ?_
   refine hmv ?_
   refine hmv ?_
   refine hw_pure rfl rfl (v_eql rfl rfl) rfl ?_
   refine hmv ?_
   refine hw_read rfl rfl rfl (v_load rfl (Var.atN Ty.ag59 .here GetN.all zra)) ?_
   refine hmv ?_
   refine hmv ?_
   refine hw_pure rfl rfl (v_nilCheck rfl) rfl ?_
   refine hw_pure rfl rfl (v_fieldAddr0 Ty.fd42_0 rfl) rfl ?_
   refine hw_nil ?_
   refine sw_nil ?_
   (refine ow_call rfl rfl rfl rfl (asNew_c (own:=limP one) zom) ?_;rintro _ _ ⟨x29,rfl,hq29,rfl⟩)
   refine qv (v_indexAddrA Tryz.underlying36 Ty.el36 rfl rfl rfl zom) ?_
   refine ow_store1 rfl rfl rfl rfl Ty.sc35 (.there (.there .here)) (SetN.one zdn)<|ow_nil ?_
   refine xw_np<|xw_then ?_
   have hq29':SsAt (SsM.new false D (limP one) many many) [] x29.1 x29.2:=hq29
   refine cw_seq ?_
   refine cw_mix [] [10] [0,1,2,3,4,5,6,7,8,9] Ty.mixed rfl rfl rfl rfl zdk ?_
   refine hmv ?_
   refine hmv ?_
   refine hw_pure rfl rfl (v_nilCheck rfl) rfl ?_
   refine hw_pure rfl rfl (v_fieldAddr0 Ty.fd42_0 rfl) rfl ?_
   refine hw_pure rfl rfl (v_indexAddrA Tryz.underlying36 Ty.el36 rfl rfl rfl zom) rfl ?_
   refine hw_read rfl rfl rfl (v_load rfl (Var.at1 Ty.sc35 (.there (.there .here)) (GetN.lit rfl))) ?_
   refine hmv ?_
   refine hw_read rfl rfl rfl (v_load rfl (Var.atN Ty.ag59 (.there .here) GetN.all zra)) ?_
   refine hmv ?_
   refine hmv ?_
   refine hw_nil ?_
   refine sw_nil ?_
   (refine ow_call rfl rfl rfl rfl (start_c (th:=limP one) zsel hq29') ?_;rintro _ _ ⟨x43,rfl,hq43,rfl⟩)
   refine ow_nil ?_
   refine xw_np<|xw_then ?_
   refine cw_mixA [6,7,8,11,12,15,16,19,20] [0,1,2,3,4,5,9,10,13,14,17,18] (((((((((((((Array.replicate 21 false).setIfInBounds 0 true).setIfInBounds 1 true).setIfInBounds 2 true).setIfInBounds 3 true).setIfInBounds 4 true).setIfInBounds 5 true).setIfInBounds 9 true).setIfInBounds 10 true).setIfInBounds 13 true).setIfInBounds 14 true).setIfInBounds 17 true).setIfInBounds 18 true) Ty.mixed rfl rfl zdk rfl ?_
   refine hwa_pure rfl rfl (v_move rfl) rfl ?_
   refine hwa_pure rfl rfl (v_move rfl) rfl ?_
   refine hwa_pure rfl rfl (v_move rfl) rfl ?_
   refine hwa_pure rfl rfl (v_move rfl) rfl ?_
   refine hwa_pure rfl rfl (v_move rfl) rfl ?_
   refine hwa_pure rfl rfl (v_move rfl) rfl ?_
   refine hwa_pure rfl rfl (v_nilCheck rfl) rfl ?_
   refine hwa_pure rfl rfl (v_fieldAddr0 Ty.fd42_1 rfl) rfl ?_
   refine hwa_pure rfl rfl (v_nilCheck rfl) rfl ?_
   refine hwa_pure rfl rfl (v_fieldAddr0 Ty.fd42_2 rfl) rfl ?_
   refine hwa_pure rfl rfl (v_nilCheck rfl) rfl ?_
   refine hwa_pure rfl rfl (v_fieldAddr0 Ty.fd42_3 rfl) rfl ?_
   refine hwa_nil ?_
   refine aw_step3 6 7 8 zdk rfl rfl rfl ?_ ?_ ?_
   (refine ow_makeMapG (kd:=.u64) rfl rfl ?_;intro b50 c50 hm50)
   refine qx ?_
   refine aw_pure 11 rfl zdk rfl rfl (v_indexAddrA Tryz.underlying38 Ty.el38 rfl rfl rfl zom) rfl ?_
   refine aw_step3 7 8 12 zdk rfl rfl rfl ?_ ?_ ?_
   (refine ow_makeMapG (kd:=.u64) rfl rfl ?_;intro b51 c51 hm51)
   refine qx ?_
   refine aw_step2 8 12 zdk rfl rfl ?_ ?_
   (refine ow_makeMapG (kd:=.u64) rfl rfl ?_;intro b52 c52 hm52)
   refine qx ?_
   refine aw_step1 12 zdk rfl ?_
   refine ow_store1 rfl rfl rfl rfl Ty.sc37 (.there (.there (.there (.there (.there .here))))) (SetN.one zdn)<|qx ?_
   refine aw_pure 15 rfl zdk rfl rfl (v_indexAddrA Tryz.underlying38 Ty.el38 rfl rfl rfl zom) rfl ?_
   refine aw_step1 16 zdk rfl ?_
   refine ow_store1 rfl rfl rfl rfl Ty.sc37 (.there (.there (.there (.there (.there .here))))) (SetN.one zdn)<|qx ?_
   refine aw_pure 19 rfl zdk rfl rfl (v_indexAddrA Tryz.underlying40 Ty.el40 rfl rfl rfl zom) rfl ?_
   refine aw_step1 20 zdk rfl ?_
   refine ow_store1 rfl rfl rfl rfl Ty.sc39 (.there (.there (.there (.there (.there .here))))) (SetN.one zdn)<|qx ?_
   refine aw_end zdk ?_
   refine xw_np ?_
   refine xw_block<|xw_then<|cw_region ?_
   refine qv (v_add rfl rfl (nw_i64 zom zom))<|qm<|ow_nil ?_
   rotate_left
   refine ow_store1 rfl rfl rfl rfl Ty.sc37 (.there (.there (.there (.there .here)))) (SetN.one zdn)<|qx ?_
   refine aw_pure 15 rfl zdk rfl rfl (v_indexAddrA Tryz.underlying38 Ty.el38 rfl rfl rfl zom) rfl ?_
   refine aw_step2 8 16 zdk rfl rfl ?_ ?_
   (refine ow_makeMapG (kd:=.u64) rfl rfl ?_;intro b52 c52 hm52)
   refine qx ?_
   refine aw_step1 16 zdk rfl ?_
   refine ow_store1 rfl rfl rfl rfl Ty.sc37 (.there (.there (.there (.there (.there .here))))) (SetN.one zdn)<|qx ?_
   refine aw_pure 19 rfl zdk rfl rfl (v_indexAddrA Tryz.underlying40 Ty.el40 rfl rfl rfl zom) rfl ?_
   refine aw_step1 20 zdk rfl ?_
   refine ow_store1 rfl rfl rfl rfl Ty.sc39 (.there (.there (.there (.there (.there .here))))) (SetN.one zdn)<|qx ?_
   refine aw_end zdk ?_
   refine xw_np ?_
   refine xw_block<|xw_then ?_
   refine cw_region ?_
   refine qv (v_add rfl rfl (nw_i64 zom zom))<|qm<|ow_nil ?_
   rotate_left
   refine ow_store1 rfl rfl rfl rfl Ty.sc37 (.there (.there (.there (.there .here)))) (SetN.one zdn)<|qx ?_
   refine aw_step1 8 zdk rfl ?_
   (refine ow_makeMapG (kd:=.u64) rfl rfl ?_;intro b52 c52 hm52)
   refine qx ?_
   refine aw_pure 19 rfl zdk rfl rfl (v_indexAddrA Tryz.underlying40 Ty.el40 rfl rfl rfl zom) rfl ?_
   refine aw_step1 20 zdk rfl ?_
   refine ow_store1 rfl rfl rfl rfl Ty.sc39 (.there (.there (.there (.there (.there .here))))) (SetN.one zdn)<|qx ?_
   refine aw_end zdk ?_
   refine xw_np ?_
   refine xw_block<|xw_then<|cw_region ?_
   refine qv (v_add rfl rfl (nw_i64 zom zom))<|qm ?_
   refine ow_nil ?_
   rotate_left
   (refine ow_makeMapG (kd:=.u64) rfl rfl ?_;intro b52 c52 hm52)
   refine qx ?_
   refine aw_step2 7 12 zdk rfl rfl ?_ ?_
   (refine ow_makeMapG (kd:=.u64) rfl rfl ?_;intro b51 c51 hm51)
   refine qx ?_
   refine aw_step1 12 zdk rfl ?_
   refine ow_store1 rfl rfl rfl rfl Ty.sc37 (.there (.there (.there (.there (.there .here))))) (SetN.one zdn)<|qx ?_
   refine aw_pure 15 rfl zdk rfl rfl (v_indexAddrA Tryz.underlying38 Ty.el38 rfl rfl rfl zom) rfl ?_
   refine aw_step1 16 zdk rfl ?_
   refine ow_store1 rfl rfl rfl rfl Ty.sc37 (.there (.there (.there (.there (.there .here))))) (SetN.one zdn)<|qx ?_
   refine aw_pure 19 rfl zdk rfl rfl (v_indexAddrA Tryz.underlying40 Ty.el40 rfl rfl rfl zom) rfl ?_
   refine aw_step1 20 zdk rfl ?_
   refine ow_store1 rfl rfl rfl rfl Ty.sc39 (.there (.there (.there (.there (.there .here))))) (SetN.one zdn)<|qx ?_
   refine aw_end zdk ?_
   refine xw_np ?_
   refine xw_block<|xw_then<|cw_region ?_
   refine qv (v_add rfl rfl (nw_i64 zom zom))<|qm<|ow_nil ?_
   rotate_left
   refine ow_store1 rfl rfl rfl rfl Ty.sc37 (.there (.there (.there (.there .here)))) (SetN.one zdn)<|qx ?_
   refine aw_step1 7 zdk rfl ?_
   (refine ow_makeMapG (kd:=.u64) rfl rfl ?_;intro b51 c51 hm51)
   refine qx ?_
   refine aw_pure 15 rfl zdk rfl rfl (v_indexAddrA Tryz.underlying38 Ty.el38 rfl rfl rfl zom) rfl ?_
   refine aw_step1 16 zdk rfl ?_
   refine ow_store1 rfl rfl rfl rfl Ty.sc37 (.there (.there (.there (.there (.there .here))))) (SetN.one zdn)<|qx ?_
   refine aw_pure 19 rfl zdk rfl rfl (v_indexAddrA Tryz.underlying40 Ty.el40 rfl rfl rfl zom) rfl ?_
   refine aw_step1 20 zdk rfl ?_
   refine ow_store1 rfl rfl rfl rfl Ty.sc39 (.there (.there (.there (.there (.there .here))))) (SetN.one zdn)<|qx ?_
   refine aw_end zdk ?_
   refine xw_np ?_
   refine xw_block ?_
   refine xw_then<|cw_region ?_
   refine qv (v_add rfl rfl (nw_i64 zom zom))<|qm<|ow_nil ?_
   rotate_left
   refine ow_store1 rfl rfl rfl rfl Ty.sc37 (.there (.there (.there .here))) (SetN.one zdn)<|qx ?_
   refine aw_step2 7 8 zdk rfl rfl ?_ ?_
   (refine ow_makeMapG (kd:=.u64) rfl rfl ?_;intro b51 c51 hm51)
   refine qx ?_
   refine aw_pure 15 rfl zdk rfl rfl (v_indexAddrA Tryz.underlying38 Ty.el38 rfl rfl rfl zom) rfl ?_
   refine aw_step2 8 16 zdk rfl rfl ?_ ?_
   (refine ow_makeMapG (kd:=.u64) rfl rfl ?_;intro b52 c52 hm52)
   refine qx ?_
   refine aw_step1 16 zdk rfl ?_
   refine ow_store1 rfl rfl rfl rfl Ty.sc37 (.there (.there (.there (.there (.there .here))))) (SetN.one zdn)<|qx ?_
   refine aw_pure 19 rfl zdk rfl rfl (v_indexAddrA Tryz.underlying40 Ty.el40 rfl rfl rfl zom) rfl ?_
   refine aw_step1 20 zdk rfl ?_
   refine ow_store1 rfl rfl rfl rfl Ty.sc39 (.there (.there (.there (.there (.there .here))))) (SetN.one zdn)<|qx ?_
   refine aw_end zdk ?_
   refine xw_np ?_
   refine xw_block<|xw_then ?_
   refine cw_region ?_
   refine qv (v_add rfl rfl (nw_i64 zom zom))<|qm<|ow_nil ?_
   rotate_left
   refine ow_store1 rfl rfl rfl rfl Ty.sc37 (.there (.there (.there (.there .here)))) (SetN.one zdn)<|qx ?_
   refine aw_step1 8 zdk rfl ?_
   (refine ow_makeMapG (kd:=.u64) rfl rfl ?_;intro b52 c52 hm52)
   refine qx ?_
   refine aw_pure 19 rfl zdk rfl rfl (v_indexAddrA Tryz.underlying40 Ty.el40 rfl rfl rfl zom) rfl ?_
   refine aw_step1 20 zdk rfl ?_
   refine ow_store1 rfl rfl rfl rfl Ty.sc39 (.there (.there (.there (.there (.there .here))))) (SetN.one zdn)<|qx ?_
   refine aw_end zdk ?_
   refine xw_np ?_
   refine xw_block<|xw_then<|cw_region ?_
   refine qv (v_add rfl rfl (nw_i64 zom zom))<|qm ?_
   refine ow_nil ?_
   rotate_left
   (refine ow_makeMapG (kd:=.u64) rfl rfl ?_;intro b52 c52 hm52)
   refine qx ?_
   refine aw_step1 7 zdk rfl ?_
   (refine ow_makeMapG (kd:=.u64) rfl rfl ?_;intro b51 c51 hm51)
   refine qx ?_
   refine aw_pure 15 rfl zdk rfl rfl (v_indexAddrA Tryz.underlying38 Ty.el38 rfl rfl rfl zom) rfl ?_
   refine aw_step1 16 zdk rfl ?_
   refine ow_store1 rfl rfl rfl rfl Ty.sc37 (.there (.there (.there (.there (.there .here))))) (SetN.one zdn)<|qx ?_
   refine aw_pure 19 rfl zdk rfl rfl (v_indexAddrA Tryz.underlying40 Ty.el40 rfl rfl rfl zom) rfl ?_
   refine aw_step1 20 zdk rfl ?_
   refine ow_store1 rfl rfl rfl rfl Ty.sc39 (.there (.there (.there (.there (.there .here))))) (SetN.one zdn)<|qx ?_
   refine aw_end zdk ?_
   refine xw_np ?_
   refine xw_block ?_
   refine xw_then<|cw_region ?_
   refine qv (v_add rfl rfl (nw_i64 zom zom))<|qm<|ow_nil ?_
   rotate_left
   (refine ow_makeMapG (kd:=.u64) rfl rfl ?_;intro b51 c51 hm51)
   refine qx ?_
   refine aw_step2 6 8 zdk rfl rfl ?_ ?_
   (refine ow_makeMapG (kd:=.u64) rfl rfl ?_;intro b50 c50 hm50)
   refine qx ?_
   refine aw_pure 11 rfl zdk rfl rfl (v_indexAddrA Tryz.underlying38 Ty.el38 rfl rfl rfl zom) rfl ?_
   refine aw_step2 8 12 zdk rfl rfl ?_ ?_
   (refine ow_makeMapG (kd:=.u64) rfl rfl ?_;intro b52 c52 hm52)
   refine qx ?_
   refine aw_step1 12 zdk rfl ?_
   refine ow_store1 rfl rfl rfl rfl Ty.sc37 (.there (.there (.there (.there (.there .here))))) (SetN.one zdn)<|qx ?_
   refine aw_pure 15 rfl zdk rfl rfl (v_indexAddrA Tryz.underlying38 Ty.el38 rfl rfl rfl zom) rfl ?_
   refine aw_step1 16 zdk rfl ?_
   refine ow_store1 rfl rfl rfl rfl Ty.sc37 (.there (.there (.there (.there (.there .here))))) (SetN.one zdn)<|qx ?_
   refine aw_pure 19 rfl zdk rfl rfl (v_indexAddrA Tryz.underlying40 Ty.el40 rfl rfl rfl zom) rfl ?_
   refine aw_step1 20 zdk rfl ?_
   refine ow_store1 rfl rfl rfl rfl Ty.sc39 (.there (.there (.there (.there (.there .here))))) (SetN.one zdn)<|qx ?_
   refine aw_end zdk ?_
   refine xw_np ?_
   refine xw_block<|xw_then<|cw_region ?_
   refine qv (v_add rfl rfl (nw_i64 zom zom))<|qm<|ow_nil ?_
   rotate_left
   refine ow_store1 rfl rfl rfl rfl Ty.sc37 (.there (.there (.there (.there .here)))) (SetN.one zdn)<|qx ?_
   refine aw_pure 15 rfl zdk rfl rfl (v_indexAddrA Tryz.underlying38 Ty.el38 rfl rfl rfl zom) rfl ?_
   refine aw_step2 8 16 zdk rfl rfl ?_ ?_
   (refine ow_makeMapG (kd:=.u64) rfl rfl ?_;intro b52 c52 hm52)
   refine qx ?_
   refine aw_step1 16 zdk rfl ?_
   refine ow_store1 rfl rfl rfl rfl Ty.sc37 (.there (.there (.there (.there (.there .here))))) (SetN.one zdn)<|qx ?_
   refine aw_pure 19 rfl zdk rfl rfl (v_indexAddrA Tryz.underlying40 Ty.el40 rfl rfl rfl zom) rfl ?_
   refine aw_step1 20 zdk rfl ?_
   refine ow_store1 rfl rfl rfl rfl Ty.sc39 (.there (.there (.there (.there (.there .here))))) (SetN.one zdn)<|qx ?_
   refine aw_end zdk ?_
   refine xw_np ?_
   refine xw_block<|xw_then ?_
   refine cw_region ?_
   refine qv (v_add rfl rfl (nw_i64 zom zom))<|qm<|ow_nil ?_
   rotate_left
   refine ow_store1 rfl rfl rfl rfl Ty.sc37 (.there (.there (.there (.there .here)))) (SetN.one zdn)<|qx ?_
   refine aw_step1 8 zdk rfl ?_
   (refine ow_makeMapG (kd:=.u64) rfl rfl ?_;intro b52 c52 hm52)
   refine qx ?_
   refine aw_pure 19 rfl zdk rfl rfl (v_indexAddrA Tryz.underlying40 Ty.el40 rfl rfl rfl zom) rfl ?_
   refine aw_step1 20 zdk rfl ?_
   refine ow_store1 rfl rfl rfl rfl Ty.sc39 (.there (.there (.there (.there (.there .here))))) (SetN.one zdn)<|qx ?_
   refine aw_end zdk ?_
   refine xw_np ?_
   refine xw_block<|xw_then<|cw_region ?_
   refine qv (v_add rfl rfl (nw_i64 zom zom))<|qm ?_
   refine ow_nil ?_
   rotate_left
   (refine ow_makeMapG (kd:=.u64) rfl rfl ?_;intro b52 c52 hm52)
   refine qx ?_
   refine aw_step1 6 zdk rfl ?_
   (refine ow_makeMapG (kd:=.u64) rfl rfl ?_;intro b50 c50 hm50)
   refine qx ?_
   refine aw_pure 11 rfl zdk rfl rfl (v_indexAddrA Tryz.underlying38 Ty.el38 rfl rfl rfl zom) rfl ?_
   refine aw_step1 12 zdk rfl ?_
   refine ow_store1 rfl rfl rfl rfl Ty.sc37 (.there (.there (.there (.there (.there .here))))) (SetN.one zdn)<|qx ?_
   refine aw_pure 15 rfl zdk rfl rfl (v_indexAddrA Tryz.underlying38 Ty.el38 rfl rfl rfl zom) rfl ?_
   refine aw_step1 16 zdk rfl ?_
   refine ow_store1 rfl rfl rfl rfl Ty.sc37 (.there (.there (.there (.there (.there .here))))) (SetN.one zdn)<|qx ?_
   refine aw_pure 19 rfl zdk rfl rfl (v_indexAddrA Tryz.underlying40 Ty.el40 rfl rfl rfl zom) rfl ?_
   refine aw_step1 20 zdk rfl ?_
   refine ow_store1 rfl rfl rfl rfl Ty.sc39 (.there (.there (.there (.there (.there .here))))) (SetN.one zdn) ?_
   refine qx ?_
   refine aw_end zdk ?_
   refine xw_np ?_
   refine xw_block<|xw_then<|cw_region ?_
   refine qv (v_add rfl rfl (nw_i64 zom zom))<|qm<|ow_nil ?_
   rotate_left
   (refine ow_makeMapG (kd:=.u64) rfl rfl ?_;intro b52 c52 hm52)
   refine qx ?_
   refine aw_step2 6 7 zdk rfl rfl ?_ ?_
   (refine ow_makeMapG (kd:=.u64) rfl rfl ?_;intro b50 c50 hm50)
   refine qx ?_
   refine aw_pure 11 rfl zdk rfl rfl (v_indexAddrA Tryz.underlying38 Ty.el38 rfl rfl rfl zom) rfl ?_
   refine aw_step2 7 12 zdk rfl rfl ?_ ?_
   (refine ow_makeMapG (kd:=.u64) rfl rfl ?_;intro b51 c51 hm51)
   refine qx ?_
   refine aw_step1 12 zdk rfl ?_
   refine ow_store1 rfl rfl rfl rfl Ty.sc37 (.there (.there (.there (.there (.there .here))))) (SetN.one zdn)<|qx ?_
   refine aw_pure 15 rfl zdk rfl rfl (v_indexAddrA Tryz.underlying38 Ty.el38 rfl rfl rfl zom) rfl ?_
   refine aw_step1 16 zdk rfl ?_
   refine ow_store1 rfl rfl rfl rfl Ty.sc37 (.there (.there (.there (.there (.there .here))))) (SetN.one zdn)<|qx ?_
   refine aw_pure 19 rfl zdk rfl rfl (v_indexAddrA Tryz.underlying40 Ty.el40 rfl rfl rfl zom) rfl ?_
   refine aw_step1 20 zdk rfl ?_
   refine ow_store1 rfl rfl rfl rfl Ty.sc39 (.there (.there (.there (.there (.there .here))))) (SetN.one zdn)<|qx ?_
   refine aw_end zdk ?_
   refine xw_np ?_
   refine xw_block<|xw_then<|cw_region ?_
   refine qv (v_add rfl rfl (nw_i64 zom zom))<|qm<|ow_nil ?_
   rotate_left
   refine ow_store1 rfl rfl rfl rfl Ty.sc37 (.there (.there (.there (.there .here)))) (SetN.one zdn)<|qx ?_
   refine aw_step1 7 zdk rfl ?_
   (refine ow_makeMapG (kd:=.u64) rfl rfl ?_;intro b51 c51 hm51)
   refine qx ?_
   refine aw_pure 15 rfl zdk rfl rfl (v_indexAddrA Tryz.underlying38 Ty.el38 rfl rfl rfl zom) rfl ?_
   refine aw_step1 16 zdk rfl ?_
   refine ow_store1 rfl rfl rfl rfl Ty.sc37 (.there (.there (.there (.there (.there .here))))) (SetN.one zdn)<|qx ?_
   refine aw_pure 19 rfl zdk rfl rfl (v_indexAddrA Tryz.underlying40 Ty.el40 rfl rfl rfl zom) rfl ?_
   refine aw_step1 20 zdk rfl ?_
   refine ow_store1 rfl rfl rfl rfl Ty.sc39 (.there (.there (.there (.there (.there .here))))) (SetN.one zdn)<|qx ?_
   refine aw_end zdk ?_
   refine xw_np ?_
   refine xw_block ?_
   refine xw_then<|cw_region ?_
   refine qv (v_add rfl rfl (nw_i64 zom zom))<|qm<|ow_nil ?_
   rotate_left
   (refine ow_makeMapG (kd:=.u64) rfl rfl ?_;intro b51 c51 hm51)
   refine qx ?_
   refine aw_step1 6 zdk rfl ?_
   (refine ow_makeMapG (kd:=.u64) rfl rfl ?_;intro b50 c50 hm50)
   refine qx ?_
   refine aw_pure 11 rfl zdk rfl rfl (v_indexAddrA Tryz.underlying38 Ty.el38 rfl rfl rfl zom) rfl ?_
   refine aw_step1 12 zdk rfl ?_
   refine ow_store1 rfl rfl rfl rfl Ty.sc37 (.there (.there (.there (.there (.there .here))))) (SetN.one zdn)<|qx ?_
   refine aw_pure 15 rfl zdk rfl rfl (v_indexAddrA Tryz.underlying38 Ty.el38 rfl rfl rfl zom) rfl ?_
   refine aw_step1 16 zdk rfl ?_
   refine ow_store1 rfl rfl rfl rfl Ty.sc37 (.there (.there (.there (.there (.there .here))))) (SetN.one zdn)<|qx ?_
   refine aw_pure 19 rfl zdk rfl rfl (v_indexAddrA Tryz.underlying40 Ty.el40 rfl rfl rfl zom) rfl ?_
   refine aw_step1 20 zdk rfl ?_
   refine ow_store1 rfl rfl rfl rfl Ty.sc39 (.there (.there (.there (.there (.there .here))))) (SetN.one zdn) ?_
   refine qx ?_
   refine aw_end zdk ?_
   refine xw_np ?_
   refine xw_block<|xw_then<|cw_region ?_
   refine qv (v_add rfl rfl (nw_i64 zom zom))<|qm<|ow_nil ?_
   rotate_left
   all_goals
    rw[setO]
    refine xw_round (⟨2,prP2 (p.s false) (p.w false) (p.r false) (p.e false) x29.1 b50 b51 b52,prC2 (C.s false) (C.w false) (C.r false) (C.e false) x43 c50 c51 c52⟩:NpS) ⟨by dsimp only;omega,fun _=>⟨f1,f2,f3,f4⟩,fun _=>⟨asFirst (i:=true) hD.1 ho hm hq43,BmAt.new hm50,BmAt.new hm51,BlAt.new hm52⟩,fun h=>absurd h zdo,fun h=>absurd h zdo⟩ zdo (by intro p;simp only[List.flatten_cons,List.flatten_nil,List.flatten_append,List.append_nil,List.nil_append,cnt_append,cnt_cons,cnt_nil,List.set_cons_zero,List.set_cons_succ,List.length_nil,List.length_cons,Nat.zero_add,List.append,npCells,prC2,cond_true,cond_false,hll];omega) zenv
 ·have hj2:j=2:=by omega
  subst hj2
  have h1:=hf zom
  have h2:=ht zom
  have hC:C.Ok (pr0 D one many) p:=⟨bool_two false h1.s h2.s,bool_two false h1.w h2.w,bool_two false h1.r h2.r,bool_two false h1.e h2.e⟩
  have hcn:=PrC.cnt_ (C:=C) (p:=p) (b:=b11) false
  simp only[Bool.not_false]at hcn
  exact⟨(b11,p,C.all p b11),rfl,⟨C,hC,rfl⟩,(by intro p;simp only[List.flatten_cons,List.flatten_nil,List.flatten_append,List.append_nil,List.nil_append,cnt_append,cnt_cons,cnt_nil,List.set_cons_zero,List.set_cons_succ,List.length_nil,List.length_cons,Nat.zero_add,List.append,hcn,npCells];omega)⟩
end Go.Proofs.YtnlaffkihohfkaaGreat
namespace Go.Proofs.YtnlaffkihohfkaaGreat
open Go Go.Sl Go.Proofs
variable {B:Nat}{w0:World}{G:List Hp}{R:Hp→List Hp}
theorem light_c {acts:List ActO}{ao:Option Addr}{cap:Nat}(hV:Vw (enAct B w0) (St B w0 G) (.slice ao acts.length cap) acts)(hl:acts.length≤9223372036854775807):
  Go.Sl.Fn Tryz.prog 6 #[.slice ao acts.length cap] B w0 G fun u G'=>u=.bool (acts.all fun a=>decide (a.data.length≤100))∧G'=G:=by
 refine Fn.pure ?_
 refine fn_enter Tryz.func6 rfl (by kernel_rfl) Tryz.ntmps6 (by simp) ?_
 refine qs<|qa<|qt<|cw_seq<|qs<|qm<|qv (v_len rfl Tryz.underlying22 rfl)<|qm<|qt<|cw_block ?_
 refine cw_loop2 (ι:=(Nat)) [(5,_),(6,_)] ⟨rfl,rfl,trivial⟩ ((fun j=>[(7,.int .i64 j)])) ((fun j=>j≤acts.length∧∀(k:Nat) (h:k<acts.length),k<j→(acts[k]).data.length≤100)) ((fun j=>acts.length-j)) ((fun _=>G)) ((0:Nat)) zenv zcov ?_ ?_
 ·exact⟨Nat.zero_le _,fun k _ h=>absurd h (Nat.not_lt_zero _)⟩
 rintro j ⟨hj,hk⟩
 refine qs<|qv (v_lss rfl rfl)<|qt<|cw_seq ?_
 refine cw_dec rfl (fun hc8=>?_) (fun hc8=>?_)
 refine cw_skip<|xw_then ?_
 rotate_left
 refine cw_exit<|xw_then_exit<|xw_round_exit<|xw_block_exit<|xw_then<|qs<|qa<|qt<|cw_ret<|ret1 rfl (res_tmp rfl) ?_
 rotate_left
 ·have hj2:j<acts.length:=by omega
  have hok:=hV.ok _ (List.getElem_mem hj2)
  have hd:(acts[j]).data.length=(acts[j]).len:=hok.data
  have h7:((enAct B w0).f acts[j]).length=7:=rfl
  have h1:∀u∈(enAct B w0).f acts[j],u.oneCell'=true:=(acts[j]).one
  refine cw_seq<|cw_block<|qs ?_
  refine ow_val rfl rfl (v_indexAddr_vw Tryz.underlying22 (acTy) rfl rfl zas rfl zom) ?_
  refine ql (Go.Sl.Vw.var (acTy) (hV) zom)<|ow_alloc rfl rfl Ty.ze30 fun b4=>?_
  refine ow_storeE rfl (acTy) rfl rfl .here zra zas ?_
  refine qt<|qs<|qf Ty.fd30_2<|ql (Var.at1 Ty.sc28 .here (GetN.lit rfl))<|qv (v_len rfl Tryz.underlying28 rfl)<|qv (v_gtr rfl rfl)<|qt ?_
  refine cw_dec rfl (fun hc14=>?_) (fun hc14=>?_)
  refine qs<|qa<|qt<|cw_ret<|xw_block_ret<|xw_then_ret<|xw_round_ret<|xw_block_ret<|xw_then_ret<|ret1 rfl (res_tmp rfl) ?_
  rotate_left
  refine cw_skip<|xw_block<|xw_then<|cw_region<|qv (v_add rfl rfl (nw_i64 zom zom))<|qm<|ow_nil ?_
  rotate_left
  ·have:(acts.all fun a=>decide (a.data.length≤100))=false:=by
    rw[List.all_eq_false]
    exact⟨_,List.getElem_mem hj2,by simp;omega⟩
   rw[this]
   exact⟨rfl,zcov⟩
  ·exact xw_round (j+1) ⟨by omega,fun k h1 h2=>by
    by_cases e:k=j
    ·subst e;omega
    ·exact hk k h1 zom⟩ zom zcov zenv
 ·have:(acts.all fun a=>decide (a.data.length≤100))=true:=by
   rw[List.all_eq_true]
   intro a ha
   obtain⟨k,hk1,rfl⟩:=List.mem_iff_getElem.1 ha
   exact decide_eq_true (hk k hk1 zom)
  rw[this]
  exact⟨rfl,zcov⟩
def ssA:SsM:=(SsM.new true 100 ⟨0,0,0⟩ 2 2).start 100 ⟨0,0,0⟩ 2 2
theorem ssA_wf:ssA.WF:=by
 have hl:(⟨0,0,0⟩:LimM).WF:=⟨by decide,by decide,by decide⟩
 refine⟨GivM.new_wf (by decide),GotM.raise_wf got0_wf (by decide),hl,hl,fun _ h=>(by cases h),List.Pairwise.nil,fun _ h=>(by cases h),⟨by decide,by decide,by decide,by decide,by decide⟩,⟨by decide,by decide,by decide,by decide,by decide⟩,RunsOK.nil,RunsOK.nil,fun id h0 h1 h2=>?_⟩
 exfalso
 have h3:cnI id<0:=by
  unfold SsM.kd at h2
  split at h2<;>exact h2
 unfold cnI at h3
 omega
theorem pairAwake_c:
  Go.Sl.Fn Tryz.prog 5 #[] B w0 G fun u G'=>u=.bool true∧G'=G:=by
 refine Fn.pure ?_
 have w1:=ssA_wf
 obtain⟨w2,a2⟩:=SsM.opened_wf (k:=0) w1 (.inl rfl) (by decide)
 obtain⟨w3,a3⟩:=SsM.opened_wf (k:=1) w2 (.inr rfl) (by decide)
 have n0:ssA.nextId 0=0:=by decide
 have n1:(ssA.opened 0).nextId 1=2:=by decide
 have hh0:((ssA.opened 0).opened 1).has 0:=⟨by decide,by decide⟩
 have tw:∀id,0≤id∧id≤18446744073709551615→((ssA.opened 0).opened 1).has id→∀i,idxS (((ssA.opened 0).opened 1).touch id).str id=some i→(((ssA.opened 0).opened 1).touch id).WF:=fun id hid hh i hi=>(SsM.touch_made w3 hid hh hi).wf
 have hh2:(((ssA.opened 0).opened 1).touch 0).has 2:=⟨by decide,by decide⟩
 refine fn_enter Tryz.func5 rfl (by kernel_rfl) Tryz.ntmps5 (by simp) ?_
 have e0:∀{G:List Hp} {R:Hp→List Hp} {b:Nat} {c:Hp} {ps:List Nat},Sel G c R→SsAt ssA ps b c→Go.Sl.Fn Tryz.prog 17 #[.pointer (some ⟨b,0,none⟩),.bool false] B w0 G fun u G'=>∃y:List Nat×Hp,u=.tuple #[.int .u64 0,.int .i64 0]∧SsAt (ssA.opened 0) y.1 b y.2∧G'=R y.2:=fun hs hM=>by
  have h:=open0_c (B:=B) (w0:=w0) hs hM w1 (by decide)
  rw[n0]at h
  exact h
 have e1:∀{G:List Hp} {R:Hp→List Hp} {b:Nat} {c:Hp} {ps:List Nat},Sel G c R→SsAt (ssA.opened 0) ps b c→Go.Sl.Fn Tryz.prog 17 #[.pointer (some ⟨b,0,none⟩),.bool true] B w0 G fun u G'=>∃y:List Nat×Hp,u=.tuple #[.int .u64 2,.int .i64 0]∧SsAt ((ssA.opened 0).opened 1) y.1 b y.2∧G'=R y.2:=fun hs hM=>by
  have h:=open1_c (B:=B) (w0:=w0) hs hM w2 (by decide)
  rw[n1]at h
  exact h
 refine qs ?_
 refine qa ?_
 refine qt ?_
 refine qs ?_
 refine qv (v_build rfl (b_lim0)) ?_
 (refine ow_call rfl rfl rfl rfl (asNew_c (own:=⟨0,0,0⟩) zom) ?_;rintro _ _ ⟨x7,rfl,hq7,rfl⟩)
 refine qa ?_
 refine qt ?_
 refine qs ?_
 refine qm ?_
 refine qv (v_build rfl (b_lim0)) ?_
 (refine ow_call rfl rfl rfl rfl (start_c (th:=⟨0,0,0⟩) zsel hq7) ?_;rintro _ _ ⟨x10,rfl,hq10,rfl⟩)
 refine qt ?_
 have hS:SsAt ssA [] x7.1 x10:=hq10
 refine qs ?_
 refine qm ?_
 (refine ow_call rfl rfl rfl rfl (e0 zsel hS) ?_;rintro _ _ ⟨x13,rfl,hq13,rfl⟩)
 refine qm ?_
 refine qv (v_extract rfl rfl) ?_
 refine qv (v_extract rfl rfl) ?_
 refine qa ?_
 refine qa ?_
 refine qt ?_
 refine qs ?_
 refine qm ?_
 (refine ow_call rfl rfl rfl rfl (e1 zsel hq13) ?_;rintro _ _ ⟨x18,rfl,hq18,rfl⟩)
 refine qm ?_
 refine qv (v_extract rfl rfl) ?_
 refine qv (v_extract rfl rfl) ?_
 refine qa ?_
 refine qa ?_
 refine qt ?_
 refine qs ?_
 refine qm ?_
 refine qv (v_eql rfl rfl) ?_
 refine qm ?_
 refine ow_dec 23 rfl (fun hc23=>?_) (fun hc23=>?_)
 rotate_left;(exfalso;omega);rotate_right
 refine qm ?_
 refine qv (v_eql rfl rfl) ?_
 refine qv (v_pick_true rfl rfl) ?_
 refine qm ?_
 refine ow_dec 27 rfl (fun hc27=>?_) (fun hc27=>?_)
 rotate_left;(exfalso;omega);rotate_right
 refine qm ?_
 refine qv (v_eql rfl rfl) ?_
 refine qv (v_pick_true rfl rfl) ?_
 refine qm ?_
 refine ow_dec 31 rfl (fun hc31=>?_) (fun hc31=>?_)
 rotate_left;(exfalso;omega);rotate_right
 refine qm ?_
 refine qv (v_eql rfl rfl) ?_
 refine qv (v_pick_true rfl rfl) ?_
 refine qm ?_
 refine ow_dec 35 rfl (fun hc35=>?_) (fun hc35=>?_)
 rotate_left;(exfalso;omega);rotate_right
 refine qm ?_
 (refine ow_call rfl rfl rfl rfl (get_has_c zsel hq18 w3 (by decide) hh0) ?_;rintro _ _ ⟨x37,rfl,hq37,rfl⟩)
 refine qv (v_neq_nil_some Tryz.underlying45 rfl) ?_
 refine qv (v_pick_true rfl rfl) ?_
 refine qm ?_
 refine qm ?_
 (refine ow_call rfl rfl rfl rfl (get_has_c zsel (tw 0 (by decide) hh0 _ hq37.1 |> fun _=>hq37.2) (tw 0 (by decide) hh0 _ hq37.1) (by decide) hh2) ?_;rintro _ _ ⟨x42,rfl,hq42,rfl⟩)
 refine qv (v_neq_nil_some Tryz.underlying45 rfl) ?_
 refine qv (v_pick_true rfl rfl) ?_
 refine qa ?_
 refine qt ?_
 refine cw_ret ?_
 refine ret1 rfl (res_tmp rfl) ?_
 exact⟨rfl,zcov⟩
end Go.Proofs.YtnlaffkihohfkaaGreat
namespace Go.Proofs.YtnlaffkihohfkaaGreat
open Go Go.Sl Go.Proofs
variable {B:Nat}{w0:World}{G:List Hp}{R:Hp→List Hp}
def bt (p:Prop)[Decidable p](n:Int):Int:=if p then n else 0
theorem bt_b {p:Prop}[Decidable p]{n:Int}(h:0≤n):0≤bt p n∧bt p n≤n:=by unfold bt;split<;>omega
theorem bt_t {p:Prop}[Decidable p]{n:Int}(h:p):bt p n=n:=if_pos h
theorem bt_f {p:Prop}[Decidable p]{n:Int}(h:¬p):bt p n=0:=if_neg h
def phi (x y:SmM)(w:Int):Int:=
  (if x.send=1∨x.send=2∨x.send=4 then 6*(w-y.giv.used)+6*(w-y.read)+9*(w+y.giv.ahead-x.got.lim)+bt (y.giv.used<w∧y.giv.used<x.got.lim) 24+bt (y.giv.used<w) 24+bt (y.giv.used<x.got.used) 24+bt (x.send=2) 30+bt (x.send=4) 30
   else if x.send=3 then 6*(w-y.read) else 0)+bt (y.stops=true∧liveS y.recv=true) 60
theorem phi_congr {x x' y y':SmM}{w:Int}(h1:x'.send=x.send)(h2:x'.got.lim=x.got.lim)(h3:x'.got.used=x.got.used)(h4:y'.giv.used=y.giv.used)(h5:y'.giv.ahead=y.giv.ahead)(h6:y'.read=y.read)(h7:y'.stops=y.stops)(h8:y'.recv=y.recv):phi x' y' w=phi x y w:=by
 unfold phi
 rw[h1,h2,h3,h4,h5,h6,h7,h8]
theorem DOn.read_ {x y:SmM}{W Rd:List UInt8}{E f:Bool}{k r:Nat}(h:DOn x y W Rd E k r f):y.read=r:=by
 unfold SmM.read
 rw[h.inn]
 rfl
theorem DAll.read_ {x y:SmM}{W Rd:List UInt8}{E:Bool}{r:Nat}(h:DAll x y W Rd E r):y.read=r:=by
 unfold SmM.read
 rw[h.inn]
 rfl
theorem DOn.phi_ {x y:SmM}{W Rd:List UInt8}{E f:Bool}{k r:Nat}(h:DOn x y W Rd E k r f):phi x y W.length=6*((W.length:Int)-k)+6*((W.length:Int)-r)+9*(W.length+y.giv.ahead-x.got.lim)+bt ((k:Int)<W.length∧(k:Int)<x.got.lim) 24+bt ((k:Int)<W.length) 24+bt ((k:Int)<x.got.used) 24+bt (x.send=2) 30+bt (x.send=4) 30+bt (y.stops=true∧liveS y.recv=true) 60:=by
 unfold phi
 rw[if_pos (by rcases h.st with e|e|e;exact .inl e.1;exact .inr (.inl e.1);exact .inr (.inr e.1)),h.vu,h.read_]
theorem DAll.phi_ {x y:SmM}{W Rd:List UInt8}{E:Bool}{r:Nat}(h:DAll x y W Rd E r):phi x y W.length=6*((W.length:Int)-r)+bt (y.stops=true∧liveS y.recv=true) 60:=by
 have hs:=h.st
 unfold phi
 rw[if_neg zom,if_pos hs,h.read_]
theorem DOff.phi_ {x y:SmM}{W Rd:List UInt8}{E f:Bool}{k r:Nat}(h:DOff x y W Rd E k r f):phi x y W.length=0:=by
 have hs:=h.st
 have hv:liveS y.recv=false:=by rcases h.rv with e|e<;>rw[e]<;>rfl
 unfold phi
 rw[if_neg zom,if_neg zom,hv,bt_f (fun e=>by cases e.2)]
 rfl
theorem DNo.phi_ {x y:SmM}{W Rd:List UInt8}{E:Bool}(h:DNo x y W Rd E):phi x y W.length=0:=by
 have hs:=h.st
 have hv:liveS y.recv=false:=by rw[h.rv];rfl
 unfold phi
 rw[if_neg zom,if_neg zom,hv,bt_f (fun e=>by cases e.2)]
 rfl
theorem Dir.phi_b {x y:SmM}{W Rd:List UInt8}{E:Bool}(h:Dir x y W Rd E):0≤phi x y W.length∧phi x y W.length≤21*W.length+162:=by
 have b60:=bt_b (p:=y.stops=true∧liveS y.recv=true) (n:=60) (by decide)
 rcases h with⟨k,r,f,h⟩|⟨r,h⟩|⟨k,r,f,h⟩|h
 ·rw[h.phi_]
  have b1:=bt_b (p:=(k:Int)<W.length∧(k:Int)<x.got.lim) (n:=24) (by decide)
  have b2:=bt_b (p:=(k:Int)<W.length) (n:=24) (by decide)
  have b3:=bt_b (p:=(k:Int)<x.got.used) (n:=24) (by decide)
  have b45:0≤bt (x.send=2) 30+bt (x.send=4) 30∧bt (x.send=2) 30+bt (x.send=4) 30≤30:=by
   unfold bt
   split<;>split<;>omega
  have:=h.hk;have:=h.hr;have:=h.cr.b;have:=h.cr.c;have:=h.cr.e;have:=h.cr.o;have:=h.vt
  omega
 ·rw[h.phi_]
  have:=h.hr
  omega
 ·rw[h.phi_];omega
 ·rw[h.phi_];omega
def gphi (g:GotM)(D w:Int):Int:=w+D-g.lim+bt (g.used<g.lim) 30
def sideP (P:PrM)(i:Bool):Int:=sumTo (fun id=>phi ((P.s i).x id) ((P.s (!i)).x id) (P.wr i id).length) NS
def PrM.phi (P:PrM)(D:Int):Int:=sideP P false+sideP P true+gphi (P.s false).got D (lenT P false)+gphi (P.s true).got D (lenT P true)
theorem PrM.phi_i (P:PrM)(D:Int)(i:Bool):P.phi D=sideP P i+sideP P (!i)+gphi (P.s i).got D (lenT P i)+gphi (P.s (!i)).got D (lenT P (!i)):=by
 unfold PrM.phi
 cases i<;>simp only[Bool.not_true,Bool.not_false]<;>omega
theorem PrM.phi_upd {P P':PrM}{D:Int}{i:Bool}{id:Int}(hid:0≤id∧id<NS)(hx:∀a j,j≠id→(P'.s a).x j=(P.s a).x j)(hw:P'.wr=P.wr):
  P'.phi D=P.phi D+(Go.Proofs.YtnlaffkihohfkaaGreat.phi ((P'.s i).x id) ((P'.s (!i)).x id) (P.wr i id).length-Go.Proofs.YtnlaffkihohfkaaGreat.phi ((P.s i).x id) ((P.s (!i)).x id) (P.wr i id).length)+(Go.Proofs.YtnlaffkihohfkaaGreat.phi ((P'.s (!i)).x id) ((P'.s i).x id) (P.wr (!i) id).length-Go.Proofs.YtnlaffkihohfkaaGreat.phi ((P.s (!i)).x id) ((P.s i).x id) (P.wr (!i) id).length)+(gphi (P'.s i).got D (lenT P i)-gphi (P.s i).got D (lenT P i))+(gphi (P'.s (!i)).got D (lenT P (!i))-gphi (P.s (!i)).got D (lenT P (!i))):=by
 rw[PrM.phi_i P' D i,PrM.phi_i P D i]
 have hl:∀a,lenT P' a=lenT P a:=fun a=>by unfold lenT;rw[hw]
 have g:∀a,sideP P' a=sideP P a+(Go.Proofs.YtnlaffkihohfkaaGreat.phi ((P'.s a).x id) ((P'.s (!a)).x id) (P.wr a id).length-Go.Proofs.YtnlaffkihohfkaaGreat.phi ((P.s a).x id) ((P.s (!a)).x id) (P.wr a id).length):=fun a=>by
  unfold sideP
  rw[hw]
  exact sumTo_upd hid.1 hid.2 fun j hj=>by rw[hx _ _ hj,hx _ _ hj]
 have g1:=g i
 have g2:=g (!i)
 rw[not_not_]at g2
 rw[hl,hl,g1,g2]
 omega
end Go.Proofs.YtnlaffkihohfkaaGreat
namespace Go.Proofs.YtnlaffkihohfkaaGreat
open Go Go.Sl Go.Proofs
variable {B:Nat}{w0:World}{G:List Hp}{R:Hp→List Hp}
inductive Form (P:PrM)(i:Bool)(id most:Int)(P':PrM):Prop
 |reset (m:InM) (f:FsM) (v:GivM) (h1:((P.s i).x id).send=4) (h2:P'=P.set2 i ((P.s i).settle id ((P.s i).x id).noReset.settled) (((P.s (!i)).come id).put2 id (((P.s (!i)).x id).rstE m f) v (P.s (!i)).got))
 |stop (c:Int) (h1:((P.s i).x id).stops=true∧liveS ((P.s i).x id).recv=true) (h2:P'=P.set2 i ((P.s i).put id ((P.s i).x id).noStop) (((P.s (!i)).come id).put id (((P.s (!i)).x id).giveUp c)))
 |raise (h1:((P.s i).x id).recv=1∧((P.s i).x id).giv.wants=true) (h2:P'=P.set2 i ((P.s i).put id (((P.s i).x id).giveTo ((P.s i).x id).giv.tell)) (((P.s (!i)).come id).put id (((P.s (!i)).x id).rz ((P.s i).x id).giv.lim)))
 |data (k r n:Nat) (fi:Bool) (f:FsM) (g:DOn ((P.s i).x id) ((P.s (!i)).x id) (P.wr i id) (P.rd (!i) id) (P.en (!i) id) k r fi) (p:Piece8 ((P.s i).x id) (P.wr i id) k n fi (P.s i).got f)
   (hn:0<n→((n:Int)=most∨k+n=(P.wr i id).length∨(k:Int)+n=((P.s i).x id).got.used+min ((P.s i).x id).got.room (P.s i).got.room)) (hs:((P.s i).x id).send=1∨((P.s i).x id).send=2)
   (eg:(((P.s (!i)).x id).took8 (P.wr i id) r (k+n) (fi&&decide (k+n=(P.wr i id).length))).giv=((P.s (!i)).x id).giv.use n)
   (h2:P'=P.set2 i (((P.s i).sent8 id (((P.s i).x id).sent8 (P.wr i id) k n fi) k n).cameD id (bufG (P.wr i id) (k+n) fi (fi&&decide (k+n=(P.wr i id).length))))
    (((P.s (!i)).come id).put2 id (((P.s (!i)).x id).took8 (P.wr i id) r (k+n) (fi&&decide (k+n=(P.wr i id).length))) ((P.s (!i)).giv.use n) (P.s (!i)).got))
theorem Inv.form {P:PrM}{D one many:Int}{n0:Nat}{i:Bool}{id most:Int}{f:FsM}(h:Inv P D one many n0)(hid:(P.s i).has id)(hxid:((P.s i).x id).id=id)(hst:((P.s i).x id).stop≤4611686018427387903)(hm:1≤most)(hn:nextG (P.s i).got ((P.s i).x id) most=(f,true)):Form P i id most (P.send i f false):=by
 obtain⟨hno,h8⟩:=nextG_of (g:=(P.s i).got) (x:=(P.s i).x id) (most:=most) (by rw[hn])
 rw[hn]at hno h8
 dsimp only at hno h8
 have hf:f.id=id:=hno.id.trans hxid
 unfold PrM.send
 rw[if_neg (by decide)]
 rcases hno.k with⟨hk,h1,h2,h3,h4⟩|⟨hk,h1,h2,h3⟩|⟨hk,h1,h2,h3⟩|⟨hk,h1,_⟩
 ·obtain⟨m,hi,_,_,_,_,_,_,_,_,_,hI⟩:=h.reset_came (f:=f) hid h2 h3
  have eA:((P.s i).sentF f).cameF f=(P.s i).settle id ((P.s i).x id).noReset.settled:=by
   unfold SdM.sentF SdM.cameF
   rw[if_pos hk,if_pos hk,hf]
   rw[SdM.put_x,if_pos (show ((P.s i).x id).noReset.send=4 from h2)]
   exact SdM.settle_put2
  have eB:(P.s (!i)).frameF f=((P.s (!i)).come id).put2 id (((P.s (!i)).x id).rstE m f) (((P.s (!i)).giv.use (m.more f.lim)).take (f.lim-(m.stop f.lim).read)) (P.s (!i)).got:=by
   unfold SdM.frameF
   rw[if_pos hk,hf,hi]
  rw[eA,eB]
  exact .reset m f _ h2 rfl
 ·have eA:((P.s i).sentF f).cameF f=(P.s i).put id ((P.s i).x id).noStop:=by
   simp only[SdM.sentF,SdM.cameF,hk,hf,Int.reduceEq,if_true,if_false,reduceIte]
  have eB:(P.s (!i)).frameF f=((P.s (!i)).come id).put id (((P.s (!i)).x id).giveUp f.code):=by
   unfold SdM.frameF
   rw[if_neg zom,if_pos hk,hf]
  rw[eA,eB]
  exact .stop f.code ⟨h1,h2⟩ rfl
 ·have eA:((P.s i).sentF f).cameF f=(P.s i).put id (((P.s i).x id).giveTo ((P.s i).x id).giv.tell):=by
   simp only[SdM.sentF,SdM.cameF,hk,hf,Int.reduceEq,if_true,if_false,reduceIte]
   rfl
  have eB:(P.s (!i)).frameF f=((P.s (!i)).come id).put id (((P.s (!i)).x id).rz ((P.s i).x id).giv.lim):=by
   unfold SdM.frameF
   rw[if_neg zom,if_neg zom,if_pos hk,hf,h3]
  rw[eA,eB]
  exact .raise ⟨h1,h2⟩ rfl
 ·obtain⟨k,r,fi,g,hs⟩:=h.live_on hid h1
  obtain⟨n,p,hnn⟩:=Piece8.of g hm (h8 hk _ g.out)
  obtain⟨_,_,_,_,edat,hmore,egiv,hI⟩:=h.data_came hid g p hs
  obtain⟨_,_,e3⟩:=send8_eq hf hk g p (h.wl60 hid) h1
  have eB:(P.s (!i)).frameF f=((P.s (!i)).come id).put2 id (((P.s (!i)).x id).took8 (P.wr i id) r (k+n) (fi&&decide (k+n=(P.wr i id).length))) ((P.s (!i)).giv.use n) (P.s (!i)).got:=by
   unfold SdM.frameF
   rw[if_neg zom,if_neg zom,if_neg zom,hf,g.inn]
   dsimp only
   rw[edat,hmore]
  rw[e3,eB]
  exact .data k r n fi f g p hnn hs egiv rfl
theorem settle_x {A:SdM}{id j:Int}{x:SmM}:(A.settle id x).x j=if j=id then x.fin (A.mine id) else A.x j:=by
 unfold SdM.settle SmM.fin
 by_cases hd:x.isDone (A.mine id)
 ·rw[if_pos hd,if_pos hd,SdM.setK_x];rfl
 ·rw[if_neg hd,if_neg hd];rfl
theorem phi_five {x y:SmM}{w:Int}(hs:x.send=5)(hv:liveS y.recv=false):phi x y w=0:=by
 unfold phi
 rw[if_neg zom,if_neg zom,hv,bt_f (fun e=>by cases e.2)]
 rfl
theorem giveUp_stops {x:SmM}{c:Int}:(x.giveUp c).stops=x.stops:=by
 unfold SmM.giveUp
 repeat' split
 all_goals rfl
theorem phi_giveUp {x y:SmM}{w c:Int}(h:x.stops=true∧liveS x.recv=true):phi (y.giveUp c) x.noStop w+30≤phi y x w:=by
 have e60:bt (x.stops=true∧liveS x.recv=true) 60=60:=bt_t h
 have e0:bt (x.noStop.stops=true∧liveS x.noStop.recv=true) 60=0:=bt_f fun e=>by cases e.1
 have same:phi y x.noStop w+30≤phi y x w:=by
  unfold phi
  rw[e60,e0]
  show _+0+30≤_+60
  have:x.noStop.giv=x.giv∧x.noStop.read=x.read:=⟨rfl,rfl⟩
  rw[this.1,this.2]
  omega
 unfold SmM.giveUp
 split
 ·exact same
 split
 ·exact same
 ·next h1 _=>
  have hl:y.send=1∨y.send=2:=by
   unfold liveS at h1
   by_cases a:y.send=1
   ·exact .inl a
   ·by_cases b:y.send=2
    ·exact .inr b
    ·simp[a,b]at h1
  unfold phi
  rw[e60,e0,if_pos (.inr (.inr rfl)),if_pos zom]
  have b2:=bt_b (p:=y.send=2) (n:=30) (by decide)
  have b4:bt (y.send=4) 30=0:=bt_f zom
  have c2:bt ((4:Int)=2) 30=0:=bt_f (by decide)
  have c4:bt ((4:Int)=4) 30=30:=bt_t rfl
  have e1:x.noStop.giv=x.giv∧x.noStop.read=x.read:=⟨rfl,rfl⟩
  rw[e1.1,e1.2]
  show _+bt ((4:Int)=2) 30+bt ((4:Int)=4) 30+0+30≤_
  rw[c2,c4,b4]
  dsimp only
  omega
end Go.Proofs.YtnlaffkihohfkaaGreat
namespace Go.Proofs.YtnlaffkihohfkaaGreat
open Go Go.Sl Go.Proofs
variable {B:Nat}{w0:World}{G:List Hp}{R:Hp→List Hp}
theorem bt_le {p q:Prop}[Decidable p][Decidable q]{n:Int}(h:p→q)(h0:0≤n):bt p n≤bt q n:=by
 unfold bt
 by_cases hp:p
 ·rw[if_pos hp,if_pos (h hp)];exact Int.le_refl _
 ·rw[if_neg hp];split<;>omega
theorem DOn.send_ {x y:SmM}{W Rd:List UInt8}{E f:Bool}{k r:Nat}(h:DOn x y W Rd E k r f):x.send=1∨x.send=2∨x.send=4:=by
 rcases h.st with e|e|e
 ·exact .inl e.1
 ·exact .inr (.inl e.1)
 ·exact .inr (.inr e.1)
theorem phi_raise {x y:SmM}{W Rd:List UInt8}{E f:Bool}{k r:Nat}(g:DOn y x W Rd E k r f)(hW:W.length≤60000)(hw:x.giv.wants=true)(ha:10≤x.giv.ahead):phi (y.rz x.giv.lim) (x.giveTo x.giv.tell) W.length+30≤phi y x W.length:=by
 have hw':=wants_def.1 hw
 unfold roomM at hw'
 have c1:=g.cr.a;have c2:=g.cr.b;have c3:=g.cr.c;have c4:=g.cr.e;have c5:=g.cr.n;have c6:=g.vt;have c7:=g.hr;have c8:=g.hk
 have e1:(y.rz x.giv.lim).got={y.got with lim:=x.giv.lim}:=by
  show y.got.raise x.giv.lim=_
  unfold GotM.raise
  have:max y.got.lim (min x.giv.lim 4611686018427387903)=x.giv.lim:=by omega
  rw[this]
 have e2:phi (y.rz x.giv.lim) (x.giveTo x.giv.tell) W.length=6*((W.length:Int)-k)+6*((W.length:Int)-r)+9*(W.length+x.giv.ahead-x.giv.lim)+bt ((k:Int)<W.length∧(k:Int)<x.giv.lim) 24+bt ((k:Int)<W.length) 24+bt ((k:Int)<y.got.used) 24+bt (y.send=2) 30+bt (y.send=4) 30+bt (x.stops=true∧liveS x.recv=true) 60:=by
  unfold phi
  rw[e1,if_pos (show (y.rz x.giv.lim).send=1∨(y.rz x.giv.lim).send=2∨(y.rz x.giv.lim).send=4 from g.send_)]
  have f1:(x.giveTo x.giv.tell).giv.used=k:=g.vu
  have f2:(x.giveTo x.giv.tell).read=r:=g.read_
  rw[f1,f2]
  rfl
 rw[e2,g.phi_]
 have b1:=bt_b (p:=(k:Int)<W.length∧(k:Int)<x.giv.lim) (n:=24) (by decide)
 have b2:=bt_b (p:=(k:Int)<W.length∧(k:Int)<y.got.lim) (n:=24) (by decide)
 omega
theorem phi_data {x y x' y':SmM}{W Rd:List UInt8}{E fi:Bool}{k r n:Nat}{most:Int}{gg gg':GotM}{D w:Int}(g:DOn x y W Rd E k r fi)(hm:5≤most)(hn0:0<n)(hkn:k+n≤W.length)(hl:(k:Int)+n≤x.got.used+min x.got.room gg.room)
  (hn:(n:Int)=most∨k+n=W.length∨(k:Int)+n=x.got.used+min x.got.room gg.room) (hga:gg.used≤gg.lim) (s1:x'.send=x.send) (s2:x'.got.lim=x.got.lim) (s3:x'.got.used=x.got.used+(max x.got.used ((k+n:Nat):Int)-x.got.used)) (s4:y'.giv.used=((k+n:Nat):Int)) (s5:y'.giv.ahead=y.giv.ahead) (s6:y'.read=r) (s7:y'.stops=y.stops) (s8:y'.recv=y.recv)
  (s9:gg'.lim=gg.lim) (s10:gg'.used=gg.used+(max x.got.used ((k+n:Nat):Int)-x.got.used)):
  phi x' y' W.length+gphi gg' D w+30≤phi x y W.length+gphi gg D w:=by
 have e2:phi x' y' W.length=6*((W.length:Int)-((k+n:Nat):Int))+6*((W.length:Int)-r)+9*(W.length+y.giv.ahead-x.got.lim)+bt (((k+n:Nat):Int)<W.length∧((k+n:Nat):Int)<x.got.lim) 24+bt (((k+n:Nat):Int)<W.length) 24+bt (((k+n:Nat):Int)<x.got.used+(max x.got.used ((k+n:Nat):Int)-x.got.used)) 24+bt (x.send=2) 30+bt (x.send=4) 30+bt (y.stops=true∧liveS y.recv=true) 60:=by
  unfold phi
  rw[s1,if_pos g.send_,s2,s3,s4,s5,s6,s7,s8]
 rw[e2,g.phi_]
 unfold gphi
 rw[s9,s10]
 have c1:=g.cr.a;have c2:=g.gu
 unfold GotM.room roomM at hl hn
 generalize bt (x.send=2) 30=z1
 generalize bt (x.send=4) 30=z2
 generalize bt (y.stops=true∧liveS y.recv=true) 60=z3
 generalize x.got.used=u at *
 generalize x.got.lim=L at *
 generalize gg.used=gu at *
 generalize gg.lim=gl at *
 have hB:bt ((k:Int)<W.length) 24=24:=bt_t zom
 have mA:=bt_le (p:=((k+n:Nat):Int)<W.length∧((k+n:Nat):Int)<L) (q:=(k:Int)<W.length∧(k:Int)<L) (n:=24) (fun e=>by omega) (by decide)
 have mB:=bt_b (p:=((k+n:Nat):Int)<W.length) (n:=24) (by decide)
 have mC:=bt_le (p:=((k+n:Nat):Int)<u+(max u ((k+n:Nat):Int)-u)) (q:=(k:Int)<u) (n:=24) (fun e=>by omega) (by decide)
 have mG:=bt_le (p:=gu+(max u ((k+n:Nat):Int)-u)<gl) (q:=gu<gl) (n:=30) (fun e=>by omega) (by decide)
 rcases hn with hn|hn|hn
 ·omega
 ·have hB':bt (((k+n:Nat):Int)<W.length) 24=0:=bt_f zom
  omega
 ·by_cases h1:((k+n:Nat):Int)≤u
  ·have hC:bt ((k:Int)<u) 24=24:=bt_t zom
   have hC':bt (((k+n:Nat):Int)<u+(max u ((k+n:Nat):Int)-u)) 24=0:=bt_f zom
   omega
  ·by_cases h2:L=((k+n:Nat):Int)
   ·have hA:bt ((k:Int)<W.length∧(k:Int)<L) 24=24:=bt_t zom
    have hA':bt (((k+n:Nat):Int)<W.length∧((k+n:Nat):Int)<L) 24=0:=bt_f zom
    omega
   ·have hG:bt (gu<gl) 30=30:=bt_t zom
    have hG':bt (gu+(max u ((k+n:Nat):Int)-u)<gl) 30=0:=bt_f zom
    omega
theorem phi_end {x y x' y':SmM}{W Rd:List UInt8}{E fi:Bool}{k r:Nat}(g:DOn x y W Rd E k r fi)(hs:x.send=2)(s1:x'.send=3)(s6:y'.read=r)(s7:y'.stops=y.stops):phi x' y' W.length+30≤phi x y W.length:=by
 have e2:phi x' y' W.length≤6*((W.length:Int)-r)+bt (y.stops=true∧liveS y.recv=true) 60:=by
  unfold phi
  rw[if_neg zom,if_pos s1,s6,s7]
  have hv:liveS y.recv=true:=by rw[g.rv];rfl
  by_cases hst:y.stops=true
  ·rw[bt_t (p:=y.stops=true∧liveS y.recv=true) ⟨hst,hv⟩]
   have:=bt_b (p:=y.stops=true∧liveS y'.recv=true) (n:=60) (by decide)
   omega
  ·rw[bt_f (fun e=>hst e.1),bt_f (fun e=>hst e.1)]
   omega
 have b1:=bt_b (p:=(k:Int)<W.length∧(k:Int)<x.got.lim) (n:=24) (by decide)
 have b2:=bt_b (p:=(k:Int)<W.length) (n:=24) (by decide)
 have b3:=bt_b (p:=(k:Int)<x.got.used) (n:=24) (by decide)
 have b4:=bt_b (p:=x.send=4) (n:=30) (by decide)
 have b5:bt (x.send=2) 30=30:=bt_t hs
 rw[g.phi_,b5]
 have:=g.hk;have:=g.hr;have:=g.cr.b;have:=g.cr.c;have:=g.cr.e;have:=g.vt
 omega
end Go.Proofs.YtnlaffkihohfkaaGreat
namespace Go.Proofs.YtnlaffkihohfkaaGreat
open Go Go.Sl Go.Proofs
variable {B:Nat}{w0:World}{G:List Hp}{R:Hp→List Hp}
theorem set2_phi {P:PrM}{i:Bool}{A B:SdM}{id D:Int}(hid:0≤id∧id<NS)(hA:∀j,j≠id→A.x j=(P.s i).x j)(hB:∀j,j≠id→B.x j=(P.s (!i)).x j):
  (P.set2 i A B).phi D=P.phi D+(phi (A.x id) (B.x id) (P.wr i id).length-phi ((P.s i).x id) ((P.s (!i)).x id) (P.wr i id).length)+(phi (B.x id) (A.x id) (P.wr (!i) id).length-phi ((P.s (!i)).x id) ((P.s i).x id) (P.wr (!i) id).length)+(gphi A.got D (lenT P i)-gphi (P.s i).got D (lenT P i))+(gphi B.got D (lenT P (!i))-gphi (P.s (!i)).got D (lenT P (!i))):=by
 have h:=PrM.phi_upd (P:=P) (P':=P.set2 i A B) (D:=D) (i:=i) hid (bool_two i (fun j hj=>by rw[PrM.set2_i];exact hA j hj) (fun j hj=>by rw[PrM.set2_n];exact hB j hj)) rfl
 rw[PrM.set2_i,PrM.set2_n]at h
 exact h
theorem fin_stops {x:SmM}{m:Bool}:(x.fin m).stops=x.stops∧(x.fin m).read=x.read:=by
 unfold SmM.fin
 split<;>exact⟨rfl,rfl⟩
theorem put_at {A:SdM}{id:Int}{x':SmM}:(A.put id x').x id=x':=if_pos rfl
theorem put_off {A:SdM}{id j:Int}{x':SmM}(h:j≠id):(A.put id x').x j=A.x j:=if_neg h
theorem put2_at {A:SdM}{id:Int}{x':SmM}{v:GivM}{g:GotM}:(A.put2 id x' v g).x id=x':=if_pos rfl
theorem put2_off {A:SdM}{id j:Int}{x':SmM}{v:GivM}{g:GotM}(h:j≠id):(A.put2 id x' v g).x j=A.x j:=if_neg h
theorem Form.drop {P P':PrM}{D one many D':Int}{n0:Nat}{i:Bool}{id most:Int}(hf:Form P i id most P')(h:Inv P D one many n0)(hid:(P.s i).has id)(ha:P.Ah 10)(hm:5≤most):P'.phi D'+30≤P.phi D':=by
 have hlt:=h.has_lt hid
 have hW:=h.wl60 (a:=i) hid
 have hW2:=h.wl60 (a:=!i) hid
 have hcx:((P.s (!i)).come id).x=(P.s (!i)).x:=SdM.come_x
 have hcg:((P.s (!i)).come id).got=(P.s (!i)).got:=SdM.come_got
 rcases hf with⟨m,f,v,h1,rfl⟩|⟨c,h1,rfl⟩|⟨h1,rfl⟩|⟨k,r,n,fi,f,g,p,hn,hs,eg,rfl⟩
 ·rw[set2_phi hlt (fun j hj=>by rw[settle_x,if_neg hj]) (fun j hj=>by rw[put2_off hj,hcx]),settle_x,if_pos rfl,put2_at,SdM.settle_got]
  obtain⟨k,r,fi,g⟩:=(h.dir i id hid.1).on_send (.inr (.inr h1))
  obtain⟨f1,f2,f3,f4,f5,f6,f7⟩:=SmM.fin_alike (x:=((P.s i).x id).noReset.settled) (m:=(P.s i).mine id)
  obtain⟨f8,f9⟩:=fin_stops (x:=((P.s i).x id).noReset.settled) (m:=(P.s i).mine id)
  have e1:phi (((P.s i).x id).noReset.settled.fin ((P.s i).mine id)) (((P.s (!i)).x id).rstE m f) (P.wr i id).length=0:=phi_five f1 rfl
  have e2:phi (((P.s (!i)).x id).rstE m f) (((P.s i).x id).noReset.settled.fin ((P.s i).mine id)) (P.wr (!i) id).length=phi ((P.s (!i)).x id) ((P.s i).x id) (P.wr (!i) id).length:=phi_congr rfl rfl rfl (by rw[f7];rfl) (by rw[f7];rfl) (by rw[f9];rfl) (by rw[f8];rfl) (by rw[f5];rfl)
  have e3:30≤phi ((P.s i).x id) ((P.s (!i)).x id) (P.wr i id).length:=by
   rw[g.phi_]
   have b1:=bt_b (p:=(k:Int)<(P.wr i id).length∧(k:Int)<((P.s i).x id).got.lim) (n:=24) (by decide)
   have b2:=bt_b (p:=(k:Int)<(P.wr i id).length) (n:=24) (by decide)
   have b3:=bt_b (p:=(k:Int)<((P.s i).x id).got.used) (n:=24) (by decide)
   have b4:=bt_b (p:=((P.s i).x id).send=2) (n:=30) (by decide)
   have b5:bt (((P.s i).x id).send=4) 30=30:=bt_t h1
   have b6:=bt_b (p:=((P.s (!i)).x id).stops=true∧liveS ((P.s (!i)).x id).recv=true) (n:=60) (by decide)
   have:=g.hk;have:=g.hr;have:=g.cr.b;have:=g.cr.c;have:=g.cr.e;have:=g.vt
   omega
  rw[e1,e2]
  have:(((P.s (!i)).come id).put2 id (((P.s (!i)).x id).rstE m f) v (P.s (!i)).got).got=(P.s (!i)).got:=rfl
  rw[this]
  omega
 ·rw[set2_phi hlt (fun j hj=>put_off hj) (fun j hj=>by rw[put_off hj,hcx]),put_at,put_at]
  obtain⟨g1,g2,g3,g4,g5,g6⟩:=giveUp_same (x:=(P.s (!i)).x id) (c:=c)
  have e1:phi ((P.s i).x id).noStop (((P.s (!i)).x id).giveUp c) (P.wr i id).length=phi ((P.s i).x id) ((P.s (!i)).x id) (P.wr i id).length:=phi_congr rfl rfl rfl (by rw[g2]) (by rw[g2]) (by unfold SmM.read;rw[g4]) giveUp_stops g3
  have e2:=phi_giveUp (y:=(P.s (!i)).x id) (w:=(P.wr (!i) id).length) (c:=c) h1
  have o1:((P.s i).put id ((P.s i).x id).noStop).got=(P.s i).got:=rfl
  have o2:(((P.s (!i)).come id).put id (((P.s (!i)).x id).giveUp c)).got=(P.s (!i)).got:=hcg
  rw[e1,o1,o2]
  omega
 ·rw[set2_phi hlt (fun j hj=>put_off hj) (fun j hj=>by rw[put_off hj,hcx]),put_at,put_at]
  obtain⟨k,r,fi,g⟩:=(h.dir' i hid.1).on_of h1.1
  have e1:phi (((P.s i).x id).giveTo ((P.s i).x id).giv.tell) (((P.s (!i)).x id).rz ((P.s i).x id).giv.lim) (P.wr i id).length=phi ((P.s i).x id) ((P.s (!i)).x id) (P.wr i id).length:=phi_congr rfl rfl rfl rfl rfl rfl rfl rfl
  have e2:=phi_raise g hW2 h1.2 (by
   rcases ha i id with e|e
   ·rw[g.inn]at e;cases e
   ·exact e)
  have o1:((P.s i).put id (((P.s i).x id).giveTo ((P.s i).x id).giv.tell)).got=(P.s i).got:=rfl
  have o2:(((P.s (!i)).come id).put id (((P.s (!i)).x id).rz ((P.s i).x id).giv.lim)).got=(P.s (!i)).got:=hcg
  rw[e1,o1,o2]
  omega
 ·obtain⟨c1,c2⟩:=g.credit p (h.cr i) hW
  obtain⟨u1,l1⟩:=GotM.upTo_used c1
  obtain⟨u2,l2⟩:=GotM.upTo_used c2
  have hgu:=g.gu;have hvu:=g.vu;have hca:=g.cr.a;have hcb:=g.cr.b;have hcc:=g.cr.c;have hhk:=p.hk
  have vE:=(GivM.use_eq (v:=((P.s (!i)).x id).giv) (n:=n) zom zom).1
  rw[vE]at eg
  have hx1:((P.s i).sent8 id (((P.s i).x id).sent8 (P.wr i id) k n fi) k n).x id=((P.s i).x id).sent8 (P.wr i id) k n fi:=if_pos rfl
  have hxo:∀j,j≠id→((P.s i).sent8 id (((P.s i).x id).sent8 (P.wr i id) k n fi) k n).x j=(P.s i).x j:=fun j hj=>if_neg hj
  have hg1:((P.s i).sent8 id (((P.s i).x id).sent8 (P.wr i id) k n fi) k n).got=(P.s i).got.upTo ((P.s i).x id).got.used ((k+n:Nat):Int):=rfl
  have o2:∀y v,(((P.s (!i)).come id).put2 id y v (P.s (!i)).got).got=(P.s (!i)).got:=fun _ _=>rfl
  have y6:∀e,(((P.s (!i)).x id).took8 (P.wr i id) r (k+n) e).read=r:=fun e=>rfl
  by_cases he:(fi&&decide (k+n=(P.wr i id).length))=true
  ·have hfi:fi=true∧k+n=(P.wr i id).length:=by simpa using he
   have hs2:((P.s i).x id).send=2:=by
    rcases g.st with⟨_,e⟩|⟨e,_⟩|⟨e,_⟩
    ·rw[hfi.1]at e;cases e
    ·exact e
    ·omega
   have hd:((bufG (P.wr i id) (k+n) fi true).endCame&&decide ((bufG (P.wr i id) (k+n) fi true).data.length=0))=true:=by
    have:(bufG (P.wr i id) (k+n) fi true).data.length=0:=by
     show ((P.wr i id).drop (k+n)).length=0
     rw[List.length_drop];omega
    rw[this]
    rfl
   rw[he]
   have eA:((P.s i).sent8 id (((P.s i).x id).sent8 (P.wr i id) k n fi) k n).cameD id (bufG (P.wr i id) (k+n) fi true)=((P.s i).sent8 id (((P.s i).x id).sent8 (P.wr i id) k n fi) k n).settle id ((((P.s i).x id).sent8 (P.wr i id) k n fi).overO (bufG (P.wr i id) (k+n) fi true)):=by
    unfold SdM.cameD
    rw[hx1,if_pos]
    exact⟨hs2,hd⟩
   rw[eA,set2_phi hlt (fun j hj=>by rw[settle_x,if_neg hj];exact hxo j hj) (fun j hj=>by rw[put2_off hj,hcx]),settle_x,if_pos rfl,put2_at,SdM.settle_got,hg1,o2]
   generalize hxx:(((P.s i).x id).sent8 (P.wr i id) k n fi).overO (bufG (P.wr i id) (k+n) fi true)=xx
   generalize hmm:((P.s i).sent8 id (((P.s i).x id).sent8 (P.wr i id) k n fi) k n).mine id=mm
   obtain⟨f1,f2,f3,f4,f5,f6,f7⟩:=SmM.fin_alike (x:=xx) (m:=mm)
   obtain⟨f8,f9⟩:=fin_stops (x:=xx) (m:=mm)
   have e1:=phi_end (x':=xx.fin mm) (y':=((P.s (!i)).x id).took8 (P.wr i id) r (k+n) true) g hs2 (by rw[f1,←hxx];rfl) (y6 _) rfl
   have e2:phi (((P.s (!i)).x id).took8 (P.wr i id) r (k+n) true) (xx.fin mm) (P.wr (!i) id).length=phi ((P.s (!i)).x id) ((P.s i).x id) (P.wr (!i) id).length:=phi_congr rfl rfl rfl (by rw[f7,←hxx];rfl) (by rw[f7,←hxx];rfl) (by rw[f9,←hxx];rfl) (by rw[f8,←hxx];rfl) (by rw[f5,←hxx];rfl)
   rw[e2]
   have m1:=bt_le (p:=((P.s i).got.upTo ((P.s i).x id).got.used ((k+n:Nat):Int)).used<((P.s i).got.upTo ((P.s i).x id).got.used ((k+n:Nat):Int)).lim) (q:=(P.s i).got.used<(P.s i).got.lim) (n:=30) (fun e=>by omega) (by decide)
   unfold gphi
   omega
  ·have he':(fi&&decide (k+n=(P.wr i id).length))=false:=by simpa using he
   have hn0:0<n:=by
    rcases Nat.eq_zero_or_pos n with e|e
    ·obtain⟨z1,z2⟩:=p.z e
     rw[z2]at he
     exact absurd (by simp;omega) he
    ·exact e
   rw[he']at eg⊢
   have eA:((P.s i).sent8 id (((P.s i).x id).sent8 (P.wr i id) k n fi) k n).cameD id (bufG (P.wr i id) (k+n) fi false)=((P.s i).sent8 id (((P.s i).x id).sent8 (P.wr i id) k n fi) k n).put id ((((P.s i).x id).sent8 (P.wr i id) k n fi).outTo (bufG (P.wr i id) (k+n) fi false)):=by
    unfold SdM.cameD
    rw[hx1,if_neg]
    rintro⟨_,e⟩
    cases e
   rw[eA,set2_phi hlt (fun j hj=>by rw[put_off hj];exact hxo j hj) (fun j hj=>by rw[put2_off hj,hcx]),put_at,put2_at,o2]
   have o1:(((P.s i).sent8 id (((P.s i).x id).sent8 (P.wr i id) k n fi) k n).put id ((((P.s i).x id).sent8 (P.wr i id) k n fi).outTo (bufG (P.wr i id) (k+n) fi false))).got=(P.s i).got.upTo ((P.s i).x id).got.used ((k+n:Nat):Int):=rfl
   rw[o1]
   have e2:phi (((P.s (!i)).x id).took8 (P.wr i id) r (k+n) false) ((((P.s i).x id).sent8 (P.wr i id) k n fi).outTo (bufG (P.wr i id) (k+n) fi false)) (P.wr (!i) id).length=phi ((P.s (!i)).x id) ((P.s i).x id) (P.wr (!i) id).length:=phi_congr rfl rfl rfl rfl rfl rfl rfl rfl
   have e1:=phi_data (x':=(((P.s i).x id).sent8 (P.wr i id) k n fi).outTo (bufG (P.wr i id) (k+n) fi false)) (y':=((P.s (!i)).x id).took8 (P.wr i id) r (k+n) false) (gg:=(P.s i).got) (gg':=(P.s i).got.upTo ((P.s i).x id).got.used ((k+n:Nat):Int)) (D:=D') (w:=lenT P i) g hm hn0 p.hk (p.l hn0) (hn hn0) (h.cr i).a rfl l1 u1 (by rw[eg];dsimp only;omega) (by rw[eg]) (y6 _) rfl rfl l2 u2
   rw[e2]
   omega
end Go.Proofs.YtnlaffkihohfkaaGreat
namespace Go.Proofs.YtnlaffkihohfkaaGreat
open Go Go.Sl Go.Proofs
variable {B:Nat}{w0:World}{G:List Hp}{R:Hp→List Hp}
def SmI (x x':SmM):Prop:=x'.id=x.id∧x'.stop=x.stop
theorem SmI.refl {x:SmM}:SmI x x:=⟨rfl,rfl⟩
def IdE (A B:SdM):Prop:=∀j,SmI (A.x j) (B.x j)
theorem giveUp_smI {x:SmM}{c:Int}:SmI x (x.giveUp c):=by
 unfold SmM.giveUp
 repeat' split
 all_goals exact⟨rfl,rfl⟩
theorem IdE.refl {A:SdM}:IdE A A:=fun _=>SmI.refl
theorem IdE.trans {A B C:SdM}(h:IdE A B)(g:IdE B C):IdE A C:=fun j=>⟨(g j).1.trans (h j).1,(g j).2.trans (h j).2⟩
theorem IdE.of_x {A B:SdM}(h:B.x=A.x):IdE A B:=fun j=>by rw[h];exact SmI.refl
theorem IdE.put {A:SdM}{id:Int}{x':SmM}(h:SmI (A.x id) x'):IdE A (A.put id x'):=fun j=>by
 show SmI _ (if j=id then x' else A.x j)
 split
 ·next e=>rw[e];exact h
 ·exact SmI.refl
theorem IdE.put2 {A:SdM}{id:Int}{x':SmM}{v:GivM}{g:GotM}(h:SmI (A.x id) x'):IdE A (A.put2 id x' v g):=IdE.put h
theorem IdE.setK {A:SdM}{k:Int}{n:KdM}:IdE A (A.setK k n):=IdE.of_x SdM.setK_x
theorem IdE.settle {A:SdM}{id:Int}{x':SmM}(h:SmI (A.x id) x'):IdE A (A.settle id x'):=by
 unfold SdM.settle
 split
 ·exact(IdE.put (A:=A) (id:=id) (x':={x' with counted:=true}) h).trans IdE.setK
 ·exact IdE.put h
theorem IdE.come {A:SdM}{id:Int}:IdE A (A.come id):=IdE.of_x SdM.come_x
theorem IdE.sentF {A:SdM}{f:FsM}:IdE A (A.sentF f):=by
 unfold SdM.sentF
 split
 ·exact IdE.put ⟨rfl,rfl⟩
 split
 ·exact IdE.put ⟨rfl,rfl⟩
 split
 ·exact IdE.put ⟨rfl,rfl⟩
 split
 ·exact IdE.refl
 ·unfold SdM.sentD
  split
  ·exact IdE.put ⟨rfl,rfl⟩
  ·next o _ _=>exact fun j=>(IdE.put (A:=A) (id:=f.id) (x':={(A.x f.id).outTo (o.sent f.off f.data.length f.fin)with got:=(A.x f.id).got.use (f.off+f.data.length-(A.x f.id).got.used)}) ⟨rfl,rfl⟩) j
theorem IdE.lostF {A:SdM}{f:FsM}:IdE A (A.lostF f):=by
 unfold SdM.lostF
 repeat' split
 all_goals first
  |exact IdE.refl
  |exact IdE.put ⟨rfl,rfl⟩
theorem IdE.cameF {A:SdM}{f:FsM}:IdE A (A.cameF f):=by
 unfold SdM.cameF SdM.cameD
 repeat' split
 all_goals first
  |exact IdE.refl
  |exact IdE.put ⟨rfl,rfl⟩
  |exact IdE.settle ⟨rfl,rfl⟩
theorem IdE.frameF {A:SdM}{f:FsM}:IdE A (A.frameF f):=by
 have hx:(A.come f.id).x=A.x:=SdM.come_x
 have hc:IdE A (A.come f.id):=IdE.come
 unfold SdM.frameF
 split
 ·split
  ·exact IdE.refl
  ·next m hm=>exact hc.trans (IdE.put2 (by rw[hx];exact⟨rfl,rfl⟩))
 split
 ·exact hc.trans (IdE.put (by rw[hx];exact giveUp_smI))
 split
 ·exact hc.trans (IdE.put (by rw[hx];exact⟨rfl,rfl⟩))
 split
 ·exact IdE.refl
 ·next m hm=>exact hc.trans (IdE.put2 (by rw[hx];exact⟨rfl,rfl⟩))
theorem IdE.visit {P:PrM}{i:Bool}{id most:Int}{lost:Bool}:IdE (P.s i) ((P.visit i id most lost).s i)∧IdE (P.s (!i)) ((P.visit i id most lost).s (!i)):=by
 unfold PrM.visit PrM.send
 split
 ·split
  ·rw[PrM.set2_i,PrM.set2_n];exact⟨IdE.sentF.trans IdE.lostF,IdE.refl⟩
  ·rw[PrM.set2_i,PrM.set2_n];exact⟨IdE.sentF.trans IdE.cameF,IdE.frameF⟩
 ·exact⟨IdE.refl,IdE.refl⟩
def PrM.Nm (P:PrM)(i:Bool):Prop:=∀id,(P.s i).has id→((P.s i).x id).id=id∧((P.s i).x id).stop≤4611686018427387903
theorem Nm.visit {P:PrM}{i:Bool}{id most:Int}{lost:Bool}(h:P.Nm i):(P.visit i id most lost).Nm i:=fun j hj=>by
 obtain⟨e1,e2⟩:=(IdE.visit (P:=P) (i:=i) (id:=id) (most:=most) (lost:=lost)).1 j
 rw[e1,e2]
 exact h j (SameK.visit.has.1 hj)
theorem Nm.tellG {P:PrM}{i:Bool}(h:P.Nm i):(P.tellG i).Nm i:=fun j hj=>by
 rw[x_tellG]
 exact h j (SameK.tellG.has.1 hj)
theorem Nm.strG {P:PrM}{i lost:Bool}(h:P.Nm i):(P.strG i lost).Nm i:=fun j hj=>by
 rw[x_strG]
 exact h j (SameK.strG.has.1 hj)
theorem Inv.visit_drop {P:PrM}{D one many D':Int}{n:Nat}{i:Bool}{id most:Int}(h:Inv P D one many n)(hid:(P.s i).has id)(hN:P.Nm i)(ha:P.Ah 10)(hm:5≤most)(hs:(P.nextF i id most).2=true):(P.visit i id most false).phi D'+30≤P.phi D':=by
 obtain⟨h1,h2⟩:=hN id hid
 have hn:nextG (P.s i).got ((P.s i).x id) most=((P.nextF i id most).1,true):=by
  rw[←hs];rfl
 unfold PrM.visit
 rw[if_pos hs]
 exact(h.form hid h1 h2 zom hn).drop h hid ha hm
theorem visit_no {P:PrM}{i:Bool}{id most:Int}{lost:Bool}(hs:¬(P.nextF i id most).2=true):P.visit i id most lost=P:=if_neg hs
theorem Runs.drop {P Q:PrM}{D one many D':Int}{n:Nat}{i:Bool}{most:Int}{l:List Int}{s:Bool}(r:Runs i most true P l s Q)(h:Inv P D one many n)(hN:P.Nm i)(ha:P.Ah 10)(hm:5≤most)(hl:∀id∈l,(P.s i).has id):
  Inv Q D one many n∧Q.Nm i∧Q.Ah 10∧(Q.phi D'+30≤P.phi D'∨(Q=P∧∀id∈l,¬(P.nextF i id most).2=true)):=by
 induction r with
 |nil=>exact⟨h,hN,ha,.inr ⟨rfl,fun id hid=>by cases hid⟩⟩
 |snoc id lost r hq ih=>
  next Q l s=>
  have hq':=hq rfl
  subst hq'
  obtain⟨i1,i2,i3,i4⟩:=ih fun j hj=>hl j (List.mem_append_left _ hj)
  have hid:(Q.s i).has id:=by
   have hs:SameK (P.s i) (Q.s i):=by
    clear i1 i2 i3 i4 ih hl
    induction r with
    |nil=>exact SameK.refl
    |snoc _ _ _ _ ih=>exact ih.trans SameK.visit
   exact hs.has.2 (hl id (List.mem_append_right _ (List.mem_singleton.2 rfl)))
  obtain⟨e1,e2⟩:=i2 id hid
  refine⟨i1.visit hid e1 e2 zom,Nm.visit i2,SameN.visit.ah i3,?_⟩
  by_cases hs:(Q.nextF i id most).2=true
  ·have hd:=i1.visit_drop (D':=D') hid i2 i3 hm hs
   rcases i4 with i4|⟨rfl,_⟩
   ·exact .inl zom
   ·exact .inl hd
  ·rw[visit_no hs]
   rcases i4 with i4|⟨rfl,i5⟩
   ·exact .inl i4
   ·refine .inr ⟨rfl,fun j hj=>?_⟩
    rcases List.mem_append.1 hj with hj|hj
    ·exact i5 j hj
    ·rw[List.mem_singleton.1 hj];exact hs
end Go.Proofs.YtnlaffkihohfkaaGreat
namespace Go.Proofs.YtnlaffkihohfkaaGreat
open Go Go.Sl Go.Proofs
variable {B:Nat}{w0:World}{G:List Hp}{R:Hp→List Hp}
structure Still (P Q:PrM):Prop where
 x:∀a,(Q.s a).x=(P.s a).x
 got:∀a,(Q.s a).got=(P.s a).got
 giv:∀a,(Q.s a).giv=(P.s a).giv
 w:SameW P Q
 k:∀a,SameK (P.s a) (Q.s a)
theorem Still.refl {P:PrM}:Still P P:=⟨fun _=>rfl,fun _=>rfl,fun _=>rfl,SameW.refl,fun _=>SameK.refl⟩
theorem Still.trans {P Q R:PrM}(h:Still P Q)(g:Still Q R):Still P R:=⟨fun a=>(g.x a).trans (h.x a),fun a=>(g.got a).trans (h.got a),fun a=>(g.giv a).trans (h.giv a),h.w.trans g.w,fun a=>(h.k a).trans (g.k a)⟩
theorem Still.phi {P Q:PrM}(h:Still P Q)(D:Int):Q.phi D=P.phi D:=by
 unfold PrM.phi sideP lenT
 rw[h.w.1,h.got,h.got]
 simp only[h.x]
theorem SameK.raiseS {A:SdM}{k n:Int}(hk:k=0∨k=1):SameK A (A.raiseS k n):=SameK.setK hk rfl rfl
theorem Still.strK {P:PrM}{i lost:Bool}{k:Int}(hk:k=0∨k=1):Still P (P.strK i k lost):=by
 refine⟨fun a=>x_strK,bool_two i ?_ ?_,bool_two i ?_ ?_,by unfold PrM.strK;split<;>exact SameW.refl,bool_two i (SameK.strK hk) ?_⟩
 all_goals
  unfold PrM.strK
  split
 ·rw[PrM.set2_i];exact SdM.setK_got.trans SdM.setK_got
 ·rw[PrM.set2_i];exact SdM.setK_got
 ·rw[PrM.set2_n]
 ·rw[PrM.set2_n];exact SdM.setK_got
 ·rw[PrM.set2_i];exact SdM.setK_giv.trans SdM.setK_giv
 ·rw[PrM.set2_i];exact SdM.setK_giv
 ·rw[PrM.set2_n]
 ·rw[PrM.set2_n];exact SdM.setK_giv
 ·rw[PrM.set2_n];exact SameK.refl
 ·rw[PrM.set2_n];exact SameK.raiseS hk
theorem Still.strG {P:PrM}{i lost:Bool}:Still P (P.strG i lost):=by
 unfold PrM.strG
 split
 ·exact Still.strK (.inl rfl)
 split
 ·exact Still.strK (.inr rfl)
 ·exact Still.refl
theorem Still.next {P Q:PrM}(h:Still P Q){i:Bool}{id most:Int}:Q.nextF i id most=P.nextF i id most:=by
 unfold PrM.nextF
 rw[h.x,h.got]
theorem Inv.tell_drop {P:PrM}{D one many:Int}{n:Nat}{i:Bool}(h:Inv P D one many n)(hD:120≤D)(hw:(P.s i).giv.wants=true):(P.tellG i).phi D+30≤P.phi D:=by
 unfold PrM.tellG
 rw[if_pos hw]
 refine Int.le_trans (Int.le_of_eq (congrArg (· +30) (set2_phi (P:=P) (i:=i) (D:=D) (id:=0) ⟨Int.le_refl _,by decide⟩ (fun _ _=>rfl) (fun _ _=>rfl)))) ?_
 have hw':=wants_def.1 hw
 unfold roomM at hw'
 have ha:=h.ah i
 have hc:=h.cr' i
 have c1:=hc.a;have c2:=hc.b;have c3:=hc.c;have c4:=hc.e;have c5:=hc.n;have c6:=hc.f;have c7:=hc.h
 have e1:(P.s (!i)).got.raise (P.s i).giv.lim={(P.s (!i)).got with lim:=(P.s i).giv.lim}:=by
  unfold GotM.raise
  have:max (P.s (!i)).got.lim (min (P.s i).giv.lim 4611686018427387903)=(P.s i).giv.lim:=by omega
  rw[this]
 dsimp only
 rw[e1]
 unfold gphi
 dsimp only
 have b1:=bt_b (p:=(P.s (!i)).got.used<(P.s i).giv.lim) (n:=30) (by decide)
 have b2:=bt_b (p:=(P.s (!i)).got.used<(P.s (!i)).got.lim) (n:=30) (by decide)
 omega
structure Quiet (P:PrM)(i:Bool)(most:Int):Prop where
 g:(P.s i).giv.wants=false
 n:∀id,(P.s i).has id→¬(P.nextF i id most).2=true
theorem Still.quiet {P Q:PrM}(h:Still P Q){i:Bool}{most:Int}(g:Quiet Q i most):Quiet P i most:=
 ⟨by rw[←h.giv];exact g.g,fun id hid=>by rw[←h.next];exact g.n id ((h.k i).has.2 hid)⟩
structure Rd3 (P:PrM)(D one many:Int)(n:Nat)(i:Bool):Prop where
 h:Inv P D one many n
 nm:P.Nm i
 ah:P.Ah 10
theorem It.drop {P Q:PrM}{D one many:Int}{n:Nat}{i s:Bool}{most:Int}(r:It i most true P s Q)(h:Rd3 P D one many n i)(hD:120≤D)(hm:5≤most):
  Rd3 Q D one many n i∧(Q.phi D+30≤P.phi D∨(Still P Q∧Quiet P i most)):=by
 obtain⟨l,s2,lost,hp,hr,hq,_⟩:=r
 have hq':=hq rfl
 subst hq'
 have hall:∀id∈l,(((P.tellG i).strG i false).s i).has id:=fun id hid=>SdM.ids_has.1 (hp.mem_iff.1 hid)
 have hS:Still (P.tellG i) ((P.tellG i).strG i false):=Still.strG
 obtain⟨q1,q2,q3,q4⟩:=hr.drop (D':=D) (D:=D) (one:=one) (many:=many) (n:=n) h.h.tellG.strG (Nm.strG (Nm.tellG h.nm)) ((SameN.tellG.trans SameN.strG).ah h.ah) hm hall
 refine⟨⟨q1,q2,q3⟩,?_⟩
 rw[hS.phi]at q4
 by_cases hw:(P.s i).giv.wants=true
 ·have hd:=h.h.tell_drop hD hw
  rcases q4 with q4|⟨rfl,_⟩
  ·exact .inl zom
  ·rw[hS.phi];exact .inl hd
 ·have e:P.tellG i=P:=if_neg hw
  rw[e]at hS q4 hall hp
  rcases q4 with q4|⟨q5,q6⟩
  ·exact .inl q4
  ·refine .inr ⟨by rw[q5];exact hS,hS.quiet ⟨by rw[hS.giv];simpa using hw,fun id hid=>q6 id (hp.mem_iff.2 (SdM.ids_has.2 hid))⟩⟩
theorem Pum.drop {P Q:PrM}{D one many:Int}{n m:Nat}{i:Bool}{most:Int}(r:Pum i most true m P Q)(h:Rd3 P D one many n i)(hD:120≤D)(hm:5≤most):
  Rd3 Q D one many n i∧(Q.phi D+30≤P.phi D∨(Still P Q∧(0<m→Quiet P i most))):=by
 induction r with
 |zero=>exact⟨h,.inr ⟨Still.refl,fun e=>absurd e (Nat.lt_irrefl 0)⟩⟩
 |snoc r it ih=>
  obtain⟨i1,i2⟩:=ih h
  obtain⟨j1,j2⟩:=it.drop i1 hD hm
  refine⟨j1,?_⟩
  rcases i2 with i2|⟨i2,_⟩
  ·rcases j2 with j2|⟨j2,_⟩
   ·exact .inl zom
   ·rw[j2.phi];exact .inl i2
  ·rcases j2 with j2|⟨j2,j3⟩
   ·rw[i2.phi]at j2;exact .inl j2
   ·exact .inr ⟨i2.trans j2,fun _=>i2.quiet j3⟩
theorem PumpR.drop {P Q:PrM}{D one many:Int}{n m:Nat}{i:Bool}{most:Int}(r:PumpR i most true m P Q)(h:Rd3 P D one many n i)(hD:120≤D)(hm:5≤most)(h0:0<m):
  Rd3 Q D one many n i∧(Q.phi D+30≤P.phi D∨(Still P Q∧Quiet P i most)):=by
 rcases r with r|⟨k,R,_,r,it⟩
 ·obtain⟨i1,i2⟩:=r.drop h hD hm
  exact⟨i1,i2.imp_right fun e=>⟨e.1,e.2 h0⟩⟩
 ·obtain⟨i1,i2⟩:=r.drop h hD hm
  obtain⟨j1,j2⟩:=it.drop i1 hD hm
  refine⟨j1,?_⟩
  rcases i2 with i2|⟨i2,_⟩
  ·rcases j2 with j2|⟨j2,_⟩
   ·exact .inl zom
   ·rw[j2.phi];exact .inl i2
  ·rcases j2 with j2|⟨j2,j3⟩
   ·rw[i2.phi]at j2;exact .inl j2
   ·exact .inr ⟨i2.trans j2,i2.quiet j3⟩
end Go.Proofs.YtnlaffkihohfkaaGreat
namespace Go.Proofs.YtnlaffkihohfkaaGreat
open Go Go.Sl Go.Proofs
variable {B:Nat}{w0:World}{G:List Hp}{R:Hp→List Hp}
def un (x:SmM):Int:=x.giv.used-tkS x
theorem phi_read {x x' y:SmM}{w n:Int}(hs:y.send=1∨y.send=2∨y.send=3∨y.send=4)(h1:x'.giv.used=x.giv.used)(h2:x'.giv.ahead=x.giv.ahead)(h3:x'.read=x.read+n)(h4:(x'.stops=true∧liveS x'.recv=true)→x.stops=true∧liveS x.recv=true):phi y x' w+6*n≤phi y x w:=by
 have hb:=bt_le (n:=60) h4 (by decide)
 unfold phi
 rw[h1,h2,h3]
 by_cases h:y.send=1∨y.send=2∨y.send=4
 ·rw[if_pos h,if_pos h];omega
 ·rw[if_neg h,if_neg h,if_pos zom,if_pos zom];omega
structure TkE (P P':PrM)(i:Bool)(id:Int)(mn:Int):Prop where
 x:∀j,j≠id→(P'.s i).x j=(P.s i).x j
 n:P'.s (!i)=P.s (!i)
 got:(P'.s i).got=(P.s i).got
 w:P'.wr=P.wr
 send:((P'.s i).x id).send=((P.s i).x id).send
 out:((P'.s i).x id).out=((P.s i).x id).out
 xgot:((P'.s i).x id).got=((P.s i).x id).got
 resets:((P'.s i).x id).resets=((P.s i).x id).resets
 phi:phi ((P.s (!i)).x id) ((P'.s i).x id) (P.wr (!i) id).length+6*min mn (un ((P.s i).x id))≤phi ((P.s (!i)).x id) ((P.s i).x id) (P.wr (!i) id).length
theorem offG_eq {x:SmM}{m:InM}{n:Nat}:(x.offG m n).send=x.send∧(x.offG m n).out=x.out∧(x.offG m n).got=x.got∧(x.offG m n).resets=x.resets∧(x.offG m n).stops=x.stops∧(x.offG m n).recv=x.recv∧(x.offG m n).inn=some (m.off n)∧(x.offG m n).giv.used=x.giv.used∧(x.offG m n).giv.ahead=x.giv.ahead:=by
 unfold SmM.offG
 split<;>exact⟨rfl,rfl,rfl,rfl,rfl,rfl,rfl,rfl,rfl⟩
theorem Inv.take_e {P:PrM}{D one many:Int}{n:Nat}{i:Bool}{id mn:Int}(h:Inv P D one many n)(hid:(P.s i).has id)(hmn:0≤mn):TkE P (P.take i id mn) i id mn:=by
 have hd:=h.dir' i hid.1
 have hW:=h.wl60 (a:=!i) hid
 unfold PrM.take
 by_cases h1:finalS ((P.s i).x id).recv=true
 ·rw[if_pos h1]
  refine⟨fun _ _=>rfl,rfl,rfl,rfl,rfl,rfl,rfl,rfl,?_⟩
  have hu:un ((P.s i).x id)=0:=by
   unfold un tkS
   rcases hd with⟨k,r,f,g⟩|⟨r,g⟩|⟨k,r,f,g⟩|g
   ·rw[g.rv]at h1;cases h1
   ·rcases g.rv with⟨e,_⟩|⟨e,_,e3⟩
    ·rw[e]at h1;cases h1
    ·rw[if_neg zom,g.read_,g.vu,e3];omega
   ·rw[if_pos g.rv];omega
   ·have:((P.s i).x id).read=0:=by unfold SmM.read;rw[g.inn];rfl
    rw[if_neg (by have:=g.rv;omega),g.vu,this];rfl
  rw[hu]
  omega
 rw[if_neg h1]
 by_cases h2:((P.s i).x id).recv=4
 ·rw[if_pos h2]
  obtain⟨f1,f2,f3,f4,f5,f6,f7⟩:=SmM.fin_alike (x:=((P.s i).x id).heard) (m:=(P.s i).mine id)
  have e:((P.set2 i ((P.s i).settle id ((P.s i).x id).heard) (P.s (!i))).s i)=(P.s i).settle id ((P.s i).x id).heard:=PrM.set2_i
  have ex:((P.s i).settle id ((P.s i).x id).heard).x id=((P.s i).x id).heard.fin ((P.s i).mine id):=by rw[settle_x,if_pos rfl]
  have hu:un ((P.s i).x id)=0:=by
   unfold un tkS
   rw[if_pos (.inl h2)];omega
  have hs5:((P.s (!i)).x id).send=5:=by
   rcases hd with⟨k,r,f,g⟩|⟨r,g⟩|⟨k,r,f,g⟩|g
   ·have:=g.rv;omega
   ·have:=g.rv;omega
   ·exact g.st
   ·have:=g.rv;omega
  refine⟨fun j hj=>by rw[e,settle_x,if_neg hj],PrM.set2_n,by rw[e];exact SdM.settle_got,rfl,by rw[e,ex,f1];rfl,by rw[e,ex,f2];rfl,by rw[e,ex,f3];rfl,by rw[e,ex,f4];rfl,?_⟩
  rw[e,ex,hu,phi_five hs5 (by rw[f5];rfl),phi_five hs5 (by rw[h2];rfl)]
  omega
 rw[if_neg h2]
 have hrv:=((recv_cases hd.recv_b).resolve_left h1).resolve_left h2
 have key:∀(k r:Nat) (kn:Bool) (fi:Int),r≤k→k≤(P.wr (!i) id).length→(kn=true→fi=k)→((P.s i).x id).inn=some (inG (P.wr (!i) id) r k kn fi)→((P.s i).x id).giv.used=k→(((P.s (!i)).x id).send=1∨((P.s (!i)).x id).send=2∨((P.s (!i)).x id).send=3∨((P.s (!i)).x id).send=4)→
   TkE P (match ((P.s i).x id).inn with|none=>P|some m=>(P.set2 i ((P.s i).readN id m (m.many mn)) (P.s (!i))).setR i id (P.rd i id++m.bytes (m.many mn)) (P.en i id||m.allAt (m.many mn))) i id mn:=by
  intro k r kn fi g1 g2 g3 g4 g5 g6
  rw[g4]
  dsimp only
  have hfi:kn=true→(k:Int)≤fi∧fi≤4611686018427387903:=fun e=>by rw[g3 e];omega
  have hq:=inG_many (many:=mn) g1 g2 hW hfi
  generalize hqq:(inG (P.wr (!i) id) r k kn fi).many mn=q at hq⊢
  have hqk:r+q≤k:=by omega
  have hoff:=inG_off (t:=P.wr (!i) id) (r:=r) (k:=k) (n:=q) (kn:=kn) (fi:=fi) g2 hW hqk
  obtain⟨o1,o2,o3,o4,o5,o6,o7,o8,o9⟩:=offG_eq (x:=(P.s i).x id) (m:=inG (P.wr (!i) id) r k kn fi) (n:=q)
  rw[hoff]at o7
  have hr0:((P.s i).x id).read=r:=by unfold SmM.read;rw[g4];rfl
  have hr1:((((P.s i).x id).offG (inG (P.wr (!i) id) r k kn fi) q)).read=((P.s i).x id).read+q:=by
   rw[hr0];unfold SmM.read;rw[o7];show ((r+q:Nat):Int)=_;omega
  have hu:un ((P.s i).x id)=(k:Int)-r:=by
   unfold un tkS
   rw[if_neg zom,g5,hr0]
  have hqm:(q:Int)=min mn (un ((P.s i).x id)):=by rw[hu];omega
  have es:∀A:SdM,((P.set2 i A (P.s (!i))).setR i id (P.rd i id++(inG (P.wr (!i) id) r k kn fi).bytes q) (P.en i id||(inG (P.wr (!i) id) r k kn fi).allAt q)).s i=A:=fun A=>PrM.set2_i (P:=P)
  have en:∀A:SdM,((P.set2 i A (P.s (!i))).setR i id (P.rd i id++(inG (P.wr (!i) id) r k kn fi).bytes q) (P.en i id||(inG (P.wr (!i) id) r k kn fi).allAt q)).s (!i)=P.s (!i):=fun A=>PrM.set2_n (P:=P)
  unfold SdM.readN
  generalize hxx:((P.s i).x id).offG (inG (P.wr (!i) id) r k kn fi) q=xx at *
  by_cases hal:(inG (P.wr (!i) id) r k kn fi).allAt q=true
  ·rw[if_pos hal]
   obtain⟨f1,f2,f3,f4,f5,f6,f7⟩:=SmM.fin_alike (x:=xx.over) (m:=({P.s i with giv:=(P.s i).giv.take q}:SdM).mine id)
   obtain⟨f8,f9⟩:=fin_stops (x:=xx.over) (m:=({P.s i with giv:=(P.s i).giv.take q}:SdM).mine id)
   have ex:(({P.s i with giv:=(P.s i).giv.take q}:SdM).settle id xx.over).x id=xx.over.fin (({P.s i with giv:=(P.s i).giv.take q}:SdM).mine id):=by rw[settle_x,if_pos rfl]
   refine⟨fun j hj=>by rw[es,settle_x,if_neg hj],en _,by rw[es];exact SdM.settle_got,rfl,by rw[es,ex,f1];exact o1,by rw[es,ex,f2];exact o2,by rw[es,ex,f3];exact o3,by rw[es,ex,f4];exact o4,?_⟩
   rw[es,ex,←hqm]
   exact phi_read g6 (by rw[f7];exact o8) (by rw[f7];exact o9) (by rw[f9];exact hr1) (fun e=>by rw[f8]at e;cases e.1)
  ·rw[if_neg hal]
   have ex:(({P.s i with giv:=(P.s i).giv.take q}:SdM).put id xx).x id=xx:=put_at
   refine⟨fun j hj=>by rw[es];exact put_off hj,en _,by rw[es];rfl,rfl,by rw[es,ex];exact o1,by rw[es,ex];exact o2,by rw[es,ex];exact o3,by rw[es,ex];exact o4,?_⟩
   rw[es,ex,←hqm]
   exact phi_read g6 o8 o9 hr1 (fun e=>by rw[o5,o6]at e;exact e)
 rcases hd with⟨k,r,f,g⟩|⟨r,g⟩|⟨k,r,f,g⟩|g
 ·exact key k r false 0 g.hr g.hk (fun e=>by cases e) g.inn g.vu (by have:=g.send_;omega)
 ·exact key _ r true _ g.hr (Nat.le_refl _) (fun _=>rfl) g.inn g.vu (by have:=g.st;omega)
 ·have:=g.rv;omega
 ·have:=g.rv;omega
end Go.Proofs.YtnlaffkihohfkaaGreat
namespace Go.Proofs.YtnlaffkihohfkaaGreat
open Go Go.Sl Go.Proofs
variable {B:Nat}{w0:World}{G:List Hp}{R:Hp→List Hp}
inductive Tks (i:Bool)(mn:Int):PrM→List Int→PrM→Prop
 |nil (P:PrM):Tks i mn P [] P
 |snoc {P Q:PrM} {l:List Int} (id:Int) (h:Tks i mn P l Q):Tks i mn P (l++[id]) (Q.take i id mn)
structure SndE (P Q:PrM)(i:Bool):Prop where
 n:Q.s (!i)=P.s (!i)
 got:(Q.s i).got=(P.s i).got
 w:Q.wr=P.wr
 x:∀j,((Q.s i).x j).send=((P.s i).x j).send∧((Q.s i).x j).out=((P.s i).x j).out∧((Q.s i).x j).got=((P.s i).x j).got∧((Q.s i).x j).resets=((P.s i).x j).resets
theorem SndE.refl {P:PrM}{i:Bool}:SndE P P i:=⟨rfl,rfl,rfl,fun _=>⟨rfl,rfl,rfl,rfl⟩⟩
theorem TkE.snd {P P':PrM}{i:Bool}{id mn:Int}(h:TkE P P' i id mn):SndE P P' i:=⟨h.n,h.got,h.w,fun j=>by
 by_cases e:j=id
 ·rw[e];exact⟨h.send,h.out,h.xgot,h.resets⟩
 ·rw[h.x j e];exact⟨rfl,rfl,rfl,rfl⟩⟩
theorem SndE.trans {P Q R:PrM}{i:Bool}(h:SndE P Q i)(g:SndE Q R i):SndE P R i:=⟨g.n.trans h.n,g.got.trans h.got,g.w.trans h.w,fun j=>by
 obtain⟨a,b,c,d⟩:=h.x j
 obtain⟨a2,b2,c2,d2⟩:=g.x j
 exact⟨a2.trans a,b2.trans b,c2.trans c,d2.trans d⟩⟩
theorem TkE.drop {P P':PrM}{i:Bool}{id mn:Int}(h:TkE P P' i id mn)(hid:0≤id∧id<NS)(D:Int):P'.phi D+6*min mn (un ((P.s i).x id))≤P.phi D:=by
 have hp:=PrM.phi_upd (P:=P) (P':=P') (D:=D) (i:=i) hid (bool_two i (fun j hj=>h.x j hj) (fun j hj=>by rw[h.n])) h.w
 rw[h.n,h.got]at hp
 have h1:=h.phi
 have h2:Go.Proofs.YtnlaffkihohfkaaGreat.phi ((P'.s i).x id) ((P.s (!i)).x id) (P.wr i id).length=Go.Proofs.YtnlaffkihohfkaaGreat.phi ((P.s i).x id) ((P.s (!i)).x id) (P.wr i id).length:=phi_congr h.send (by rw[h.xgot]) (by rw[h.xgot]) rfl rfl rfl rfl rfl
 omega
theorem take_k {P:PrM}{i:Bool}{id mn:Int}:SameK (P.s i) ((P.take i id mn).s i):=by
 unfold PrM.take
 split
 ·exact SameK.refl
 split
 ·rw[PrM.set2_i];exact SameK.settle
 split
 ·exact SameK.refl
 ·next m hm=>
  have e:((P.set2 i ((P.s i).readN id m (m.many mn)) (P.s (!i))).setR i id (P.rd i id++m.bytes (m.many mn)) (P.en i id||m.allAt (m.many mn))).s i=(P.s i).readN id m (m.many mn):=PrM.set2_i (P:=P)
  rw[e]
  unfold SdM.readN
  split
  ·exact⟨(SameK.settle (A:=_) (id:=id)).1,fun k hk=>⟨((SameK.settle (A:=_) (id:=id)).2 k hk).1,((SameK.settle (A:=_) (id:=id)).2 k hk).2⟩⟩
  ·exact⟨rfl,fun _ _=>⟨rfl,rfl⟩⟩
theorem Tks.drop {P Q:PrM}{D one many D':Int}{n:Nat}{i:Bool}{mn:Int}{l:List Int}(r:Tks i mn P l Q)(h:Inv P D one many n)(hmn:0≤mn)(hl:∀id∈l,(P.s i).has id)(hnd:l.Nodup):
  Inv Q D one many n∧SameK (P.s i) (Q.s i)∧SameN P Q∧SndE P Q i∧(∀j,j∉l→(Q.s i).x j=(P.s i).x j)∧Q.phi D'+6*sumL (fun id=>min mn (un ((P.s i).x id))) l≤P.phi D':=by
 induction r with
 |nil=>exact⟨h,SameK.refl,SameN.refl,SndE.refl,fun _ _=>rfl,by simp[sumL]⟩
 |snoc id r ih=>
  next Q l=>
  obtain⟨n1,n2,n3⟩:=List.nodup_append.1 hnd
  obtain⟨i1,i2,i3,i4,i5,i6⟩:=ih (fun j hj=>hl j (List.mem_append_left _ hj)) n1
  have hni:id∉l:=fun e=>n3 id e id (List.mem_singleton.2 rfl) rfl
  have hid:(Q.s i).has id:=i2.has.2 (hl id (List.mem_append_right _ (List.mem_singleton.2 rfl)))
  have ht:=i1.take_e hid hmn
  have hd:=ht.drop (i1.has_lt hid) D'
  rw[i5 id hni]at hd
  refine⟨i1.take hid hmn,i2.trans take_k,i3.trans wt_take,i4.trans ht.snd,fun j hj=>?_,?_⟩
  ·rw[ht.x j (fun e=>hj (by rw[e];exact List.mem_append_right _ (List.mem_singleton.2 rfl)))]
   exact i5 j (fun e=>hj (List.mem_append_left _ e))
  ·rw[sumL_app]
   simp only[sumL]
   omega
end Go.Proofs.YtnlaffkihohfkaaGreat
namespace Go.Proofs.YtnlaffkihohfkaaGreat
open Go Go.Sl Go.Proofs
variable {B:Nat}{w0:World}{G:List Hp}{R:Hp→List Hp}
def outW:Option BufM→Bool
 |none=>false
 |some o=>o.waits||decide (0<o.pend.length)
theorem outWaitsO_c {m:Option BufM}{p:Option Addr}{c:Hp}(h:OutO m p c)(hs:Sub c G)(hw:∀m',m=some m'→m'.WF):Go.Sl.Fn Tryz.prog 39 #[.pointer p] B w0 G fun u G'=>u=.bool (outW m)∧G'=G:=by
 cases m with
 |some m=>
  obtain⟨b,rfl,h⟩:=h
  exact outWaits_c h hs (hw m rfl)
 |none=>
  obtain⟨rfl,rfl⟩:=h
  refine Fn.pure ?_
  refine fn_enter Tryz.func39 rfl (by kernel_rfl) Tryz.ntmps39 (by simp) ?_
  refine qs<|qa<|qt<|qs<|qm ?_
  refine qv (v_neq_nil_none Tryz.underlying49 rfl)<|qm ?_
  refine qk ?_
  refine qk ?_
  refine qk ?_
  refine qk ?_
  refine qk ?_
  refine qk ?_
  refine qk ?_
  refine qk ?_
  refine qk ?_
  refine qk ?_
  refine qk ?_
  refine qk ?_
  refine qv (v_pick_false rfl rfl)<|qa<|qt ?_
  refine cw_ret ?_
  refine ret1 rfl (res_tmp rfl) ?_
  exact⟨rfl,zcov⟩
theorem Strs.read {xs:List SmM}{ps:List Nat}{c:Hp}{G:List Hp}(h:Strs xs ps c)(hs:Sub c G){i:Nat}(hi:i<xs.length):∃cx,Sub cx G∧SmAt xs[i] (ps.getD i 0) cx:=by
 obtain⟨cs,rfl,h1,h2,h3⟩:=h
 exact⟨cs[i],fun q hq=>hs q (List.mem_flatten.2 ⟨_,List.getElem_mem zom,hq⟩),h3 i hi zom⟩
theorem SmM.waits_eq {x:SmM}:x.waits=((x.resets&&decide (x.send=4))||(liveS x.send&&outW x.out)):=by
 unfold SmM.waits outW
 cases x.out<;>rfl
set_option maxHeartbeats 4000000 in
theorem waits_c {M:SsM}{ps:List Nat}{b:Nat}{c:Hp}(hM:SsAt M ps b c)(hs:Sub c G)(hw:M.WF):
  Go.Sl.Fn Tryz.prog 13 #[.pointer (some ⟨b,0,none⟩)] B w0 G fun u G'=>u=.bool (M.str.any SmM.waits)∧G'=G:=by
 refine Fn.pure ?_
 obtain⟨p,cm,cr0,cr1,cs,rfl,hMp,hR0,hR1,hS⟩:=hM
 have hs1:=hs.left
 have hsm:=hs.right.left
 have hsc:=hs.right.right.right.right
 obtain⟨m,hMR,hlk⟩:=hMp
 have hMV:MapV .u64 m (.map (some p.bm)) cm:=.inr ⟨p.bm,rfl,hMR⟩
 have hnd:=hMV.nd
 refine fn_enter Tryz.func13 rfl (by kernel_rfl) Tryz.ntmps13 (by simp) ?_
 refine qs ?_
 refine qa ?_
 refine qt ?_
 refine cw_seq ?_
 refine qs ?_
 refine qm ?_
 refine qv (v_eql_nil_some Tryz.underlying35 rfl) ?_
 refine qt ?_
 refine cw_false rfl ?_
 refine cw_skip ?_
 refine xw_then ?_
 refine cw_seq ?_
 refine qs ?_
 refine qm ?_
 refine qn ?_
 refine qf Ty.fd73_5 ?_
 refine ql (Var.sub1 Ty.sc68 zthr (.head _) (GetN.lit rfl)) ?_
 refine ow_range (kd:=.u64) rfl rfl Tryz.underlying68 rfl hsm hMV ?_
 intro br ci hIt
 refine qt ?_
 refine cw_block ?_
 refine cw_loop2 (ι:=((Option (Int×Value)×List (Int×Value)×Hp))) [(11,_)] ⟨rfl,trivial⟩ ((fun x=>[])) ((fun x=>ItAt .u64 (.map (some p.bm)) cm br x.1 x.2.1 x.2.2∧(∀q∈x.2.1,q∈m)∧∀i (hi:i<M.str.length),M.str[i].waits=true→∃v,(M.str[i].id,v)∈x.2.1)) ((fun x=>x.2.1.length)) ((fun x=>x.2.2::G)) (((none,m,ci):Option (Int×Value)×List (Int×Value)×Hp)) zenv zcov ?_ ?_
 ·refine⟨hIt,fun q hq=>hq,fun i hi _=>?_⟩
  have hl:=hlk (M.str[i].id)
  rw[ptrOf,idxS_some hw.nd hi rfl]at hl
  exact⟨_,(look_mem hnd).1 hl⟩
 rintro⟨cur,rem,c1⟩ ⟨i1,i2,i3⟩
 dsimp only at i1 i2 i3⊢
 refine qs ?_
 refine ow_next (kd:=.u64) rfl rfl rfl .here (hsm.there) i1 ?_ ?_
 ·intro h0
  subst h0
  have hany:M.str.any SmM.waits=false:=by
   rw[List.any_eq_false]
   intro x hx hxw
   obtain⟨i,hi,rfl⟩:=List.mem_iff_getElem.1 hx
   obtain⟨v,hv⟩:=i3 i hi hxw
   cases hv
  refine qv (v_extract rfl rfl) ?_
  refine qt ?_
  refine cw_seq ?_
  refine cw_false rfl ?_
  refine cw_exit ?_
  refine xw_then_exit ?_
  refine xw_round_exit ?_
  refine xw_block_exit ?_
  refine xw_then ?_
  refine qs ?_
  refine qa ?_
  refine qt ?_
  refine cw_ret ?_
  refine ret1 rfl (res_tmp rfl) ?_
  exact⟨by rw[hany],zcov⟩
 ·intro k u rem' c1' hp hI
  have hku:=i2 _ (hp.mem_iff.2 (List.mem_cons_self ..))
  have hl:=(look_mem hnd).2 hku
  rw[hlk,ptrOf]at hl
  obtain⟨i,hi,rfl⟩:=Option.map_eq_some_iff.1 hl
  obtain⟨hil,hid⟩:=idxS_lt hi
  obtain⟨cx,hsx,hSm⟩:=hS.read hsc hil
  have hxw:=hw.str _ (List.getElem_mem hil)
  have hwe:=SmM.waits_eq (x:=M.str[i])
  generalize hx:M.str[i]=x at hSm hxw hwe
  obtain⟨xp,ci2,co,rfl,hin,hout⟩:=hSm
  have hx1:=hsx.left
  have hxo:=hsx.right.right
  have hyes:x.waits=true→M.str.any SmM.waits=true:=fun h=>List.any_eq_true.2 ⟨x,hx ▸ List.getElem_mem hil,h⟩
  have hno:x.waits=false→∀j (hj:j<M.str.length),M.str[j].waits=true→∃v,(M.str[j].id,v)∈rem':=fun h j hj hjw=>by
   obtain⟨v,hv⟩:=i3 j hj hjw
   rcases List.mem_cons.1 (hp.mem_iff.1 hv)with he|he
   ·have hij:M.str[j].id=k:=congrArg Prod.fst he
    have h1:=idxS_some hw.nd hj hij
    rw[hi]at h1
    have:=Option.some.inj h1
    subst this
    rw[hx,h]at hjw
    cases hjw
   ·exact⟨v,he⟩
  have hlr:=hp.length_eq
  rw[List.length_cons]at hlr
  refine qv (v_extract rfl rfl) ?_
  refine qt ?_
  refine cw_seq ?_
  refine cw_true rfl ?_
  refine cw_skip ?_
  refine xw_then ?_
  refine cw_block ?_
  refine qs ?_
  refine qv (v_entry rfl .here (hsm.there) hI) ?_
  refine qv (v_extract rfl rfl) ?_
  refine qa ?_
  refine qt ?_
  refine qs ?_
  refine qm ?_
  refine qn ?_
  refine qf Ty.fd55_9 ?_
  refine ql (Var.sub1 Ty.sc4 zthr (.head _) (GetN.lit rfl)) ?_
  refine qm ?_
  refine ow_bool 20 rfl (fun hc20=>?_) (fun hc20=>?_)
  refine qm ?_
  refine qn ?_
  refine qf Ty.fd55_1 ?_
  refine ql (Var.sub1 Ty.sc47 zthr (.head _) (GetN.lit rfl)) ?_
  refine qv (v_eql rfl rfl) ?_
  refine qv (v_pick_true rfl rfl) ?_
  refine qm ?_
  refine ow_dec 27 rfl (fun hc27=>?_) (fun hc27=>?_)
  refine qk ?_
  refine qk ?_
  refine qk ?_
  refine qk ?_
  refine qk ?_
  refine qk ?_
  refine qk ?_
  refine qk ?_
  refine qk ?_
  refine qk ?_
  refine qk ?_
  refine qk ?_
  refine qv (v_pick_true rfl rfl) ?_
  refine qt ?_
  refine cw_true rfl ?_
  refine qs ?_
  refine qa ?_
  refine qt ?_
  refine cw_ret ?_
  refine xw_block_ret ?_
  refine xw_round_ret ?_
  refine xw_block_ret ?_
  refine xw_then_ret ?_
  refine ret1 rfl (res_tmp rfl) ?_
  rotate_left
  refine qm ?_
  refine qn ?_
  refine qf Ty.fd55_1 ?_
  refine ql (Var.sub1 Ty.sc47 zthr (.head _) (GetN.lit rfl)) ?_
  refine qv (v_call rfl rfl (live_c)) ?_
  refine qm ?_
  refine ow_bool 33 rfl (fun hc33=>?_) (fun hc33=>?_)
  refine qm ?_
  refine qn ?_
  refine qf Ty.fd55_4 ?_
  refine ql (Var.sub1 Ty.sc49 zthr (.head _) (GetN.lit rfl)) ?_
  refine qv (v_call rfl rfl (outWaitsO_c hout hxo.there hxw.out)) ?_
  refine qv (v_pick_true rfl rfl) ?_
  refine qv (v_pick_false rfl rfl) ?_
  refine qt ?_
  refine cw_bool rfl (fun hc40=>?_) (fun hc40=>?_)
  refine qs ?_
  refine qa ?_
  refine qt ?_
  refine cw_ret ?_
  refine xw_block_ret ?_
  refine xw_round_ret ?_
  refine xw_block_ret ?_
  refine xw_then_ret ?_
  refine ret1 rfl (res_tmp rfl) ?_
  rotate_left
  refine cw_skip ?_
  refine xw_block ?_
  rotate_left
  refine qk ?_
  refine qk ?_
  refine qk ?_
  refine qk ?_
  refine qk ?_
  refine qv (v_pick_false rfl rfl) ?_
  refine qv (v_pick_false rfl rfl) ?_
  refine qt ?_
  refine cw_false rfl ?_
  refine cw_skip ?_
  refine xw_block ?_
  rotate_left
  refine qk ?_
  refine qk ?_
  refine qk ?_
  refine qk ?_
  refine qk ?_
  refine qv (v_pick_false rfl rfl) ?_
  refine qm ?_
  refine qm ?_
  refine qn ?_
  refine qf Ty.fd55_1 ?_
  refine ql (Var.sub1 Ty.sc47 zthr (.head _) (GetN.lit rfl)) ?_
  refine qv (v_call rfl rfl (live_c)) ?_
  refine qm ?_
  refine ow_bool 33 rfl (fun hc33=>?_) (fun hc33=>?_)
  refine qm ?_
  refine qn ?_
  refine qf Ty.fd55_4 ?_
  refine ql (Var.sub1 Ty.sc49 zthr (.head _) (GetN.lit rfl)) ?_
  refine qv (v_call rfl rfl (outWaitsO_c hout hxo.there hxw.out)) ?_
  refine qv (v_pick_true rfl rfl) ?_
  refine qv (v_pick_false rfl rfl) ?_
  refine qt ?_
  refine cw_bool rfl (fun hc40=>?_) (fun hc40=>?_)
  refine qs ?_
  refine qa ?_
  refine qt ?_
  refine cw_ret ?_
  refine xw_block_ret ?_
  refine xw_round_ret ?_
  refine xw_block_ret ?_
  refine xw_then_ret ?_
  refine ret1 rfl (res_tmp rfl) ?_
  rotate_left
  refine cw_skip ?_
  refine xw_block ?_
  rotate_left
  refine qk ?_
  refine qk ?_
  refine qk ?_
  refine qk ?_
  refine qk ?_
  refine qv (v_pick_false rfl rfl) ?_
  refine qv (v_pick_false rfl rfl) ?_
  refine qt ?_
  refine cw_false rfl ?_
  refine cw_skip ?_
  refine xw_block ?_
  rotate_left
  ·exact⟨by rw[hyes (by rw[hwe,hc20,hc27];simp)],zcov⟩
  ·exact⟨by rw[hyes (by rw[hwe,hc33,hc40];simp)],zcov⟩
  ·exact xw_round ((some (k,.pointer (some ⟨ps.getD i 0,0,none⟩)),rem',c1'):Option (Int×Value)×List (Int×Value)×Hp) ⟨hI,fun q hq=>i2 q (hp.mem_iff.2 (List.mem_cons_of_mem _ hq)),hno (by rw[hwe,hc33,hc40];simp[hc27])⟩ zdo zcov zenv
  ·exact xw_round ((some (k,.pointer (some ⟨ps.getD i 0,0,none⟩)),rem',c1'):Option (Int×Value)×List (Int×Value)×Hp) ⟨hI,fun q hq=>i2 q (hp.mem_iff.2 (List.mem_cons_of_mem _ hq)),hno (by rw[hwe,hc33];simp[hc27])⟩ zdo zcov zenv
  ·exact⟨by rw[hyes (by rw[hwe,hc33,hc40];simp)],zcov⟩
  ·exact xw_round ((some (k,.pointer (some ⟨ps.getD i 0,0,none⟩)),rem',c1'):Option (Int×Value)×List (Int×Value)×Hp) ⟨hI,fun q hq=>i2 q (hp.mem_iff.2 (List.mem_cons_of_mem _ hq)),hno (by rw[hwe,hc20,hc33,hc40];simp)⟩ zdo zcov zenv
  ·exact xw_round ((some (k,.pointer (some ⟨ps.getD i 0,0,none⟩)),rem',c1'):Option (Int×Value)×List (Int×Value)×Hp) ⟨hI,fun q hq=>i2 q (hp.mem_iff.2 (List.mem_cons_of_mem _ hq)),hno (by rw[hwe,hc20,hc33];simp)⟩ zdo zcov zenv
end Go.Proofs.YtnlaffkihohfkaaGreat
namespace Go.Proofs.YtnlaffkihohfkaaGreat
open Go Go.Sl Go.Proofs
variable {B:Nat}{w0:World}{G:List Hp}{R:Hp→List Hp}
theorem next_not {g:GotM}{x:SmM}{most:Int}(h:¬(nextG g x most).2=true):¬(x.resets=true∧x.send=4)∧¬(x.stops=true∧liveS x.recv=true)∧¬(x.recv=1∧x.giv.wants=true)∧(liveS x.send=true→∀o,x.out=some o→¬(o.next most (x.got.used+min x.got.room g.room)).2=true):=by
 unfold nextG at h
 by_cases h1:x.resets=true∧x.send=4
 ·rw[SsM.next_1 h1]at h;exact absurd rfl h
 by_cases h2:x.stops=true∧liveS x.recv=true
 ·rw[SsM.next_2 h1 h2]at h;exact absurd rfl h
 by_cases h3:x.recv=1∧x.giv.wants=true
 ·rw[SsM.next_3 h1 h2 h3]at h;exact absurd rfl h
 refine⟨h1,h2,h3,fun h4 o ho hn=>?_⟩
 rw[SsM.next_5 h1 h2 h3 h4 ho]at h
 have e:(SsM.part {SsM.new true 0 ⟨0,0,0⟩ 0 0 with got:=g} x o most).2=true:=hn
 rw[if_pos e]at h
 exact absurd rfl h
theorem Inv.stuck {P:PrM}{D one many:Int}{n:Nat}{i:Bool}{id most:Int}(h:Inv P D one many n)(hid:(P.s i).has id)(hm:1≤most)(hw:((P.s i).x id).waits=true)(h1:¬(((P.s i).x id).resets=true∧((P.s i).x id).send=4))(h4:liveS ((P.s i).x id).send=true→∀o,((P.s i).x id).out=some o→¬(o.next most (((P.s i).x id).got.used+min ((P.s i).x id).got.room (P.s i).got.room)).2=true):
  ∃k r fi,DOn ((P.s i).x id) ((P.s (!i)).x id) (P.wr i id) (P.rd (!i) id) (P.en (!i) id) k r fi∧k<(P.wr i id).length∧((P.s i).x id).got.used=k∧(((P.s i).x id).got.lim=k∨(P.s i).got.used=(P.s i).got.lim):=by
 rw[SmM.waits_eq]at hw
 have hw2:liveS ((P.s i).x id).send=true∧outW ((P.s i).x id).out=true:=by
  rcases (Bool.or_eq_true _ _).mp hw with e|e
  ·simp only[Bool.and_eq_true,decide_eq_true_eq]at e
   exact absurd e h1
  ·simpa only[Bool.and_eq_true] using e
 obtain⟨k,r,fi,g,hs⟩:=h.live_on hid hw2.1
 have hn:=h4 hw2.1 _ g.out
 have ho:=hw2.2
 rw[g.out]at ho
 have hc1:=g.cr.a;have hgu:=g.gu;have hcg:=(h.cr i).a
 rcases bufG_next (t:=P.wr i id) (k:=k) (f:=fi) (e:=false) (most:=most) (lim:=((P.s i).x id).got.used+min ((P.s i).x id).got.room (P.s i).got.room) g.hk hm with⟨_,e⟩|⟨q,e,_⟩
 ·rcases e with⟨e1,e2⟩|⟨e1,e2⟩
  ·unfold GotM.room roomM at e2
   exact⟨k,r,fi,g,e1,by omega,by omega⟩
  ·have hfi:fi=false:=by simpa using e2
   subst hfi
   exfalso
   have hz:outW (some (bufG (P.wr i id) k false false))=false:=by
    show ((bufG (P.wr i id) k false false).waits||decide (0<(bufG (P.wr i id) k false false).pend.length))=false
    have e3:(bufG (P.wr i id) k false false).pend=[]:=by
     show rngL (k:Int) ((P.wr i id).length:Int)=[]
     unfold rngL
     rw[if_neg zom]
    rw[e3]
    rfl
   rw[hz]at ho
   cases ho
 ·rw[e]at hn
  exact absurd rfl hn
structure NoData (P:PrM)(i:Bool)(most:Int):Prop where
 r:∀id,(P.s i).has id→¬(((P.s i).x id).resets=true∧((P.s i).x id).send=4)
 n:∀id,(P.s i).has id→liveS ((P.s i).x id).send=true→∀o,((P.s i).x id).out=some o→¬(o.next most (((P.s i).x id).got.used+min ((P.s i).x id).got.room (P.s i).got.room)).2=true
structure NoWant (P:PrM)(i:Bool):Prop where
 g:(P.s i).giv.wants=false
 n:∀id,0≤id→¬(((P.s i).x id).recv=1∧((P.s i).x id).giv.wants=true)
theorem sum_min {f:Int→Int}{n:Nat}(h0:∀i:Int,0≤i→i<n→0≤f i)(h:5≤sumTo f n):5≤sumTo (fun i=>min 50 (f i)) n:=by
 by_cases hb:∃i:Int,0≤i∧i<n∧50≤f i
 ·obtain⟨i,a,b,c⟩:=hb
  have:=sumTo_one (f:=fun i=>min 50 (f i)) a b fun j j0 j1=>by have:=h0 j j0 j1;(try dsimp only);omega
  (try dsimp only at this)
  omega
 ·rw[sumTo_congr (g:=f) fun i a b=>by
   have:¬50≤f i:=fun c=>hb ⟨i,a,b,c⟩
   (try dsimp only)
   omega]
  exact h
theorem sumTo_sub {f g:Int→Int}{n:Nat}:sumTo (fun i=>f i-g i) n=sumTo f n-sumTo g n:=by
 induction n with
 |zero=>rfl
 |succ n ih=>unfold sumTo;rw[ih];omega
theorem Inv.un_nn {P:PrM}{D one many:Int}{n:Nat}{i:Bool}(h:Inv P D one many n){j:Int}(hj:0≤j):0≤un ((P.s i).x j):=by
 have:=(h.dir' i hj).tk
 unfold un
 omega
theorem Inv.starve {P:PrM}{D one many:Int}{n:Nat}{i:Bool}{id most:Int}(h:Inv P D one many n)(hD:400≤D)(ha:P.Ah 10)(hm:1≤most)(hd:NoData P i most)(hW:NoWant P (!i))(hz:∀j,0≤j→¬(P.s i).has j→((P.s i).x j).got.used=0)(hid:(P.s i).has id)(hw:((P.s i).x id).waits=true):
  5≤sumTo (fun j=>min 50 (un ((P.s (!i)).x j))) NS:=by
 have hlt:=h.has_lt hid
 obtain⟨k,r,fi,g,hk,hu,hL⟩:=h.stuck hid hm hw (hd.r id hid) (hd.n id hid)
 refine sum_min (fun j j0 _=>h.un_nn j0) ?_
 rcases hL with hL|hL
 ·have hnw:((P.s (!i)).x id).giv.wants=false:=by
   have:=hW.n id hlt.1
   cases e:((P.s (!i)).x id).giv.wants with
   |false=>rfl
   |true=>exact absurd ⟨g.rv,e⟩ this
  have hnw':¬((P.s (!i)).x id).giv.ahead/2<roomM ((P.s (!i)).x id).giv.lim ((P.s (!i)).x id).giv.told:=fun e=>by
   rw[wants_def.2 e]at hnw;cases hnw
  unfold roomM at hnw'
  have hd1:((P.s (!i)).x id).giv.told≤((P.s i).x id).got.lim:=by
   rcases g.cr.d with e|e
   ·exact e
   ·rw[e]at hnw;cases hnw
  have hah:10≤((P.s (!i)).x id).giv.ahead:=by
   rcases ha (!i) id with e|e
   ·rw[g.inn]at e;cases e
   ·exact e
  have c2:=g.cr.b;have c3:=g.cr.c;have c4:=g.cr.o;have c5:=g.vt;have c6:=g.vu
  have hun:un ((P.s (!i)).x id)=(k:Int)-r:=by
   unfold un tkS
   rw[if_neg (by have:=g.rv;omega),g.read_,c6]
  have:=sumTo_one (f:=fun j=>un ((P.s (!i)).x j)) hlt.1 hlt.2 fun j j0 _=>h.un_nn j0
  (try dsimp only at this)
  omega
 ·have hnw':¬(P.s (!i)).giv.ahead/2<roomM (P.s (!i)).giv.lim (P.s (!i)).giv.told:=fun e=>by
   have:=hW.g
   rw[wants_def.2 e]at this;cases this
  unfold roomM at hnw'
  have hcr:=h.cr i
  have hd1:(P.s (!i)).giv.told≤(P.s i).got.lim:=by
   rcases hcr.d with e|e
   ·exact e
   ·rw[hW.g]at e;cases e
  have c2:=hcr.b;have c3:=hcr.c;have c4:=hcr.o;have c5:=h.ah (!i)
  have s1:=h.gu i
  have s2:=h.vu (!i)
  have s3:=h.vt (!i)
  have s4:=sumTo_sub (f:=fun j=>((P.s (!i)).x j).giv.used) (g:=fun j=>tkS ((P.s (!i)).x j)) (n:=NS)
  have s5:sumTo (fun j=>un ((P.s (!i)).x j)) NS=(P.s (!i)).giv.used-(P.s (!i)).giv.taken:=by rw[s2,s3];exact s4
  rw[s5]
  by_cases hb:∃j:Int,0≤j∧j<NS∧((P.s (!i)).x j).giv.used<((P.s i).x j).got.used
  ·exfalso
   obtain⟨j,j0,j1,j2⟩:=hb
   rcases h.dir i j j0 with⟨k2,r2,f2,g2⟩|⟨r2,g2⟩|⟨k2,r2,f2,g2⟩|g2
   ·have hj:(P.s i).has j:=by
     by_cases e:(P.s i).has j
     ·exact e
     ·have:=hz j j0 e;have:=g2.vu;omega
    have hv:=g2.vu
    have hgu:=g2.gu;have hc:=g2.cr.a;have hcg:=hcr.a
    rcases g2.st with⟨e,_⟩|⟨e,_⟩|⟨e1,e2⟩
    ·have hl:liveS ((P.s i).x j).send=true:=by rw[e];rfl
     refine hd.n j hj hl _ g2.out ?_
     rcases bufG_next (t:=P.wr i j) (k:=k2) (f:=f2) (e:=false) (most:=most) (lim:=((P.s i).x j).got.used+min ((P.s i).x j).got.room (P.s i).got.room) g2.hk hm with⟨_,q⟩|⟨q,q2,_⟩
     ·unfold GotM.room roomM at q;omega
     ·rw[q2]
    ·have hl:liveS ((P.s i).x j).send=true:=by rw[e];rfl
     refine hd.n j hj hl _ g2.out ?_
     rcases bufG_next (t:=P.wr i j) (k:=k2) (f:=f2) (e:=false) (most:=most) (lim:=((P.s i).x j).got.used+min ((P.s i).x j).got.room (P.s i).got.room) g2.hk hm with⟨_,q⟩|⟨q,q2,_⟩
     ·unfold GotM.room roomM at q;omega
     ·rw[q2]
    ·exact hd.r j hj ⟨e2,e1⟩
   ·have:=g2.gu;have:=g2.vu;omega
   ·have:=g2.vu;omega
   ·have:=g2.gu;have:=g2.vu;omega
  ·have s6:=sumTo_le (f:=fun j=>((P.s i).x j).got.used) (g:=fun j=>((P.s (!i)).x j).giv.used) (n:=NS) fun j j0 j1=>by
    have:¬((P.s (!i)).x j).giv.used<((P.s i).x j).got.used:=fun e=>hb ⟨j,j0,j1,e⟩
    (try dsimp only)
    omega
   omega
end Go.Proofs.YtnlaffkihohfkaaGreat
namespace Go.Proofs.YtnlaffkihohfkaaGreat
open Go Go.Sl Go.Proofs
variable {B:Nat}{w0:World}{G:List Hp}{R:Hp→List Hp}
theorem Quiet.data {P:PrM}{i:Bool}{most:Int}(h:Quiet P i most):NoData P i most:=⟨fun id hid=>(next_not (h.n id hid)).1,fun id hid=>(next_not (h.n id hid)).2.2.2⟩
theorem Quiet.want {P:PrM}{i:Bool}{most:Int}(h:Quiet P i most)(hz:∀j,0≤j→¬(P.s i).has j→¬(((P.s i).x j).recv=1∧((P.s i).x j).giv.wants=true)):NoWant P i:=⟨h.g,fun j j0=>by
 by_cases e:(P.s i).has j
 ·exact(next_not (h.n j e)).2.2.1
 ·exact hz j j0 e⟩
theorem NoData.still {P Q:PrM}{i:Bool}{most:Int}(h:NoData P i most)(s:Still P Q):NoData Q i most:=
 ⟨fun id hid=>by rw[s.x];exact h.r id ((s.k i).has.1 hid),fun id hid=>by rw[s.x,s.got];exact h.n id ((s.k i).has.1 hid)⟩
theorem NoWant.still {P Q:PrM}{i:Bool}(h:NoWant P i)(s:Still P Q):NoWant Q i:=⟨by rw[s.giv];exact h.g,fun j j0=>by rw[s.x];exact h.n j j0⟩
theorem NoData.snd {P Q:PrM}{i:Bool}{most:Int}(h:NoData P i most)(s:SndE P Q i)(k:SameK (P.s i) (Q.s i)):NoData Q i most:=
 ⟨fun id hid=>by
  obtain⟨a,b,c,d⟩:=s.x id
  rw[a,d];exact h.r id (k.has.1 hid),fun id hid=>by
  obtain⟨a,b,c,d⟩:=s.x id
  rw[a,b,c,s.got];exact h.n id (k.has.1 hid)⟩
theorem takes_drop {P Q:PrM}{D one many:Int}{n:Nat}{i:Bool}{l:List Int}(t:Tks i 50 P l Q)(h:Inv P D one many n)(hl:l.Nodup∧∀id,id∈l↔(P.s i).has id)(hz:∀j,0≤j→¬(P.s i).has j→un ((P.s i).x j)=0)(h5:5≤sumTo (fun j=>min 50 (un ((P.s i).x j))) NS):Q.phi D+30≤P.phi D:=by
 obtain⟨_,_,_,_,_,hd⟩:=t.drop (D':=D) h (by decide) (fun id hid=>(hl.2 id).1 hid) hl.1
 have hs:=sumL_all (f:=fun j=>min 50 (un ((P.s i).x j))) (n:=NS) hl.1 (fun j hj=>h.has_lt ((hl.2 j).1 hj)) fun j j0 _ hj=>by
  rw[hz j j0 fun e=>hj ((hl.2 j).2 e)]
  rfl
 omega
theorem takes_le {P Q:PrM}{D one many:Int}{n:Nat}{i:Bool}{l:List Int}(t:Tks i 50 P l Q)(h:Inv P D one many n)(hl:l.Nodup∧∀id,id∈l↔(P.s i).has id)(hz:∀j,0≤j→¬(P.s i).has j→un ((P.s i).x j)=0):Q.phi D≤P.phi D:=by
 obtain⟨_,_,_,_,_,hd⟩:=t.drop (D':=D) h (by decide) (fun id hid=>(hl.2 id).1 hid) hl.1
 have hs:=sumL_all (f:=fun j=>min 50 (un ((P.s i).x j))) (n:=NS) hl.1 (fun j hj=>h.has_lt ((hl.2 j).1 hj)) fun j j0 _ hj=>by
  rw[hz j j0 fun e=>hj ((hl.2 j).2 e)]
  rfl
 have:=sumTo_nn (f:=fun j=>min 50 (un ((P.s i).x j))) (n:=NS) fun j j0 _=>by
  have:=h.un_nn (i:=i) j0
  (try dsimp only)
  omega
 omega
theorem waits_same {x x':SmM}(h1:x'.send=x.send)(h2:x'.out=x.out)(h3:x'.resets=x.resets):x'.waits=x.waits:=by
 rw[SmM.waits_eq,SmM.waits_eq,h1,h2,h3]
structure Away (P:PrM)(i:Bool):Prop where
 u:∀j,0≤j→¬(P.s i).has j→un ((P.s i).x j)=0
 g:∀j,0≤j→¬(P.s i).has j→((P.s i).x j).got.used=0
 w:∀j,0≤j→¬(P.s i).has j→¬(((P.s i).x j).recv=1∧((P.s i).x j).giv.wants=true)
theorem round {S0 S1 S2 S3 S4:PrM}{D one many:Int}{n m:Nat}{most:Int}{l0 l1:List Int}(p0:PumpR false most true m S0 S1)(t0:Tks false 50 S1 l0 S2)(p1:PumpR true most true m S2 S3)(t1:Tks true 50 S3 l1 S4)
  (r0:Rd3 S0 D one many n false) (nm:S2.Nm true) (hD:400≤D) (hm:5≤most) (h0:0<m) (hl0:l0.Nodup∧∀id,id∈l0↔(S1.s false).has id) (hl1:l1.Nodup∧∀id,id∈l1↔(S3.s true).has id)
  (a0:Away S0 false) (a1:∀i,Away S1 i) (a2:Away S2 true) (a3:∀i,Away S3 i):
  S4.phi D+30≤S0.phi D∨(S4.phi D≤S0.phi D∧∀i id,(S0.s i).has id→((S0.s i).x id).waits=false):=by
 obtain⟨r1,d0⟩:=p0.drop r0 zom hm h0
 obtain⟨i2,k2,n2,s2,_,_⟩:=t0.drop (D':=D) r1.h (by decide) (fun id hid=>(hl0.2 id).1 hid) hl0.1
 have e2:=takes_le t0 r1.h hl0 (a1 false).u
 obtain⟨r3,d1⟩:=p1.drop ⟨i2,nm,n2.ah r1.ah⟩ zom hm h0
 have e4:=takes_le t1 r3.h hl1 (a3 true).u
 by_cases hmain:S4.phi D+30≤S0.phi D
 ·exact .inl hmain
 have b0:S1.phi D≤S0.phi D:=by
  rcases d0 with d|⟨d,_⟩
  ·omega
  ·rw[d.phi];exact Int.le_refl _
 have b1:S3.phi D≤S2.phi D:=by
  rcases d1 with d|⟨d,_⟩
  ·omega
  ·rw[d.phi];exact Int.le_refl _
 obtain⟨st0,q0⟩:Still S0 S1∧Quiet S0 false most:=d0.resolve_left zom
 obtain⟨st1,q1⟩:Still S2 S3∧Quiet S2 true most:=d1.resolve_left zom
 refine .inr ⟨by omega,fun i id hid=>?_⟩
 cases hw:((S0.s i).x id).waits with
 |false=>rfl
 |true=>
  exfalso
  cases i with
  |true=>
   have es:S2.s true=S1.s true:=s2.n
   have nd:NoData S1 true most:=⟨fun j hj=>by rw[←es];exact q1.data.r j (by rw[es];exact hj),fun j hj=>by rw[←es];exact q1.data.n j (by rw[es];exact hj)⟩
   have h5:=r1.h.starve (i:=true) (id:=id) hD r1.ah zom nd ((q0.want a0.w).still st0) (a1 true).g ((st0.k true).has.2 hid) (by rw[st0.x];exact hw)
   have:=takes_drop t0 r1.h hl0 (a1 false).u h5
   omega
  |false=>
   have nd:NoData S3 false most:=((q0.data.still st0).snd s2 k2).still st1
   obtain⟨x1,x2,x3,x4⟩:=s2.x id
   have hw3:((S3.s false).x id).waits=true:=by
    rw[st1.x,waits_same x1 x2 x4,st0.x];exact hw
   have h5:=r3.h.starve (i:=false) (id:=id) hD r3.ah zom nd ((q1.want a2.w).still st1) (a3 false).g ((st1.k false).has.2 (k2.has.2 ((st0.k false).has.2 hid))) hw3
   have:=takes_drop t1 r3.h hl1 (a3 true).u h5
   omega
end Go.Proofs.YtnlaffkihohfkaaGreat
