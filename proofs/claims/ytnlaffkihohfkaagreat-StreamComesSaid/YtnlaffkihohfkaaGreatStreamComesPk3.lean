/- What the methods of outbuf.Buffer do, each as a contract. Conditions: numbers fit their types, no more bytes than a buffer holds. What Next, Sent, Came and Lost of outbuf.Buffer do, each as a contract. Conditions: numbers fit their types, no more bytes than a buffer holds. What Sent, Came and Lost of outbuf.Buffer do, each as a contract. Conditions: numbers fit their types, no more bytes than a buffer holds. What Came and Lost of outbuf.Buffer do, each as a contract. Conditions: numbers fit their types, no more bytes than a buffer holds. Lists of bytes given by whole numbers, and []byte of a []byte. Conditions: none. The laws of package outbuf: their fixed fact. Conditions: none. A buffer for bytes that are sent, against a list of places: plain facts. Conditions: none. Maps with whole numbers as keys: what a map object holds, how it is read, written, made. Conditions: none; nothing here speaks of a given program. make([]T, n): a list of zeros. Conditions: none; nothing here speaks of a given program. What the methods of inbuf.Buffer do, each as a contract. Conditions: numbers fit their types. What End, Add and Read of inbuf.Buffer do, each as a contract. Conditions: numbers fit their types, no byte that came comes as another one. What Read of inbuf.Buffer does, as a contract. Conditions: numbers fit their types. An argument that is a list of bytes. Conditions: none. The laws of package inbuf: their fixed fact; buffers of one text. Conditions: none. Whole numbers of 64 bits as -/
import Derived.Test.YtnlaffkihohfkaaGreatStreamComesPk2
set_option maxRecDepth 20000
set_option linter.unusedVariables false
set_option linter.unusedSimpArgs false
namespace Go.Proofs.YtnlaffkihohfkaaGreat
open Go Go.Sl Go.Proofs
variable {B:Nat}{w0:World}{G:List Hp}{R:Hp→List Hp}
theorem u8Ty:EncTy Tryz.prog 5 enB:=enB_ty Ty.sc5
theorem cw_split4 {P:Program}{Q:Exit→Act→World→Prop}{B:Nat}{w0:World}{N:Nat}{E:Env}{k:Code}{a b d e:Hp}{F:List Hp}(h:CW P Q B w0 N (a::b::d::e::F) E k):CW P Q B w0 N ((a++(b++(d++e)))::F) E k:=cw_flat (a::b::d::e::F) (.of_eq (by simp)) h
theorem cloneB_c {ao:Option Addr}{n cap:Nat}{l:List UInt8}(hV:Vw enB (St B w0 G) (.slice ao n cap) l)(hb:l.length≤100000000):
  Go.Sl.Fn Tryz.prog 87 #[.slice ao n cap] B w0 G fun u G'=>∃x:Option Addr×Nat×Hp,u=.slice x.1 l.length x.2.1∧Ls enB 5 (.slice x.1 l.length x.2.1) x.2.2 l∧G'=[x.2.2]++G:=by
 refine Fn.new ?_
 have hn:=hV.len
 refine fn_enter Tryz.func87 rfl (by kernel_rfl) Tryz.ntmps87 (by simp) ?_
 refine qs<|qa<|qt<|cw_seq<|qs<|qm<|qv (v_eql_slnil Tryz.underlying28 rfl)<|qt ?_
 refine cw_bool rfl (fun hc4=>?_) (fun hc4=>?_)
 refine qs<|qa<|qt<|cw_ret<|xw_then_ret<|ret1 rfl (res_tmp rfl) ?_
 rotate_left
 refine cw_skip<|xw_then<|qs ?_
 (refine ow_buildL (es:=[]) rfl rfl Tryz.underlying28 Ty.em28 (u8Ty) rfl rfl (by first|(simp[*];done)|(repeat (first|exact List.forall_mem_nil _|refine List.forall_mem_cons.2 ⟨?_,?_⟩|assumption|(show _∧_;omega)))) (by simp only[List.length_cons,List.length_nil];decide) ?_;intro ao5 c5 hL5)
 refine qm ?_
 (refine ow_appendL rfl rfl Tryz.underlying28 Tryz.underlying28 Ty.em28 (u8Ty) rfl rfl zas zsel (hV.there) zlo zlo ?_;intro ao7 cap7 c7 hL7)
 refine qa<|qt<|cw_ret<|ret1 rfl (res_tmp rfl) ?_
 rotate_left
 ·have hao:ao=none:=by simpa using hc4
  have hl:l=[]:=by
   cases l with
   |nil=>rfl
   |cons a l=>have:=(hV.get _ _ _ rfl (by simp)).1;rw[hao]at this;simp at this
  subst hl
  exact⟨(none,0,[]),rfl,Ls.nil,zcov⟩
 ·exact⟨(ao7,cap7,c7),by simp,by simpa using hL7,zcov⟩
structure BufM where
 data:List UInt8
 base:Int
 pend:List Rg
 came:List Rg
 fin:Bool
 waits:Bool
 endCame : Bool
def OutAt (m:BufM)(b:Nat)(c:Hp):Prop:=∃ao cap bp bc cd cp cc,c=[(b,.cells [.slice ao m.data.length cap,.int .u64 m.base,.pointer (some ⟨bp,0,none⟩),.pointer (some ⟨bc,0,none⟩),.bool m.fin,.bool m.waits,.bool m.endCame].toArray 131 (0,0))]++(cd++(cp++cc))∧Ls enB 5 (.slice ao m.data.length cap) cd m.data∧SetAt ⟨65536,m.pend⟩ bp cp∧SetAt ⟨65536,m.came⟩ bc cc
theorem OutAt.of {m:BufM}{b bp bc cap:Nat}{ao:Option Addr}{d:List UInt8}{base:Int}{p k:List Rg}{f w e:Bool}{cd cp cc:Hp}(hL:Ls enB 5 (.slice ao d.length cap) cd d)(hP:SetAt ⟨65536,p⟩ bp cp)(hC:SetAt ⟨65536,k⟩ bc cc)(h:m=⟨d,base,p,k,f,w,e⟩):OutAt m b ([(b,.cells [.slice ao d.length cap,.int .u64 base,.pointer (some ⟨bp,0,none⟩),.pointer (some ⟨bc,0,none⟩),.bool f,.bool w,.bool e].toArray 131 (0,0))]++(cd++(cp++cc))):=by
 subst h
 exact⟨ao,cap,bp,bc,cd,cp,cc,rfl,hL,hP,hC⟩
structure BufM.WF (m:BufM):Prop where
 low:0≤m.base
 top:m.base+m.data.length≤65536
 gp:Good m.pend
 gc:Good m.came
 ip:∀n,InR m.pend n→0≤n∧n<m.base+m.data.length
 ic:∀n,InR m.came n→0≤n∧n<m.base+m.data.length
 dis:∀n,InR m.pend n→¬InR m.came n
 gone:∀n,0≤n→n<m.base→InR m.came n
 max_:¬InR m.came m.base
theorem BufM.WF.lp {m:BufM}(h:m.WF):(m.pend.length:Int)≤65536:=by
 have:=good_len' (u:=0) h.gp (by have:=h.low;omega) h.ip
 have:=h.top
 omega
theorem BufM.WF.lc {m:BufM}(h:m.WF):(m.came.length:Int)≤65536:=by
 have:=good_len' (u:=0) h.gc (by have:=h.low;omega) h.ic
 have:=h.top
 omega
theorem BufM.WF.sp {m:BufM}(h:m.WF):(⟨65536,m.pend⟩:SetM).WF:=⟨h.gp,by have:=h.lp;dsimp only;omega,by dsimp only;omega⟩
theorem BufM.WF.sc {m:BufM}(h:m.WF):(⟨65536,m.came⟩:SetM).WF:=⟨h.gc,by have:=h.lc;dsimp only;omega,by dsimp only;omega⟩
def buf0:BufM:=⟨[],0,[],[],false,false,false⟩
theorem b_buf0:Build Tryz.prog 131 #[] (.agg [Value.slice none 0 0,.int .u64 0,.pointer none,.pointer none,.bool false,.bool false,.bool false].toArray):=fun w=>by kernel_rfl
theorem outOpen0_c {b:Nat}(hsel:Sel G [(b,.cells [Value.slice none 0 0,.int .u64 0,.pointer none,.pointer none,.bool false,.bool false,.bool false].toArray 131 (0,0))] R):
  Go.Sl.Fn Tryz.prog 76 #[.pointer (some ⟨b,0,none⟩)] B w0 G fun u G'=>∃c:Hp,u=.tuple #[]∧OutAt buf0 b c∧G'=R c:=by
 refine Fn.sel0 hsel fun F hR hF=>?_
 refine fn_enter Tryz.func76 rfl (by kernel_rfl) Tryz.ntmps76 (by simp) ?_
 refine qs<|qm<|qn<|qf Ty.fd131_2<|ql (Var.at1 Ty.sc129 .here (GetN.lit rfl))<|qv (v_eql_nil_none Tryz.underlying129 rfl)<|qt<|cw_true rfl<|qs<|qm ?_
 (refine ow_call rfl rfl rfl rfl (newSet_c) ?_;rintro _ _ ⟨x8,rfl,hq8,rfl⟩)
 refine qn<|qf Ty.fd131_2<|ow_store1 rfl rfl rfl rfl Ty.sc129 (.there .here) (SetN.one zdn)<|qt<|cw_region<|qm ?_
 (refine ow_call rfl rfl rfl rfl (newSet_c) ?_;rintro _ _ ⟨x12,rfl,hq12,rfl⟩)
 refine qn<|qf Ty.fd131_3<|ow_store1 rfl rfl rfl rfl Ty.sc129 (.there (.there .here)) (SetN.one zdn)<|ow_nil<|ret0n rfl ?_
 exact⟨[(b,.cells [Value.slice none 0 0,.int .u64 0,.pointer (some ⟨x8.1,0,none⟩),.pointer (some ⟨x12.1,0,none⟩),.bool false,.bool false,.bool false].toArray 131 (0,0))]++([]++(x8.2++x12.2)),rfl,⟨none,0,x8.1,x12.1,[],x8.2,x12.2,rfl,Ls.nil,hq8,hq12⟩,zcov⟩
theorem newOut_c:
  Go.Sl.Fn Tryz.prog 73 #[] B w0 G fun u G'=>∃x:Nat×Hp,u=.pointer (some ⟨x.1,0,none⟩)∧OutAt buf0 x.1 x.2∧G'=[x.2]++G:=by
 refine Fn.new ?_
 refine fn_enter Tryz.func73 rfl (by kernel_rfl) Tryz.ntmps73 (by simp) ?_
 refine qs<|qa<|qt<|qs<|qv (v_build rfl (b_buf0))<|ow_box rfl rfl rfl rfl fun b3=>qa<|qt<|qs<|qm ?_
 (refine ow_call rfl rfl rfl rfl (outOpen0_c zsel) ?_;rintro _ _ ⟨x5,rfl,hq5,rfl⟩)
 refine qt<|qs<|qm<|qa<|qt<|cw_ret<|ret1 rfl (res_tmp rfl) ?_
 exact⟨(b3,x5),rfl,hq5,zcov⟩
theorem outOpen_c {m:BufM}{b:Nat}{c:Hp}(hO:OutAt m b c)(hs:Sub c G):
  Go.Sl.Fn Tryz.prog 76 #[.pointer (some ⟨b,0,none⟩)] B w0 G fun u G'=>u=.tuple #[]∧G'=G:=by
 refine Fn.pure ?_
 obtain⟨ao,cap,bp,bc,cd,cp,cc,rfl,hL,hP,hC⟩:=hO
 have hs1:=hs.left
 refine fn_enter Tryz.func76 rfl (by kernel_rfl) Tryz.ntmps76 (by simp) ?_
 refine qs<|qm<|qn<|qf Ty.fd131_2<|ql (Var.sub1 Ty.sc129 zthr (.head _) (GetN.lit rfl))<|qv (v_eql_nil_some Tryz.underlying129 rfl)<|qt<|cw_false rfl<|cw_skip<|ret0n rfl ?_
 exact⟨rfl,zcov⟩
theorem outStop_c {m:BufM}{b:Nat}{c:Hp}(hO:OutAt m b c)(hs:Sub c G)(hw:m.WF):
  Go.Sl.Fn Tryz.prog 66 #[.pointer (some ⟨b,0,none⟩)] B w0 G fun u G'=>u=.int .u64 (m.base+m.data.length)∧G'=G:=by
 refine Fn.pure ?_
 obtain⟨ao,cap,bp,bc,cd,cp,cc,rfl,hL,hP,hC⟩:=hO
 have hs1:=hs.left
 have h1:=hw.low
 have h2:=hw.top
 refine fn_enter Tryz.func66 rfl (by kernel_rfl) Tryz.ntmps66 (by simp) ?_
 refine qs<|qa<|qt<|cw_seq<|qs<|qm<|qv (v_eql_nil_some Tryz.underlying49 rfl)<|qt<|cw_false rfl<|cw_skip<|xw_then<|cw_seq ?_
 refine cw_quiet Ty.mixed zdk<|kmv<|kv (v_nilCheck rfl)<|kv (v_fieldAddr0 Ty.fd131_1 rfl)<|kv (v_load rfl (Var.sub1 Ty.sc27 zthr (.head _) (GetN.lit rfl)))<|kmv<|kv (v_nilCheck rfl)<|kv (v_fieldAddr0 Ty.fd131_0 rfl)<|kv (v_load rfl (Var.sub1 Ty.sc28 zthr (.head _) (GetN.lit rfl)))<|kv (v_len rfl Tryz.underlying28 rfl)<|kv (v_convert Tryz.underlying3 Tryz.underlying27 rfl (nw_u64 zom zom))<|kv (v_add rfl rfl (nw_u64 zom zom)) ?_
 refine kv (v_assign rfl)<|kw_nil<|xw_then<|cw_ret<|ret1 rfl (res_tmp rfl) ?_
 exact⟨rfl,zcov⟩
theorem outWaits_c {m:BufM}{b:Nat}{c:Hp}(hO:OutAt m b c)(hs:Sub c G)(hw:m.WF):
  Go.Sl.Fn Tryz.prog 39 #[.pointer (some ⟨b,0,none⟩)] B w0 G fun u G'=>u=.bool (m.waits||decide (0<m.pend.length))∧G'=G:=by
 refine Fn.pure ?_
 obtain⟨ao,cap,bp,bc,cd,cp,cc,rfl,hL,hP,hC⟩:=hO
 have hs1:=hs.left
 have hsp:=hs.right.right.left
 refine fn_enter Tryz.func39 rfl (by kernel_rfl) Tryz.ntmps39 (by simp) ?_
 refine qs ?_
 refine qa ?_
 refine qt ?_
 refine qs ?_
 refine qm ?_
 refine qv (v_neq_nil_some Tryz.underlying49 rfl) ?_
 refine qm ?_
 refine qm ?_
 refine qn ?_
 refine qf Ty.fd131_5 ?_
 refine ql (Var.sub1 Ty.sc4 zthr (.head _) (GetN.lit rfl)) ?_
 refine qm ?_
 refine ow_bool 10 rfl (fun hc10=>?_) (fun hc10=>?_)
 refine qk ?_
 refine qk ?_
 refine qk ?_
 refine qk ?_
 refine qk ?_
 refine qk ?_
 refine qv (v_pick_true rfl rfl) ?_
 refine qv (v_pick_true rfl rfl) ?_
 refine qa ?_
 refine qt ?_
 refine cw_ret ?_
 refine ret1 rfl (res_tmp rfl) ?_
 rotate_left
 refine qm ?_
 refine qn ?_
 refine qf Ty.fd131_2 ?_
 refine ql (Var.sub1 Ty.sc129 zthr (.head _) (GetN.lit rfl)) ?_
 refine qv (v_call rfl rfl (setLen_l hP hsp)) ?_
 refine qv (v_gtr rfl rfl) ?_
 refine qv (v_pick_false rfl rfl) ?_
 refine qv (v_pick_true rfl rfl) ?_
 refine qa ?_
 refine qt ?_
 refine cw_ret ?_
 refine ret1 rfl (res_tmp rfl) ?_
 rotate_left
 ·exact⟨by rw[hc10];rfl,zcov⟩
 ·exact⟨by rw[hc10];congr 1;simp,zcov⟩
theorem outDone_c {m:BufM}{b:Nat}{c:Hp}(hO:OutAt m b c)(hs:Sub c G)(hw:m.WF):
  Go.Sl.Fn Tryz.prog 63 #[.pointer (some ⟨b,0,none⟩)] B w0 G fun u G'=>u=.bool (m.endCame&&decide (m.data.length=0))∧G'=G:=by
 refine Fn.pure ?_
 obtain⟨ao,cap,bp,bc,cd,cp,cc,rfl,hL,hP,hC⟩:=hO
 have hs1:=hs.left
 refine fn_enter Tryz.func63 rfl (by kernel_rfl) Tryz.ntmps63 (by simp) ?_
 refine qs<|qa<|qt<|qs<|qm<|qv (v_neq_nil_some Tryz.underlying49 rfl)<|qm<|qm<|qn<|qf Ty.fd131_6<|ql (Var.sub1 Ty.sc4 zthr (.head _) (GetN.lit rfl))<|qv (v_pick_true rfl rfl) ?_
 refine qm ?_
 refine ow_bool 11 rfl (fun hc11=>?_) (fun hc11=>?_)
 refine qm<|qn<|qf Ty.fd131_0<|ql (Var.sub1 Ty.sc28 zthr (.head _) (GetN.lit rfl))<|qv (v_len rfl Tryz.underlying28 rfl)<|qv (v_eql rfl rfl)<|qv (v_pick_true rfl rfl)<|qa<|qt<|cw_ret<|ret1 rfl (res_tmp rfl) ?_
 rotate_left
 refine qk<|qk<|qk<|qk<|qk<|qk<|qv (v_pick_false rfl rfl)<|qa<|qt<|cw_ret<|ret1 rfl (res_tmp rfl) ?_
 rotate_left
 ·exact⟨by rw[hc11];congr 1;simp,zcov⟩
 ·exact⟨by rw[hc11];rfl,zcov⟩
theorem outPlaces_c {m:BufM}{b:Nat}{c:Hp}(hO:OutAt m b c)(hs:Sub c G)(hw:m.WF):
  Go.Sl.Fn Tryz.prog 64 #[.pointer (some ⟨b,0,none⟩)] B w0 G fun u G'=>u=.tuple #[.int .u64 m.base,.int .u64 (cntR m.pend),.bool m.fin]∧G'=G:=by
 refine Fn.pure ?_
 obtain⟨ao,cap,bp,bc,cd,cp,cc,rfl,hL,hP,hC⟩:=hO
 have hs1:=hs.left
 have hsp:=hs.right.right.left
 refine fn_enter Tryz.func64 rfl (by kernel_rfl) Tryz.ntmps64 (by simp) ?_
 refine qs<|qa<|qa<|qa<|qt<|cw_seq<|qs<|qm<|qv (v_eql_nil_some Tryz.underlying49 rfl)<|qt<|cw_false rfl<|cw_skip ?_
 refine xw_then<|cw_seq<|cw_quiet Ty.mixed zdk<|kmv<|kv (v_nilCheck rfl)<|kv (v_fieldAddr0 Ty.fd131_1 rfl)<|kv (v_load rfl (Var.sub1 Ty.sc27 zthr (.head _) (GetN.lit rfl)))<|kmv<|kv (v_nilCheck rfl)<|kv (v_fieldAddr0 Ty.fd131_2 rfl)<|kv (v_load rfl (Var.sub1 Ty.sc129 zthr (.head _) (GetN.lit rfl)))<|kv (v_call rfl rfl (setCount_l hP hsp hw.sp)) ?_
 refine kmv<|kv (v_nilCheck rfl)<|kv (v_fieldAddr0 Ty.fd131_4 rfl)<|kv (v_load rfl (Var.sub1 Ty.sc4 zthr (.head _) (GetN.lit rfl)))<|kv (v_assign rfl)<|kv (v_assign rfl)<|kv (v_assign rfl)<|kw_nil<|xw_then<|cw_ret<|ret3 rfl (res_tmp rfl) (res_tmp rfl) (res_tmp rfl) ?_
 exact⟨rfl,zcov⟩
def BufM.finish (m:BufM):BufM:=if m.fin=true then m else {m with fin:=true,waits:=true}
theorem outFinish_c {m:BufM}{b:Nat}{c:Hp}(hsel:Sel G c R)(hO:OutAt m b c):
  Go.Sl.Fn Tryz.prog 49 #[.pointer (some ⟨b,0,none⟩)] B w0 G fun u G'=>∃c':Hp,u=.int .i64 (if m.fin=true then 19 else 0)∧OutAt m.finish b c'∧G'=R c':=by
 refine Fn.sel0 hsel fun F hR hF=>?_
 obtain⟨ao,cap,bp,bc,cd,cp,cc,rfl,hL,hP,hC⟩:=hO
 refine fn_enter Tryz.func49 rfl (by kernel_rfl) Tryz.ntmps49 (by simp) ?_
 refine cw_split4 ?_
 refine qs<|qa<|qt<|cw_seq<|qs<|qm<|qv (v_eql_nil_some Tryz.underlying49 rfl)<|qt<|cw_false rfl<|cw_skip<|xw_then<|cw_seq ?_
 refine qs<|qm<|qn<|qf Ty.fd131_4<|ql (Var.at1 Ty.sc4 .here (GetN.lit rfl))<|qt ?_
 refine cw_bool rfl (fun hc8=>?_) (fun hc8=>?_)
 refine qs<|qa<|qt<|cw_ret<|xw_then_ret<|ret1 rfl (res_tmp rfl) ?_
 rotate_left
 refine cw_skip<|xw_then<|qs<|qm<|qm<|qn<|qf Ty.fd131_4<|ow_store1 rfl rfl rfl rfl Ty.sc4 .here (SetN.one zdn)<|qn<|qf Ty.fd131_5<|ow_store1 rfl rfl rfl rfl Ty.sc4 .here (SetN.one zdn)<|qt ?_
 refine qs<|qa<|qt<|cw_ret<|ret1 rfl (res_tmp rfl) ?_
 rotate_left
 ·rw[if_pos hc8,show m.finish=m from if_pos hc8]
  exact⟨_,rfl,⟨ao,cap,bp,bc,cd,cp,cc,rfl,hL,hP,hC⟩,zcov⟩
 ·rw[if_neg (by simp[hc8]),show m.finish={m with fin:=true,waits:=true} from if_neg (by simp[hc8])]
  exact⟨_,rfl,⟨ao,cap,bp,bc,cd,cp,cc,rfl,hL,hP,hC⟩,zcov⟩
def BufM.write (m:BufM)(l:List UInt8):BufM:={m with data:=m.data++l,pend:=addE m.pend ⟨m.base+m.data.length,m.base+m.data.length+l.length⟩}
theorem outWrite_c {m:BufM}{b:Nat}{c:Hp}{ao2:Option Addr}{n cap2:Nat}{l:List UInt8}(hsel:Sel G c R)(hO:OutAt m b c)(hw:m.WF)(hV:Vw enB (St B w0 G) (.slice ao2 n cap2) l)(hl:m.base+m.data.length+l.length≤65536):
  Go.Sl.Fn Tryz.prog 48 #[.pointer (some ⟨b,0,none⟩),.slice ao2 n cap2] B w0 G fun u G'=>∃c':Hp,u=.tuple #[.int .i64 (if m.fin=true then 0 else (l.length:Int)),.int .i64 (if m.fin=true then 19 else 0)]∧OutAt (if m.fin=true then m else m.write l) b c'∧G'=R c':=by
 refine Fn.sel0 hsel fun F hR hF=>?_
 have hV:=hV.mono hF
 have hO':=hO
 obtain⟨ao,cap,bp,bc,cd,cp,cc,rfl,hL,hP,hC⟩:=hO
 have hn:=hV.len
 subst hn
 obtain⟨ao3,cap3,he3,hcap⟩:=hV.view
 injection he3 with he4 he5 he6
 subst he4 he6
 have h1:=hw.low
 have hLw:=capLe hL
 have h5:(⟨m.base+m.data.length,m.base+m.data.length+l.length⟩:Rg).b≤65536:=hl
 have hrg:RgIn ⟨m.base+m.data.length,m.base+m.data.length+l.length⟩:=⟨by dsimp only;omega,by dsimp only;omega⟩
 obtain⟨g1,g2,g3⟩:=add_fits (v:=65536) hw.gp hrg zom (fun n hn=>by have:=hw.ip n hn;omega) h5
 refine fn_enter Tryz.func48 rfl (by kernel_rfl) Tryz.ntmps48 (by simp) ?_
 refine cw_split4 ?_
 refine qs<|qa<|qa<|qt<|cw_seq<|qs<|qm ?_
 refine qv (v_eql_nil_some Tryz.underlying49 rfl)<|qt ?_
 refine cw_false rfl<|cw_skip<|xw_then ?_
 refine cw_seq<|qs<|qm<|qn ?_
 refine qf Ty.fd131_4 ?_
 refine ql (Var.at1 Ty.sc4 .here (GetN.lit rfl))<|qt ?_
 refine cw_bool rfl (fun hc13=>?_) (fun hc13=>?_)
 refine qs<|qa<|qa<|qt ?_
 refine cw_ret ?_
 refine xw_then_ret ?_
 refine ret2 rfl (res_tmp rfl) (res_tmp rfl) ?_
 rotate_left
 refine cw_skip<|xw_then<|qs<|qm ?_
 refine qv (v_len rfl Tryz.underlying28 rfl)<|qm<|qn ?_
 refine qf Ty.fd131_0 ?_
 refine ql (Var.at1 Ty.sc28 .here (GetN.lit rfl)) ?_
 refine qv (v_len rfl Tryz.underlying28 rfl) ?_
 refine qv (v_sub rfl rfl (nw_i64 zom zom)) ?_
 refine qv (v_min rfl rfl) ?_
 refine qa<|qt ?_
 rotate_left
 ·rw[if_pos hc13,if_pos hc13,if_pos hc13]
  exact⟨_,rfl,⟨ao,cap,bp,bc,cd,cp,cc,rfl,hL,hP,hC⟩,zcov⟩
 rw[if_neg (by simp[hc13]),if_neg (by simp[hc13]),if_neg (by simp[hc13])]
 have hmin:min (l.length:Int) (65536-(m.data.length:Int))=(l.length:Int):=by omega
 rw[hmin]
 refine cw_seq<|qs<|qm ?_
 refine qv (v_gtr rfl rfl)<|qt ?_
 refine cw_dec rfl (fun hc24=>?_) (fun hc24=>?_)
 refine qs<|qm ?_
 refine ow_val rfl rfl (v_call rfl rfl (outOpen_c hO' (Sub.app zhas (Sub.app zhas (Sub.app zhas zhas))))) ?_
 refine qt<|qs<|qm ?_
 refine ow_val rfl rfl (v_call rfl rfl (outStop_c hO' (Sub.app zhas (Sub.app zhas (Sub.app zhas zhas))) hw)) ?_
 refine qa<|qt ?_
 rotate_left
 refine cw_skip<|xw_then<|qs<|qm<|qa<|qa<|qt ?_
 refine cw_ret ?_
 refine ret2 rfl (res_tmp rfl) (res_tmp rfl) ?_
 rotate_left
 ·refine cw_seq ?_
  refine cw_mix [] [8,9,10,11] [0,1,2,3,4,5,6,7] Ty.mixed rfl rfl rfl rfl zdk ?_
  refine hmv ?_
  refine hmv ?_
  refine hw_pure rfl rfl (v_nilCheck rfl) rfl ?_
  refine hw_pure rfl rfl (v_fieldAddr0 Ty.fd131_0 rfl) rfl ?_
  refine hw_read rfl rfl rfl (v_load rfl (Var.at1 Ty.sc28 .here (GetN.lit rfl))) ?_
  refine hmv ?_
  refine hmv ?_
  refine hw_pure rfl rfl (v_slice_nh Tryz.underlying28 Ty.el28 rfl rfl rfl zom) rfl ?_
  refine hw_nil ?_
  refine sw_nil ?_
  (refine ow_appendL rfl rfl Tryz.underlying28 Tryz.underlying28 Ty.em28 (u8Ty) rfl rfl zas zsel (hV.cov zcov) zlo zlo ?_;intro ao37 cap37 c37 hL37)
  refine qn ?_
  refine qf Ty.fd131_0 ?_
  refine ow_store1 rfl rfl rfl rfl Ty.sc28 .here (SetN.one zdn)<|ow_nil ?_
  refine xw_np<|xw_then ?_
  refine cw_mix [] [8] [0,1,2,3,4,5,6,7] Ty.mixed rfl rfl rfl rfl zdk ?_
  refine hmv ?_
  refine hw_pure rfl rfl (v_nilCheck rfl) rfl ?_
  refine hw_pure rfl rfl (v_fieldAddr0 Ty.fd131_2 rfl) rfl ?_
  refine hw_read rfl rfl rfl (v_load rfl (Var.at1 Ty.sc129 .here (GetN.lit rfl))) ?_
  refine hmv ?_
  refine hmv ?_
  have hw1:({m with data:=m.data++l}:BufM).WF:=⟨hw.low,by dsimp only;rw[List.length_append];omega,hw.gp,hw.gc,fun n hn=>by have:=hw.ip n hn;dsimp only;rw[List.length_append];omega,fun n hn=>by have:=hw.ic n hn;dsimp only;rw[List.length_append];omega,hw.dis,hw.gone,hw.max_⟩
  have hO1:OutAt {m with data:=m.data++l} b ([(b,.cells [.slice ao37 (m.data++l).length cap37,.int .u64 m.base,.pointer (some ⟨bp,0,none⟩),.pointer (some ⟨bc,0,none⟩),.bool m.fin,.bool m.waits,.bool m.endCame].toArray 131 (0,0))]++(c37++(cp++cc))):=⟨ao37,cap37,bp,bc,c37,cp,cc,rfl,hL37,hP,hC⟩
  have hst:∀{G:List Hp},Go.Sl.Sub ([(b,.cells [.slice ao37 (m.data++l).length cap37,.int .u64 m.base,.pointer (some ⟨bp,0,none⟩),.pointer (some ⟨bc,0,none⟩),.bool m.fin,.bool m.waits,.bool m.endCame].toArray 131 (0,0))]++(c37++(cp++cc))) G→Go.Sl.Fn Tryz.prog 66 #[.pointer (some ⟨b,0,none⟩)] B w0 G fun u G'=>u=.int .u64 (m.base+m.data.length+l.length)∧G'=G:=fun hs=>by
   have h:=outStop_c (B:=B) (w0:=w0) hO1 hs hw1
   rw[show m.base+(m.data.length:Int)+(l.length:Int)=m.base+((m.data++l).length:Int) from by rw[List.length_append];omega]
   exact h
  refine hw_read rfl rfl rfl (v_call rfl rfl (hst (Sub.app zhas (Sub.app zhas (Sub.app zhas zhas))))) ?_
  refine hw_pure rfl rfl (v_build rfl (b_rng)) rfl ?_
  refine hw_nil ?_
  refine sw_nil ?_
  (refine ow_call rfl rfl rfl rfl (setAddOk_l (r:=⟨m.base+m.data.length,m.base+m.data.length+l.length⟩) zsel hP hw.sp hrg zom) ?_;rintro _ _ ⟨x48,rfl,hq48,rfl⟩)
  refine ow_nil ?_
  refine xw_np<|xw_then<|qs<|qm<|qa<|qa<|qt ?_
  refine cw_ret ?_
  refine ret2 rfl (res_tmp rfl) (res_tmp rfl) ?_
  exact⟨_,rfl,OutAt.of hL37 hq48 hC rfl,zcov⟩
 ·have hl0:l=[]:=List.length_eq_zero_iff.1 zom
  subst hl0
  have hwr:m.write []=m:=by
   rw[BufM.write,List.append_nil]
   unfold addE
   rw[if_neg (by simp)]
  rw[hwr]
  exact⟨_,rfl,⟨ao,cap,bp,bc,cd,cp,cc,rfl,hL,hP,hC⟩,zcov⟩
end Go.Proofs.YtnlaffkihohfkaaGreat
namespace Go.Proofs.YtnlaffkihohfkaaGreat
open Go Go.Sl Go.Proofs
variable {B:Nat}{w0:World}{G:List Hp}{R:Hp→List Hp}
structure PartM where
 at_:Int
 data:List UInt8
 fin:Bool
structure PartV where
 at_:Int
 ao:Option Addr
 n:Nat
 cap:Nat
 fin:Bool
instance:Inhabited PartV:=⟨⟨0,none,0,0,false⟩⟩
def PartV.cells (p:PartV):List Value:=[.int .u64 p.at_,.slice p.ao p.n p.cap,.bool p.fin]
def enP:Enc PartV:=⟨PartV.cells,3,fun p=>.agg p.cells.toArray,fun _=>True⟩
theorem pTy:EncTy Tryz.prog 113 enP:=EncTy.agg Ty.ag113 (by decide) (fun _=>rfl) (fun _ _=>rfl) (fun a _ u hu=>by
 simp only[enP,PartV.cells,List.mem_cons,List.not_mem_nil,or_false]at hu
 rcases hu with rfl|rfl|rfl<;>rfl)
theorem b_part0:Build Tryz.prog 113 #[] (.agg (PartV.cells ⟨0,none,0,0,false⟩).toArray):=fun w=>by kernel_rfl
theorem b_part2 {n:Int}:Build Tryz.prog 113 #[(0,.int .u64 n),(2,.bool true)] (.agg (PartV.cells ⟨n,none,0,0,true⟩).toArray):=fun w=>by kernel_rfl
theorem b_part3 {n:Int}{ao:Option Addr}{k cap:Nat}{f:Bool}:Build Tryz.prog 113 #[(0,.int .u64 n),(1,.slice ao k cap),(2,.bool f)] (.agg (PartV.cells ⟨n,ao,k,cap,f⟩).toArray):=fun w=>by kernel_rfl
theorem okP (p:PartV):enP.ok p:=trivial
def BufM.next (m:BufM)(most limit:Int):PartM×Bool:=
 if most≤0 then (⟨0,[],false⟩,false)
 else if (firstR m.pend 0).2=false then (if m.waits=true then (⟨m.base+m.data.length,[],true⟩,true) else (⟨0,[],false⟩,false))
 else if min (firstR m.pend 0).1.b limit≤(firstR m.pend 0).1.a then (⟨0,[],false⟩,false)
 else (⟨(firstR m.pend 0).1.a,(m.data.take (min (min (firstR m.pend 0).1.b limit) ((firstR m.pend 0).1.a+most)-m.base).toNat).drop ((firstR m.pend 0).1.a-m.base).toNat,m.fin&&decide (min (min (firstR m.pend 0).1.b limit) ((firstR m.pend 0).1.a+most)=m.base+m.data.length)⟩,true)
theorem BufM.next_some {m:BufM}{most limit:Int}(h1:¬most≤0)(h2:(!(firstR m.pend 0).2)=false)(h3:¬min (firstR m.pend 0).1.b limit≤(firstR m.pend 0).1.a):
  m.next most limit=(⟨(firstR m.pend 0).1.a,(m.data.take (min (min (firstR m.pend 0).1.b limit) ((firstR m.pend 0).1.a+most)-m.base).toNat).drop ((firstR m.pend 0).1.a-m.base).toNat,m.fin&&decide (min (min (firstR m.pend 0).1.b limit) ((firstR m.pend 0).1.a+most)=m.base+m.data.length)⟩,true):=by
 rw[BufM.next,if_neg h1,if_neg (by simpa using h2),if_neg h3]
set_option maxHeartbeats 4000000 in
theorem outNext_c {m:BufM}{b:Nat}{c:Hp}{most limit:Int}(hO:OutAt m b c)(hs:Sub c G)(hw:m.WF)(hm: -9223372036854775808≤most∧most≤1000000)(hlim:0≤limit∧limit≤18446744073709551615):
  Go.Sl.Fn Tryz.prog 55 #[.pointer (some ⟨b,0,none⟩),.int .i64 most,.int .u64 limit] B w0 G fun u G'=>∃x:Option Addr×Nat×Hp,u=.tuple #[enP.val ⟨(m.next most limit).1.at_,x.1,(m.next most limit).1.data.length,x.2.1,(m.next most limit).1.fin⟩,.bool (m.next most limit).2]∧Ls enB 5 (.slice x.1 (m.next most limit).1.data.length x.2.1) x.2.2 (m.next most limit).1.data∧G'=[x.2.2]++G:=by
 refine Fn.new ?_
 have hO':=hO
 obtain⟨ao,cap,bp,bc,cd,cp,cc,rfl,hL,hP,hC⟩:=hO
 have hs1:=hs.left
 have hs2:=hs.right.left
 have hsp:=hs.right.right.left
 have h1:=hw.low
 have h2:=hw.top
 have hfo:enR.ok (firstR m.pend 0).1:=by
  unfold firstR
  split
  ·rename_i h
   have h3:=hw.gp.1 _ (List.getElem_mem h)
   exact⟨by have:=h3.1;have:=h3.2.1;have:=h3.2.2;dsimp only;omega,by have:=h3.1;have:=h3.2.1;have:=h3.2.2;dsimp only;omega⟩
  ·exact ok_z
 have hf2:=len2 _ hfo
 have hf3:=one2 _ hfo
 refine fn_enter Tryz.func55 rfl (by kernel_rfl) Tryz.ntmps55 (by simp) ?_
 have hfr:(firstR m.pend 0).2=true→m.base≤(firstR m.pend 0).1.a∧(firstR m.pend 0).1.a<(firstR m.pend 0).1.b∧(firstR m.pend 0).1.b≤m.base+m.data.length:=fun h=>by
  rcases first_low (n:=0) hw.gp with⟨h3,_⟩|⟨_,h3,h4,h5,_,_⟩
  ·rw[h3]at h;cases h
  ·have h6:=hw.ip _ (h5 ((firstR m.pend 0).1.b-1) zom zom)
   refine⟨?_,h4,by omega⟩
   rcases Int.lt_or_le (firstR m.pend 0).1.a m.base with h7|h7
   ·exact absurd (hw.gone _ h3 h7) (hw.dis _ (h5 _ (Int.le_refl _) h4))
   ·exact h7
 have hfa:0≤(firstR m.pend 0).1.a∧(firstR m.pend 0).1.a≤65536:=by
  refine⟨hfo.1.1,?_⟩
  cases hq:(firstR m.pend 0).2 with
  |true=>have:=hfr hq;omega
  |false=>
   have:(firstR m.pend 0).1.a=0:=by
    unfold firstR at hq⊢
    split at hq
    ·cases hq
    ·rename_i h;rw[dif_neg h]
   omega
 refine qs ?_
 refine ow_alloc rfl rfl Ty.ze113 fun b6=>?_
 refine qa ?_
 refine qt ?_
 refine cw_seq ?_
 refine qs ?_
 refine qm ?_
 refine qv (v_eql_nil_some Tryz.underlying49 rfl) ?_
 refine qm ?_
 refine qm ?_
 refine qv (v_leq rfl rfl) ?_
 refine qv (v_pick_false rfl rfl) ?_
 refine qt ?_
 refine cw_dec rfl (fun hc17=>?_) (fun hc17=>?_)
 refine qs ?_
 refine qv (v_build rfl (b_part0)) ?_
 refine ow_storeE rfl (pTy) rfl rfl .here zra (okP _) ?_
 refine qa ?_
 refine qt ?_
 refine cw_ret ?_
 refine xw_then_ret ?_
 refine ret2 rfl (res_cell rfl (Var.atN Ty.ag113 .here GetN.all zra)) (res_tmp rfl) ?_
 rotate_left
 refine cw_skip ?_
 refine xw_then ?_
 refine qs ?_
 refine qm ?_
 refine qn ?_
 refine qf Ty.fd131_2 ?_
 refine ql (Var.sub1 Ty.sc129 zthr (.head _) (GetN.lit rfl)) ?_
 refine qv (v_call rfl rfl (setFirst_l hP hsp.there hw.sp)) ?_
 refine qm ?_
 refine qv (v_extract rfl rfl) ?_
 refine qv (v_extract rfl rfl) ?_
 refine ow_alloc rfl rfl Ty.ze137 fun b8=>?_
 refine ow_storeN rfl rfl rfl Ty.ag137 zra (by first|assumption|simp) .here (SetN.all zsa) ?_
 refine qa ?_
 refine qt ?_
 refine cw_seq ?_
 refine qs ?_
 refine qm ?_
 refine qv (v_not_bool rfl) ?_
 refine qt ?_
 refine cw_bool rfl (fun hc28=>?_) (fun hc28=>?_)
 refine cw_seq ?_
 refine qs ?_
 refine qm ?_
 refine qn ?_
 refine qf Ty.fd131_5 ?_
 refine ql (Var.sub1 Ty.sc4 zthr (.head _) (GetN.lit rfl)) ?_
 refine qv (v_not_bool rfl) ?_
 refine qt ?_
 refine cw_bool rfl (fun hc33=>?_) (fun hc33=>?_)
 refine qs ?_
 refine qv (v_build rfl (b_part0)) ?_
 refine ow_storeE rfl (pTy) rfl rfl (.there .here) zra (okP _) ?_
 refine qa ?_
 refine qt ?_
 refine cw_ret ?_
 refine xw_then_ret ?_
 refine xw_then_ret ?_
 refine ret2 rfl (res_cell rfl (Var.atN Ty.ag113 (.there .here) GetN.all zra)) (res_tmp rfl) ?_
 rotate_left
 refine cw_skip ?_
 refine xw_then ?_
 refine qs ?_
 refine qm ?_
 refine ow_val rfl rfl (v_call rfl rfl (outStop_c hO' hs.there.there hw)) ?_
 refine qv (v_build rfl (b_part2)) ?_
 refine ow_storeE rfl (pTy) rfl rfl (.there .here) zra (okP _) ?_
 refine qa ?_
 refine qt ?_
 refine cw_ret ?_
 refine xw_then_ret ?_
 refine ret2 rfl (res_cell rfl (Var.atN Ty.ag113 (.there .here) GetN.all zra)) (res_tmp rfl) ?_
 rotate_left
 refine cw_skip ?_
 refine xw_then ?_
 refine qs ?_
 refine qf Ty.fd137_1 ?_
 refine ql (Var.at1 Ty.sc27 .here (GetN.lit rfl)) ?_
 refine qm ?_
 refine qv (v_min rfl rfl) ?_
 refine qa ?_
 refine qt ?_
 refine cw_seq ?_
 refine qs ?_
 refine qm ?_
 refine qf Ty.fd137_0 ?_
 refine ql (Var.at1 Ty.sc27 .here (GetN.lit rfl)) ?_
 refine qv (v_leq rfl rfl) ?_
 refine qt ?_
 refine cw_dec rfl (fun hc45=>?_) (fun hc45=>?_)
 refine qs ?_
 refine qv (v_build rfl (b_part0)) ?_
 refine ow_storeE rfl (pTy) rfl rfl (.there .here) zra (okP _) ?_
 refine qa ?_
 refine qt ?_
 refine cw_ret ?_
 refine xw_then_ret ?_
 refine ret2 rfl (res_cell rfl (Var.atN Ty.ag113 (.there .here) GetN.all zra)) (res_tmp rfl) ?_
 rotate_left
 refine cw_skip ?_
 refine xw_then ?_
 refine qs ?_
 refine qm ?_
 refine qf Ty.fd137_0 ?_
 refine ql (Var.at1 Ty.sc27 .here (GetN.lit rfl)) ?_
 refine qm ?_
 refine qv (v_convert Tryz.underlying3 Tryz.underlying27 rfl (nw_u64 zom zom)) ?_
 refine qv (v_add rfl rfl (nw_u64 zom zom)) ?_
 refine qv (v_min rfl rfl) ?_
 refine qa ?_
 refine qt ?_
 rotate_left
 ·rw[show m.next most limit=(⟨0,[],false⟩,false) from if_pos hc17]
  exact⟨(none,0,[]),rfl,Ls.nil,zcov⟩
 ·rw[show m.next most limit=(⟨0,[],false⟩,false) from by rw[BufM.next,if_neg hc17,if_pos (by simpa using hc28),if_neg (by simpa using hc33)]]
  exact⟨(none,0,[]),rfl,Ls.nil,zcov⟩
 ·rw[show m.next most limit=(⟨m.base+m.data.length,[],true⟩,true) from by rw[BufM.next,if_neg hc17,if_pos (by simpa using hc28),if_pos (by simpa using hc33)]]
  exact⟨(none,0,[]),rfl,Ls.nil,zcov⟩
 ·rw[show m.next most limit=(⟨0,[],false⟩,false) from by rw[BufM.next,if_neg hc17,if_neg (by simpa using hc28),if_pos hc45]]
  exact⟨(none,0,[]),rfl,Ls.nil,zcov⟩
 rw[BufM.next_some hc17 hc28 hc45]
 dsimp only
 obtain⟨hf4,hf5,hf6⟩:=hfr (by simpa using hc28)
 have hcap:=capLe hL
 have hdl:((m.data.take (min (min (firstR m.pend 0).1.b limit) ((firstR m.pend 0).1.a+most)-m.base).toNat).drop ((firstR m.pend 0).1.a-m.base).toNat).length=(min (min (firstR m.pend 0).1.b limit) ((firstR m.pend 0).1.a+most)-m.base).toNat-((firstR m.pend 0).1.a-m.base).toNat:=by rw[List.length_drop,List.length_take];omega
 have hVs:∀{G:List Hp},Go.Sl.Sub cd G→Vw enB (St B w0 G) (.slice (cutA ao cap ((firstR m.pend 0).1.a-m.base).toNat 1) ((min (min (firstR m.pend 0).1.b limit) ((firstR m.pend 0).1.a+most)-m.base).toNat-((firstR m.pend 0).1.a-m.base).toNat) (cap-((firstR m.pend 0).1.a-m.base).toNat)) ((m.data.take (min (min (firstR m.pend 0).1.b limit) ((firstR m.pend 0).1.a+most)-m.base).toNat).drop ((firstR m.pend 0).1.a-m.base).toNat):=fun {G} hs=>Vw.sub2 u8Ty (Vw.sub1 u8Ty (hL.vw hs) zom) (by rw[List.length_take];omega)
 refine cw_seq ?_
 refine cw_mix [] [18,19] [0,1,2,3,4,5,6,7,8,9,10,11,12,13,14,15,16,17] Ty.mixed rfl rfl rfl rfl zdk ?_
 refine hmv ?_
 refine hw_pure rfl rfl (v_nilCheck rfl) rfl ?_
 refine hw_pure rfl rfl (v_fieldAddr0 Ty.fd131_0 rfl) rfl ?_
 refine hw_read rfl rfl rfl (v_load rfl (Var.sub1 Ty.sc28 zthr (.head _) (GetN.lit rfl))) ?_
 refine hw_pure rfl rfl (v_fieldAddr0 Ty.fd137_0 rfl) rfl ?_
 refine hw_read rfl rfl rfl (v_load rfl (Var.at1 Ty.sc27 .here (GetN.lit rfl))) ?_
 refine hmv ?_
 refine hw_pure rfl rfl (v_nilCheck rfl) rfl ?_
 refine hw_pure rfl rfl (v_fieldAddr0 Ty.fd131_1 rfl) rfl ?_
 refine hw_read rfl rfl rfl (v_load rfl (Var.sub1 Ty.sc27 zthr (.head _) (GetN.lit rfl))) ?_
 refine hw_pure rfl rfl (v_sub rfl rfl (nw_u64 zom zom)) rfl ?_
 refine hmv ?_
 refine hmv ?_
 refine hw_pure rfl rfl (v_nilCheck rfl) rfl ?_
 refine hw_pure rfl rfl (v_fieldAddr0 Ty.fd131_1 rfl) rfl ?_
 refine hw_read rfl rfl rfl (v_load rfl (Var.sub1 Ty.sc27 zthr (.head _) (GetN.lit rfl))) ?_
 refine hw_pure rfl rfl (v_sub rfl rfl (nw_u64 zom zom)) rfl ?_
 refine hw_pure rfl rfl (v_slice_lh Tryz.underlying28 Ty.el28 rfl rfl rfl (Int.toNat_of_nonneg zom).symm (Int.toNat_of_nonneg zom).symm zom zom) rfl ?_
 refine hw_nil ?_
 refine sw_nil ?_
 (refine ow_call rfl rfl rfl rfl (cloneB_c (hVs hs2.there.there) (by rw[hdl];omega)) ?_;rintro _ _ ⟨x72,rfl,hq72,rfl⟩)
 refine qa ?_
 refine ow_nil ?_
 refine xw_np ?_
 refine xw_then ?_
 refine cw_seq ?_
 refine cw_mix [] [14,15] [0,1,2,3,4,5,6,7,8,9,10,11,12,13] Ty.mixed rfl rfl rfl rfl zdk ?_
 refine hw_pure rfl rfl (v_fieldAddr0 Ty.fd137_0 rfl) rfl ?_
 refine hw_read rfl rfl rfl (v_load rfl (Var.at1 Ty.sc27 (.there .here) (GetN.lit rfl))) ?_
 refine hmv ?_
 refine hmv ?_
 refine hw_pure rfl rfl (v_nilCheck rfl) rfl ?_
 refine hw_pure rfl rfl (v_fieldAddr0 Ty.fd131_4 rfl) rfl ?_
 refine hw_read rfl rfl rfl (v_load rfl (Var.sub1 Ty.sc4 zthr (.head _) (GetN.lit rfl))) ?_
 refine hmv ?_
 refine hw_bool 80 rfl (fun hc80=>?_) (fun hc80=>?_)
 refine hmv ?_
 refine hmv ?_
 refine hw_read rfl rfl rfl (v_call rfl rfl (outStop_c hO' hs.there.there.there hw)) ?_
 refine hw_pure rfl rfl (v_eql rfl rfl) rfl ?_
 refine hw_pure rfl rfl (v_pick_true rfl rfl) rfl ?_
 refine hw_pure rfl rfl (v_build rfl (b_part3)) rfl ?_
 refine hw_nil ?_
 refine sw_nil ?_
 refine ow_storeE rfl (pTy) rfl rfl (.there (.there .here)) zra (okP _) ?_
 refine qa ?_
 refine ow_nil ?_
 refine xw_np ?_
 refine xw_then ?_
 refine cw_ret ?_
 refine ret2 rfl (res_cell rfl (Var.atN Ty.ag113 (.there (.there .here)) GetN.all zra)) (res_tmp rfl) ?_
 rotate_left
 refine hw_skip rfl rfl ?_
 refine hw_skip rfl rfl ?_
 refine hw_skip rfl rfl ?_
 refine hw_skip rfl rfl ?_
 refine hw_pure rfl rfl (v_pick_false rfl rfl) rfl ?_
 refine hw_pure rfl rfl (v_build rfl (b_part3)) rfl ?_
 refine hw_nil ?_
 refine sw_nil ?_
 refine ow_storeE rfl (pTy) rfl rfl (.there (.there .here)) zra (okP _) ?_
 refine qa ?_
 refine ow_nil ?_
 refine xw_np ?_
 refine xw_then ?_
 refine cw_ret ?_
 refine ret2 rfl (res_cell rfl (Var.atN Ty.ag113 (.there (.there .here)) GetN.all zra)) (res_tmp rfl) ?_
 rotate_left
 ·exact⟨x72,by rw[hc80];rfl,hq72,zcov⟩
 ·exact⟨x72,by rw[hc80];rfl,hq72,zcov⟩
end Go.Proofs.YtnlaffkihohfkaaGreat
namespace Go.Proofs.YtnlaffkihohfkaaGreat
open Go Go.Sl Go.Proofs
variable {B:Nat}{w0:World}{G:List Hp}{R:Hp→List Hp}
def BufM.sent (m:BufM)(at_:Int)(len:Int)(fin:Bool):BufM:=
 {m with pend:=if at_<m.base+m.data.length then cutE m.pend ⟨at_,at_+min len (m.base+m.data.length-at_)⟩ else m.pend,waits:=if fin=true then false else m.waits}
theorem outSent_c {m:BufM}{b:Nat}{c:Hp}{p:PartV}(hsel:Sel G c R)(hO:OutAt m b c)(hw:m.WF)(hp:0≤p.at_∧p.at_≤18446744073709551615)(hn:(p.n:Int)≤1000000):
  Go.Sl.Fn Tryz.prog 57 #[.pointer (some ⟨b,0,none⟩),enP.val p] B w0 G fun u G'=>∃c':Hp,u=.tuple #[]∧OutAt (m.sent p.at_ p.n p.fin) b c'∧G'=R c':=by
 refine Fn.sel0 hsel fun F hR hF=>?_
 have hO':=hO
 obtain⟨ao,cap,bp,bc,cd,cp,cc,rfl,hL,hP,hC⟩:=hO
 have h1:=hw.low
 have h2:=hw.top
 have hrg:p.at_<m.base+m.data.length→RgIn ⟨p.at_,p.at_+min (p.n:Int) (m.base+m.data.length-p.at_)⟩:=fun h=>⟨by dsimp only;omega,by dsimp only;omega⟩
 have hcu:=fun h=>cut_fits (v:=65536) hw.gp (hrg h) zom (fun n hn=>by have:=hw.ip n hn;omega)
 refine fn_enter Tryz.func57 rfl (by kernel_rfl) Tryz.ntmps57 (by simp) ?_
 refine cw_split4 ?_
 refine qs ?_
 refine ow_box rfl rfl rfl rfl fun b3=>qt<|cw_seq<|qs<|qm ?_
 refine qv (v_eql_nil_some Tryz.underlying49 rfl)<|qt ?_
 refine cw_false rfl<|cw_skip<|xw_then ?_
 refine cw_cut2 (ι:=(Hp)) [(0,_),(3,_)] ⟨rfl,rfl,trivial⟩ ((fun _=>[])) ((fun x=>SetAt ⟨65536,(m.sent p.at_ p.n p.fin).pend⟩ bp x)) ((fun x=>[(b3,.cells (enP.f p).toArray 113 (0,0))]::[(b,.cells [.slice ao m.data.length cap,.int .u64 m.base,.pointer (some ⟨bp,0,none⟩),.pointer (some ⟨bc,0,none⟩),.bool m.fin,.bool m.waits,.bool m.endCame].toArray 131 (0,0))]::cd::x::cc::F)) ?_ ?_
 ·refine cw_seq ?_
  refine cw_region<|qm ?_
  refine ow_val rfl rfl (v_call rfl rfl (outStop_c hO' (Sub.app zhas (Sub.app zhas (Sub.app zhas zhas))) hw)) ?_
  refine qa<|qt<|qs ?_
  refine qf Ty.fd113_0 ?_
  refine ql (Var.at1 Ty.sc27 .here (GetN.lit rfl))<|qm ?_
  refine qv (v_lss rfl rfl)<|qt ?_
  refine cw_dec rfl (fun hc13=>?_) (fun hc13=>?_)
  refine qs ?_
  refine qf Ty.fd113_0 ?_
  refine ql (Var.at1 Ty.sc27 .here (GetN.lit rfl)) ?_
  refine qf Ty.fd113_1 ?_
  refine ql (Var.at1 Ty.sc28 .here (GetN.lit rfl)) ?_
  refine qv (v_len rfl Tryz.underlying28 rfl) ?_
  refine qv (v_convert Tryz.underlying3 Tryz.underlying27 rfl (nw_u64 zom zom))<|qm ?_
  refine qf Ty.fd113_0 ?_
  refine ql (Var.at1 Ty.sc27 .here (GetN.lit rfl)) ?_
  refine qv (v_sub rfl rfl (nw_u64 zom zom)) ?_
  refine qv (v_min rfl rfl) ?_
  refine qv (v_add rfl rfl (nw_u64 zom zom))<|qa<|qt ?_
  refine cw_mix [] [8] [0,1,2,3,4,5,6,7] Ty.mixed rfl rfl rfl rfl zdk ?_
  refine hmv ?_
  refine hw_pure rfl rfl (v_nilCheck rfl) rfl ?_
  refine hw_pure rfl rfl (v_fieldAddr0 Ty.fd131_2 rfl) rfl ?_
  refine hw_read rfl rfl rfl (v_load rfl (Var.at1 Ty.sc129 (.there .here) (GetN.lit rfl))) ?_
  refine hw_pure rfl rfl (v_fieldAddr0 Ty.fd113_0 rfl) rfl ?_
  refine hw_read rfl rfl rfl (v_load rfl (Var.at1 Ty.sc27 .here (GetN.lit rfl))) ?_
  refine hmv ?_
  refine hw_pure rfl rfl (v_build rfl (b_rng)) rfl ?_
  refine hw_nil ?_
  refine sw_nil ?_
  (refine ow_call rfl rfl rfl rfl (setCutOk_l (r:=⟨p.at_,p.at_+min (p.n:Int) (m.base+m.data.length-p.at_)⟩) zsel hP hw.sp (hrg zom) (by have:=(hcu zom).2.2;omega)) ?_;rintro _ _ ⟨x34,rfl,hq34,rfl⟩)
  refine ow_nil ?_
  refine xw_np ?_
  rotate_left
  refine cw_skip ?_
  rotate_left
  ·have hpe:(m.sent p.at_ p.n p.fin).pend=cutE m.pend ⟨p.at_,p.at_+min (p.n:Int) (m.base+m.data.length-p.at_)⟩:=if_pos hc13
   rw[hpe]
   exact xw_joint x34 hq34 zcov zenv
  ·have hpe:(m.sent p.at_ p.n p.fin).pend=m.pend:=if_neg hc13
   rw[hpe]
   exact xw_joint cp hP zcov zenv
 ·rintro cp2 hP2
  refine qs ?_
  refine qf Ty.fd113_2 ?_
  refine ql (Var.at1 Ty.sc4 .here (GetN.lit rfl))<|qt ?_
  refine cw_bool rfl (fun hc36=>?_) (fun hc36=>?_)
  refine cw_region<|qm<|qn ?_
  refine qf Ty.fd131_5 ?_
  refine ow_store1 rfl rfl rfl rfl Ty.sc4 (.there .here) (SetN.one zdn)<|ow_nil ?_
  refine ret0n rfl ?_
  rotate_left
  refine cw_skip ?_
  refine ret0n rfl ?_
  rotate_left
  ·rw[show m.sent p.at_ p.n p.fin=⟨m.data,m.base,(m.sent p.at_ p.n p.fin).pend,m.came,m.fin,false,m.endCame⟩ from by rw[hc36];rfl]
   exact⟨_,rfl,OutAt.of hL hP2 hC rfl,zcov⟩
  ·rw[show m.sent p.at_ p.n p.fin=⟨m.data,m.base,(m.sent p.at_ p.n p.fin).pend,m.came,m.fin,m.waits,m.endCame⟩ from by rw[hc36];rfl]
   exact⟨_,rfl,OutAt.of hL hP2 hC rfl,zcov⟩
def BufM.written (m:BufM)(at_ size:Int):Bool:=decide (0≤size)&&(decide (at_≤m.base+m.data.length)&&decide (size≤m.base+m.data.length-at_))
theorem outWritten_c {m:BufM}{b:Nat}{c:Hp}{at_ size:Int}(hO:OutAt m b c)(hs:Sub c G)(hw:m.WF)(ha:0≤at_∧at_≤18446744073709551615)(hz: -9223372036854775808≤size∧size≤9223372036854775807):
  Go.Sl.Fn Tryz.prog 90 #[.pointer (some ⟨b,0,none⟩),.int .u64 at_,.int .i64 size] B w0 G fun u G'=>u=.bool (m.written at_ size)∧G'=G:=by
 refine Fn.pure ?_
 have h1:=hw.low
 have h2:=hw.top
 refine fn_enter Tryz.func90 rfl (by kernel_rfl) Tryz.ntmps90 (by simp) ?_
 refine qs<|qa<|qt<|qs<|qm ?_
 refine qv (v_call rfl rfl (outStop_c hO hs hw))<|qa<|qt<|qs<|qm ?_
 refine qv (v_geq rfl rfl)<|qm ?_
 refine ow_dec 12 rfl (fun hc12=>?_) (fun hc12=>?_)
 refine qm<|qm ?_
 refine qv (v_leq rfl rfl) ?_
 refine qv (v_pick_true rfl rfl)<|qm ?_
 refine ow_dec 17 rfl (fun hc17=>?_) (fun hc17=>?_)
 refine qm ?_
 refine qv (v_convert Tryz.underlying3 Tryz.underlying27 rfl (nw_u64 zom zom))<|qm<|qm ?_
 refine qv (v_sub rfl rfl (nw_u64 zom zom)) ?_
 refine qv (v_leq rfl rfl) ?_
 refine qv (v_pick_true rfl rfl)<|qa<|qt ?_
 refine cw_ret ?_
 refine ret1 rfl (res_tmp rfl) ?_
 rotate_left
 refine qk ?_
 refine qk ?_
 refine qk ?_
 refine qk ?_
 refine qk ?_
 refine qk ?_
 refine qv (v_pick_false rfl rfl)<|qa<|qt ?_
 refine cw_ret ?_
 refine ret1 rfl (res_tmp rfl) ?_
 rotate_left
 refine qk ?_
 refine qk ?_
 refine qk ?_
 refine qv (v_pick_false rfl rfl)<|qm ?_
 refine qk ?_
 refine qk ?_
 refine qk ?_
 refine qk ?_
 refine qk ?_
 refine qk ?_
 refine qv (v_pick_false rfl rfl) ?_
 refine qa<|qt ?_
 refine cw_ret ?_
 refine ret1 rfl (res_tmp rfl) ?_
 rotate_left
 ·exact⟨by rw[BufM.written,decide_eq_true hc12,decide_eq_true hc17];rfl,zcov⟩
 ·exact⟨by rw[BufM.written,decide_eq_true hc12,decide_eq_false hc17];rfl,zcov⟩
 ·exact⟨by rw[BufM.written,decide_eq_false hc12];rfl,zcov⟩
theorem OutAt.of2 {m:BufM}{b bp bc cap n:Nat}{ao:Option Addr}{d:List UInt8}{base:Int}{p k:List Rg}{f w e:Bool}{cd cp cc:Hp}(hn:d.length=n)(hL:Ls enB 5 (.slice ao n cap) cd d)(hP:SetAt ⟨65536,p⟩ bp cp)(hC:SetAt ⟨65536,k⟩ bc cc)(h:m=⟨d,base,p,k,f,w,e⟩):OutAt m b ([(b,.cells [.slice ao n cap,.int .u64 base,.pointer (some ⟨bp,0,none⟩),.pointer (some ⟨bc,0,none⟩),.bool f,.bool w,.bool e].toArray 131 (0,0))]++(cd++(cp++cc))):=by
 subst h hn
 exact⟨ao,cap,bp,bc,cd,cp,cc,rfl,hL,hP,hC⟩
def BufM.release (m:BufM):BufM:=if (firstR m.came 0).2=false∨0<(firstR m.came 0).1.a∨(firstR m.came 0).1.b≤m.base then m else {m with data:=m.data.drop ((firstR m.came 0).1.b-m.base).toNat,base:=(firstR m.came 0).1.b}
theorem outRelease_c {m:BufM}{b:Nat}{c:Hp}(hsel:Sel G c R)(hO:OutAt m b c)(hlow:0≤m.base)(htop:m.base+m.data.length≤65536)(hgc:Good m.came)(hic:∀n,InR m.came n→0≤n∧n<m.base+m.data.length):
  Go.Sl.Fn Tryz.prog 92 #[.pointer (some ⟨b,0,none⟩)] B w0 G fun u G'=>∃c':Hp,u=.tuple #[]∧OutAt m.release b c'∧G'=R c':=by
 refine Fn.sel0 hsel fun F hR hF=>?_
 obtain⟨ao,cap,bp,bc,cd,cp,cc,rfl,hL,hP,hC⟩:=hO
 have hsc:(⟨65536,m.came⟩:SetM).WF:=⟨hgc,by have:=good_len' (u:=0) hgc zom hic;dsimp only;omega,by dsimp only;omega⟩
 have hfo:enR.ok (firstR m.came 0).1:=by
  unfold firstR
  split
  ·rename_i h
   have h3:=hgc.1 _ (List.getElem_mem h)
   exact⟨by have:=h3.1;have:=h3.2.1;have:=h3.2.2;dsimp only;omega,by have:=h3.1;have:=h3.2.1;have:=h3.2.2;dsimp only;omega⟩
  ·exact ok_z
 have hf2:=len2 _ hfo
 have hf3:=one2 _ hfo
 have hcap:=capLe hL
 have hfb:(firstR m.came 0).1.b≤m.base+m.data.length:=by
  rcases first_low (n:=0) hgc with⟨h3,_⟩|⟨_,h3,h4,h5,_,_⟩
  ·have:(firstR m.came 0).1.b=0:=by
    unfold firstR at h3⊢
    split at h3
    ·cases h3
    ·rename_i h;rw[dif_neg h]
   omega
  ·have h6:=hic _ (h5 ((firstR m.came 0).1.b-1) zom zom)
   omega
 refine fn_enter Tryz.func92 rfl (by kernel_rfl) Tryz.ntmps92 (by simp) ?_
 refine cw_split4 ?_
 refine qs<|qm<|qn ?_
 refine qf Ty.fd131_3 ?_
 refine ql (Var.at1 Ty.sc129 .here (GetN.lit rfl)) ?_
 refine qv (v_call rfl rfl (setFirst_l hC zhas hsc))<|qm ?_
 refine qv (v_extract rfl rfl) ?_
 refine qv (v_extract rfl rfl) ?_
 refine ow_alloc rfl rfl Ty.ze137 fun b2=>?_
 refine ow_storeN rfl rfl rfl Ty.ag137 zra (by first|assumption|simp) .here (SetN.all zsa) ?_
 refine qa<|qt<|cw_seq<|cw_seq ?_
 refine cw_quiet Ty.mixed zdk ?_
 refine kmv ?_
 refine kv (v_not_bool rfl) ?_
 refine kmv ?_
 refine kw_bool 14 rfl (fun hc14=>?_) (fun hc14=>?_)
 refine kk ?_
 refine kk ?_
 refine kk ?_
 refine kv (v_pick_true rfl rfl) ?_
 refine kmv ?_
 refine kk ?_
 refine kk ?_
 refine kk ?_
 refine kk ?_
 refine kk ?_
 refine kk ?_
 refine kk ?_
 refine kv (v_pick_true rfl rfl) ?_
 refine kw_nil<|xw_then ?_
 refine cw_true rfl ?_
 refine cw_ret ?_
 refine xw_then_ret ?_
 refine ret0 rfl ?_
 rotate_left
 refine kv (v_fieldAddr0 Ty.fd137_0 rfl) ?_
 refine kv (v_load rfl (Var.at1 Ty.sc27 .here (GetN.lit rfl))) ?_
 refine kv (v_gtr rfl rfl) ?_
 refine kv (v_pick_false rfl rfl) ?_
 refine kmv ?_
 refine kw_dec 19 rfl (fun hc19=>?_) (fun hc19=>?_)
 refine kk ?_
 refine kk ?_
 refine kk ?_
 refine kk ?_
 refine kk ?_
 refine kk ?_
 refine kk ?_
 refine kv (v_pick_true rfl rfl) ?_
 refine kw_nil<|xw_then ?_
 refine cw_true rfl ?_
 refine cw_ret ?_
 refine xw_then_ret ?_
 refine ret0 rfl ?_
 rotate_left
 refine kv (v_fieldAddr0 Ty.fd137_1 rfl) ?_
 refine kv (v_load rfl (Var.at1 Ty.sc27 .here (GetN.lit rfl))) ?_
 refine kmv ?_
 refine kv (v_nilCheck rfl) ?_
 refine kv (v_fieldAddr0 Ty.fd131_1 rfl) ?_
 refine kv (v_load rfl (Var.at1 Ty.sc27 (.there .here) (GetN.lit rfl))) ?_
 refine kv (v_leq rfl rfl) ?_
 refine kv (v_pick_false rfl rfl) ?_
 refine kw_nil<|xw_then ?_
 refine cw_dec rfl (fun hc27=>?_) (fun hc27=>?_)
 refine cw_ret ?_
 refine xw_then_ret ?_
 refine ret0 rfl ?_
 rotate_left
 refine cw_skip<|xw_then<|cw_seq ?_
 refine cw_mix [] [15] [0,1,2,3,4,5,6,7,8,9,10,11,12,13,14] Ty.mixed rfl rfl rfl rfl zdk ?_
 refine hmv ?_
 refine hmv ?_
 refine hw_pure rfl rfl (v_nilCheck rfl) rfl ?_
 refine hw_pure rfl rfl (v_fieldAddr0 Ty.fd131_0 rfl) rfl ?_
 refine hw_read rfl rfl rfl (v_load rfl (Var.at1 Ty.sc28 (.there .here) (GetN.lit rfl))) ?_
 refine hw_pure rfl rfl (v_fieldAddr0 Ty.fd137_1 rfl) rfl ?_
 refine hw_read rfl rfl rfl (v_load rfl (Var.at1 Ty.sc27 .here (GetN.lit rfl))) ?_
 refine hmv ?_
 refine hw_pure rfl rfl (v_nilCheck rfl) rfl ?_
 refine hw_pure rfl rfl (v_fieldAddr0 Ty.fd131_1 rfl) rfl ?_
 refine hw_read rfl rfl rfl (v_load rfl (Var.at1 Ty.sc27 (.there .here) (GetN.lit rfl))) ?_
 refine hw_pure rfl rfl (v_sub rfl rfl (nw_u64 zom zom)) rfl ?_
 refine hw_pure rfl rfl (v_slice_ln Tryz.underlying28 Ty.el28 rfl rfl (Int.toNat_of_nonneg zom).symm zom) rfl ?_
 refine hw_pure rfl rfl (v_nilCheck rfl) rfl ?_
 refine hw_pure rfl rfl (v_fieldAddr0 Ty.fd131_0 rfl) rfl ?_
 refine hw_nil ?_
 refine sw_nil ?_
 refine ow_store1 rfl rfl rfl rfl Ty.sc28 (.there .here) (SetN.one zdn)<|ow_nil ?_
 refine xw_np<|xw_then<|cw_region<|qm ?_
 refine qf Ty.fd137_1 ?_
 refine ql (Var.at1 Ty.sc27 .here (GetN.lit rfl))<|qn ?_
 refine qf Ty.fd131_1 ?_
 refine ow_store1 rfl rfl rfl rfl Ty.sc27 (.there .here) (SetN.one zdn)<|ow_nil ?_
 refine ret0n rfl ?_
 rotate_left
 ·rw[show m.release=m from if_pos (.inl (by simpa using hc14))]
  exact⟨_,rfl,⟨ao,cap,bp,bc,cd,cp,cc,rfl,hL,hP,hC⟩,zcov⟩
 ·rw[show m.release=m from if_pos (.inr (.inl hc19))]
  exact⟨_,rfl,⟨ao,cap,bp,bc,cd,cp,cc,rfl,hL,hP,hC⟩,zcov⟩
 ·rw[show m.release=m from if_pos (.inr (.inr hc27))]
  exact⟨_,rfl,⟨ao,cap,bp,bc,cd,cp,cc,rfl,hL,hP,hC⟩,zcov⟩
 ·rw[show m.release=⟨m.data.drop ((firstR m.came 0).1.b-m.base).toNat,(firstR m.came 0).1.b,m.pend,m.came,m.fin,m.waits,m.endCame⟩ from if_neg (fun h=>by
   rcases h with h|h|h
   ·rw[h]at hc14;cases hc14
   ·exact hc19 h
   ·exact hc27 h)]
  have hLd:Ls enB 5 (.slice (cutA ao cap ((firstR m.came 0).1.b-m.base).toNat 1) (m.data.length-((firstR m.came 0).1.b-m.base).toNat) (cap-((firstR m.came 0).1.b-m.base).toNat)) cd (m.data.drop ((firstR m.came 0).1.b-m.base).toNat):=Ls.drop u8Ty hL zom
  exact⟨_,rfl,OutAt.of2 (List.length_drop ..) hLd hP hC rfl,zcov⟩
end Go.Proofs.YtnlaffkihohfkaaGreat
namespace Go.Proofs.YtnlaffkihohfkaaGreat
open Go Go.Sl Go.Proofs
variable {B:Nat}{w0:World}{G:List Hp}{R:Hp→List Hp}
def BufM.take (m:BufM)(at_ size:Int):BufM:=if 0<size then ({m with pend:=cutE m.pend ⟨at_,at_+size⟩,came:=addE m.came ⟨at_,at_+size⟩}:BufM).release else m
def BufM.gotIt (m:BufM)(at_ size:Int)(fin:Bool):BufM:=
 if m.written at_ size=true then
  (if fin=true∧(m.take at_ size).fin=true∧at_+size=(m.take at_ size).base+(m.take at_ size).data.length then {m.take at_ size with endCame:=true,waits:=false} else m.take at_ size)
 else m
def BufM.lose (m:BufM)(at_ size:Int):BufM:=if 0<size then {m with pend:=m.came.foldl cutE (addE m.pend ⟨at_,at_+size⟩)} else m
def BufM.lostIt (m:BufM)(at_ size:Int)(fin:Bool):BufM:=
 if m.written at_ size=true then (if fin=true∧m.fin=true∧m.endCame=false then {m.lose at_ size with waits:=true} else m.lose at_ size) else m
theorem BufM.release_stop {m:BufM}(h:(firstR m.came 0).1.b≤m.base+m.data.length):m.release.base+m.release.data.length=m.base+m.data.length:=by
 unfold BufM.release
 split
 ·rfl
 ·rename_i h2
  have h3:m.base<(firstR m.came 0).1.b:=by
   rcases Int.lt_or_le m.base (firstR m.came 0).1.b with h4|h4
   ·exact h4
   ·exact absurd (.inr (.inr h4)) h2
  dsimp only
  rw[List.length_drop]
  omega
theorem firstR_top {l:List Rg}{v:Int}(hg:Good l)(hv:0≤v)(hi:∀n,InR l n→0≤n∧n<v):(firstR l 0).1.b≤v:=by
 rcases first_low (n:=0) hg with⟨h3,_⟩|⟨_,h3,h4,h5,_,_⟩
 ·have:(firstR l 0).1.b=0:=by
   unfold firstR at h3⊢
   split at h3
   ·cases h3
   ·rename_i h;rw[dif_neg h]
  omega
 ·have h6:=hi _ (h5 ((firstR l 0).1.b-1) zom zom)
  omega
theorem BufM.written_iff {m:BufM}{at_ size:Int}:m.written at_ size=true↔0≤size∧at_≤m.base+m.data.length∧at_+size≤m.base+m.data.length:=by
 unfold BufM.written
 simp
 omega
theorem BufM.release_wf {m:BufM}(low:0≤m.base)(top:m.base+m.data.length≤65536)(gp:Good m.pend)(gc:Good m.came)(ip:∀n,InR m.pend n→0≤n∧n<m.base+m.data.length)(ic:∀n,InR m.came n→0≤n∧n<m.base+m.data.length)(dis:∀n,InR m.pend n→¬InR m.came n)(gone:∀n,0≤n→n<m.base→InR m.came n):m.release.WF:=by
 have htop:=firstR_top gc zom ic
 have hst:=BufM.release_stop htop
 unfold BufM.release at hst⊢
 split
 ·rename_i h
  refine⟨low,top,gp,gc,ip,ic,dis,gone,fun hb=>?_⟩
  rcases first_low (n:=0) gc with⟨h3,h4⟩|⟨h3,h4,h5,h6,h7,h8⟩
  ·have:=h4 _ hb;omega
  ·rcases h with h|h|h
   ·rw[h]at h3;cases h3
   ·have h9:=h7 _ hb low
    have h10:=gone 0 (Int.le_refl _) zom
    have:=h7 _ h10 (Int.le_refl _)
    omega
   ·rcases Int.lt_or_le (firstR m.came 0).1.b m.base with h9|h9
    ·exact h8 (gone _ zom h9)
    ·have:(firstR m.came 0).1.b=m.base:=by omega
     exact h8 (this ▸ hb)
 ·rename_i h
  rw[if_neg h]at hst
  dsimp only at hst⊢
  rcases first_low (n:=0) gc with⟨h3,h4⟩|⟨h3,h4,h5,h6,h7,h8⟩
  ·exact absurd (.inl h3) h
  ·have ha:(firstR m.came 0).1.a=0:=by
    rcases Int.lt_or_le 0 (firstR m.came 0).1.a with h9|h9
    ·exact absurd (.inr (.inl h9)) h
    ·omega
   refine⟨by dsimp only;omega,by dsimp only;omega,gp,gc,fun n hn=>by have:=ip n hn;dsimp only;omega,fun n hn=>by have:=ic n hn;dsimp only;omega,dis,fun n h9 h10=>h6 n zom h10,h8⟩
theorem BufM.take_wf {m:BufM}{at_ size:Int}(hw:m.WF)(ha:0≤at_)(hz:0≤size)(ht:at_+size≤m.base+m.data.length):(m.take at_ size).WF:=by
 have h1:=hw.top
 have h2:=hw.low
 have hrg:RgIn ⟨at_,at_+size⟩:=⟨by dsimp only;omega,by dsimp only;omega⟩
 obtain⟨g1,g2,g3⟩:=cutE_spec hw.gp hrg
 obtain⟨k1,k2,k3⟩:=addE_spec hw.gc hrg
 unfold BufM.take
 split
 ·refine BufM.release_wf hw.low hw.top g1 k1 (fun n hn=>hw.ip n ((g2 n).1 hn).1) (fun n hn=>?_) (fun n hn h=>?_) (fun n h3 h4=>(k2 n).2 (.inl (hw.gone n h3 h4)))
  ·rcases (k2 n).1 hn with h|h
   ·exact hw.ic n h
   ·dsimp only at h⊢;omega
  ·rcases (k2 n).1 h with h|h
   ·exact hw.dis n ((g2 n).1 hn).1 h
   ·exact((g2 n).1 hn).2 h
 ·exact hw
theorem BufM.release_fin {m:BufM}:m.release.fin=m.fin∧m.release.waits=m.waits∧m.release.endCame=m.endCame∧m.release.pend=m.pend∧m.release.came=m.came:=by
 unfold BufM.release
 split<;>exact⟨rfl,rfl,rfl,rfl,rfl⟩
theorem BufM.take_fin {m:BufM}{at_ size:Int}:(m.take at_ size).fin=m.fin∧(m.take at_ size).waits=m.waits∧(m.take at_ size).endCame=m.endCame:=by
 unfold BufM.take
 split
 ·exact⟨BufM.release_fin.1,BufM.release_fin.2.1,BufM.release_fin.2.2.1⟩
 ·exact⟨rfl,rfl,rfl⟩
theorem ow_join4 {P:Program}{ops:Array Oper}{Q:Exit→Act→World→Prop}{B:Nat}{w0:World}{N:Nat}{E:Env}{rest:List Oper}{a b d e:Hp}{F:List Hp}(h:OW P ops Q B w0 N ((a++(b++(d++e)))::F) E rest):OW P ops Q B w0 N (a::b::d::e::F) E rest:=ow_flat ((a++(b++(d++e)))::F) (.of_eq (by simp)) h
theorem outCame_c {m:BufM}{b:Nat}{c:Hp}{at_ size:Int}{fin:Bool}(hsel:Sel G c R)(hO:OutAt m b c)(hw:m.WF)(ha:0≤at_∧at_≤18446744073709551615)(hz: -9223372036854775808≤size∧size≤9223372036854775807):
  Go.Sl.Fn Tryz.prog 62 #[.pointer (some ⟨b,0,none⟩),.int .u64 at_,.int .i64 size,.bool fin] B w0 G fun u G'=>∃c':Hp,u=.tuple #[]∧OutAt (m.gotIt at_ size fin) b c'∧G'=R c':=by
 refine Fn.sel0 hsel fun F hR hF=>?_
 have hO':=hO
 obtain⟨ao,cap,bp,bc,cd,cp,cc,rfl,hL,hP,hC⟩:=hO
 have h1:=hw.low
 have h2:=hw.top
 refine fn_enter Tryz.func62 rfl (by kernel_rfl) Tryz.ntmps62 (by simp) ?_
 refine cw_split4 ?_
 refine cw_seq ?_
 refine qs ?_
 refine qm ?_
 refine qv (v_eql_nil_some Tryz.underlying49 rfl) ?_
 refine qm ?_
 refine qm ?_
 refine qm ?_
 refine qm ?_
 refine ow_val rfl rfl (v_call rfl rfl (outWritten_c hO' (Sub.app zhas (Sub.app zhas (Sub.app zhas zhas))) hw ha hz)) ?_
 refine qv (v_not_bool rfl) ?_
 refine qv (v_pick_false rfl rfl) ?_
 refine qt ?_
 refine cw_bool rfl (fun hc17=>?_) (fun hc17=>?_)
 refine cw_ret ?_
 refine xw_then_ret ?_
 refine ret0 rfl ?_
 rotate_left
 refine cw_skip ?_
 refine xw_then ?_
 rotate_left
 ·rw[show m.gotIt at_ size fin=m from if_neg (by simpa using hc17)]
  exact⟨_,rfl,⟨ao,cap,bp,bc,cd,cp,cc,rfl,hL,hP,hC⟩,zcov⟩
 obtain⟨h3,h4,h5⟩:=BufM.written_iff.1 (by simpa using hc17)
 have hrg:RgIn ⟨at_,at_+size⟩:=⟨ha,by dsimp only;omega⟩
 obtain⟨g1,g2,g3⟩:=cut_fits (v:=65536) hw.gp hrg zom (fun n hn=>by have:=hw.ip n hn;omega)
 obtain⟨k1,k2,k3⟩:=add_fits (v:=65536) hw.gc hrg zom (fun n hn=>by have:=hw.ic n hn;omega) zdo
 have hic:∀n,InR (addE m.came ⟨at_,at_+size⟩) n→0≤n∧n<m.base+m.data.length:=fun n hn=>by
  rcases (k2 n).1 hn with h|h
  ·exact hw.ic n h
  ·dsimp only at h;omega
 have htk:=BufM.take_wf hw ha.1 h3 h5
 have htf:=BufM.take_fin (m:=m) (at_:=at_) (size:=size)
 refine qs ?_
 refine qm ?_
 refine qm ?_
 refine qv (v_convert Tryz.underlying3 Tryz.underlying27 rfl (nw_u64 zom zom)) ?_
 refine qv (v_add rfl rfl (nw_u64 zom zom)) ?_
 refine qa ?_
 refine qt ?_
 refine cw_cut2 (ι:=(Hp)) [(0,_),(1,_),(3,_),(8,_)] ⟨rfl,rfl,rfl,rfl,trivial⟩ ((fun _=>[])) ((fun x=>OutAt (m.take at_ size) b x)) ((fun x=>x::F)) ?_ ?_
 ·refine cw_seq ?_
  refine cw_region ?_
  refine qm ?_
  refine qv (v_gtr rfl rfl) ?_
  refine qt ?_
  refine cw_dec rfl (fun hc23=>?_) (fun hc23=>?_)
  refine qs ?_
  refine qm ?_
  refine qn ?_
  refine qf Ty.fd131_2 ?_
  refine ql (Var.at1 Ty.sc129 .here (GetN.lit rfl)) ?_
  refine qm ?_
  refine qm ?_
  refine qv (v_build rfl (b_rng)) ?_
  (refine ow_call rfl rfl rfl rfl (setCutOk_l (r:=⟨at_,at_+size⟩) zsel hP hw.sp hrg zom) ?_;rintro _ _ ⟨x31,rfl,hq31,rfl⟩)
  refine qt ?_
  refine qs ?_
  refine qm ?_
  refine qn ?_
  refine qf Ty.fd131_3 ?_
  refine ql (Var.at1 Ty.sc129 .here (GetN.lit rfl)) ?_
  refine qm ?_
  refine qm ?_
  refine qv (v_build rfl (b_rng)) ?_
  (refine ow_call rfl rfl rfl rfl (setAddOk_l (r:=⟨at_,at_+size⟩) zsel hC hw.sc hrg zom) ?_;rintro _ _ ⟨x39,rfl,hq39,rfl⟩)
  refine qt ?_
  refine cw_region ?_
  refine qm ?_
  rotate_left
  refine cw_skip ?_
  rotate_left
  ·refine ow_join4 ?_
   (refine ow_call rfl rfl rfl rfl (outRelease_c (m:={m with pend:=cutE m.pend ⟨at_,at_+size⟩,came:=addE m.came ⟨at_,at_+size⟩}) zsel (OutAt.of hL zas zas rfl) h1 h2 k1 hic) ?_;rintro _ _ ⟨x41,rfl,hq41,rfl⟩)
   refine ow_nil ?_
   rw[show m.take at_ size=_ from if_pos hc23]
   exact xw_joint x41 hq41 zcov zenv
  ·rw[show m.take at_ size=m from if_neg hc23]
   exact xw_joint _ hO' zcov zenv
 ·rintro c2 hO2
  have hO3:=hO2
  obtain⟨ao2,cap2,bp2,bc2,cd2,cp2,cc2,rfl,hL2,hP2,hC2⟩:=hO2
  refine cw_split4 ?_
  refine qs ?_
  refine qm ?_
  refine qm ?_
  refine ow_bool 43 rfl (fun hc43=>?_) (fun hc43=>?_)
  refine qm ?_
  refine qn ?_
  refine qf Ty.fd131_4 ?_
  refine ql (Var.at1 Ty.sc4 .here (GetN.lit rfl)) ?_
  refine qv (v_pick_true rfl rfl) ?_
  refine qm ?_
  refine ow_bool 49 rfl (fun hc49=>?_) (fun hc49=>?_)
  refine qm ?_
  refine qm ?_
  refine qv (v_call rfl rfl (outStop_c hO3 (Sub.app zhas (Sub.app zhas (Sub.app zhas zhas))) htk)) ?_
  refine qv (v_eql rfl rfl) ?_
  refine qv (v_pick_true rfl rfl) ?_
  refine qt ?_
  refine cw_dec rfl (fun hc54=>?_) (fun hc54=>?_)
  refine cw_region ?_
  refine qm ?_
  refine qm ?_
  refine qn ?_
  refine qf Ty.fd131_6 ?_
  refine ow_store1 rfl rfl rfl rfl Ty.sc4 .here (SetN.one zdn) ?_
  refine qn ?_
  refine qf Ty.fd131_5 ?_
  refine ow_store1 rfl rfl rfl rfl Ty.sc4 .here (SetN.one zdn) ?_
  refine ow_nil ?_
  refine ret0n rfl ?_
  rotate_left
  refine cw_skip ?_
  refine ret0n rfl ?_
  rotate_left
  refine qk ?_
  refine qk ?_
  refine qk ?_
  refine qk ?_
  refine qv (v_pick_false rfl rfl) ?_
  refine qt ?_
  refine cw_false rfl ?_
  refine cw_skip ?_
  refine ret0n rfl ?_
  rotate_left
  refine qk ?_
  refine qk ?_
  refine qk ?_
  refine qk ?_
  refine qv (v_pick_false rfl rfl) ?_
  refine qm ?_
  refine qk ?_
  refine qk ?_
  refine qk ?_
  refine qk ?_
  refine qv (v_pick_false rfl rfl) ?_
  refine qt ?_
  refine cw_false rfl ?_
  refine cw_skip ?_
  refine ret0n rfl ?_
  rotate_left
  have hwt:m.written at_ size=true:=by simpa using hc17
  ·rw[show m.gotIt at_ size fin=_ from (if_pos hwt).trans (if_pos ⟨hc43,hc49,hc54⟩)]
   exact⟨_,rfl,OutAt.of hL2 hP2 hC2 rfl,zcov⟩
  ·rw[show m.gotIt at_ size fin=m.take at_ size from (if_pos (by simpa using hc17)).trans (if_neg fun h=>hc54 h.2.2)]
   exact⟨_,rfl,hO3,zcov⟩
  ·rw[show m.gotIt at_ size fin=m.take at_ size from (if_pos (by simpa using hc17)).trans (if_neg fun h=>by rw[hc49]at h;exact absurd h.2.1 (by decide))]
   exact⟨_,rfl,hO3,zcov⟩
  ·rw[show m.gotIt at_ size fin=m.take at_ size from (if_pos (by simpa using hc17)).trans (if_neg fun h=>by rw[hc43]at h;exact absurd h.1 (by decide))]
   exact⟨_,rfl,hO3,zcov⟩
theorem cuts_fits {v:Int}(hv:0≤v):∀{k l:List Rg},Good l→(∀r∈k,RgIn r)→(∀n,InR l n→0≤n∧n<v)→Good (k.foldl cutE l)∧(∀n,InR (k.foldl cutE l) n↔InR l n∧¬InR k n)∧((k.foldl cutE l).length:Int)≤v:=by
 intro k
 induction k with
 |nil=>
  intro l hg _ hi
  refine⟨hg,fun n=>⟨fun h=>⟨h,InR.nil⟩,fun h=>h.1⟩,?_⟩
  have:=good_len' (u:=0) hg hv hi
  simpa using this
 |cons r k ih=>
  intro l hg hr hi
  obtain⟨g1,g2,_⟩:=cut_fits (v:=v) hg (hr r (List.mem_cons_self)) hv hi
  obtain⟨h1,h2,h3⟩:=ih g1 (fun x hx=>hr x (List.mem_cons_of_mem _ hx)) (fun n hn=>hi n ((g2 n).1 hn).1)
  refine⟨h1,fun n=>?_,h3⟩
  rw[List.foldl_cons,h2,g2,InR.cons]
  constructor
  ·rintro⟨⟨h4,h5⟩,h6⟩
   exact⟨h4,fun h=>h.elim h5 h6⟩
  ·rintro⟨h4,h5⟩
   exact⟨⟨h4,fun h=>h5 (.inl h)⟩,fun h=>h5 (.inr h)⟩
theorem Good.inn {l:List Rg}(h:Good l):∀r∈l,RgIn r:=fun r hr=>(h.1 r hr).inn
theorem outLost_c {m:BufM}{b:Nat}{c:Hp}{at_ size:Int}{fin:Bool}(hsel:Sel G c R)(hO:OutAt m b c)(hw:m.WF)(ha:0≤at_∧at_≤18446744073709551615)(hz: -9223372036854775808≤size∧size≤9223372036854775807):
  Go.Sl.Fn Tryz.prog 60 #[.pointer (some ⟨b,0,none⟩),.int .u64 at_,.int .i64 size,.bool fin] B w0 G fun u G'=>∃c':Hp,u=.tuple #[]∧OutAt (m.lostIt at_ size fin) b c'∧G'=R c':=by
 refine Fn.sel0 hsel fun F hR hF=>?_
 have hO':=hO
 obtain⟨ao,cap,bp,bc,cd,cp,cc,rfl,hL,hP,hC⟩:=hO
 have h1:=hw.low
 have h2:=hw.top
 refine fn_enter Tryz.func60 rfl (by kernel_rfl) Tryz.ntmps60 (by simp) ?_
 refine cw_split4 ?_
 refine cw_seq ?_
 refine qs ?_
 refine qm ?_
 refine qv (v_eql_nil_some Tryz.underlying49 rfl) ?_
 refine qm ?_
 refine qm ?_
 refine qm ?_
 refine qm ?_
 refine ow_val rfl rfl (v_call rfl rfl (outWritten_c hO' (Sub.app zhas (Sub.app zhas (Sub.app zhas zhas))) hw ha hz)) ?_
 refine qv (v_not_bool rfl) ?_
 refine qv (v_pick_false rfl rfl) ?_
 refine qt ?_
 refine cw_bool rfl (fun hc18=>?_) (fun hc18=>?_)
 refine cw_ret ?_
 refine xw_then_ret ?_
 refine ret0 rfl ?_
 rotate_left
 refine cw_skip ?_
 refine xw_then ?_
 rotate_left
 ·rw[show m.lostIt at_ size fin=m from if_neg (by simpa using hc18)]
  exact⟨_,rfl,⟨ao,cap,bp,bc,cd,cp,cc,rfl,hL,hP,hC⟩,zcov⟩
 have hwt:m.written at_ size=true:=by simpa using hc18
 obtain⟨h3,h4,h5⟩:=BufM.written_iff.1 hwt
 have hrg:RgIn ⟨at_,at_+size⟩:=⟨ha,by dsimp only;omega⟩
 obtain⟨k1,k2,k3⟩:=add_fits (v:=65536) hw.gp hrg zom (fun n hn=>by have:=hw.ip n hn;omega) zdo
 have hip:∀n,InR (addE m.pend ⟨at_,at_+size⟩) n→0≤n∧n<65536:=fun n hn=>by
  rcases (k2 n).1 hn with h|h
  ·have:=hw.ip n h;omega
  ·dsimp only at h;omega
 refine cw_cut2 (ι:=(Hp)) [(0,_),(1,_),(3,_)] ⟨rfl,rfl,rfl,trivial⟩ ((fun _=>[])) ((fun x=>SetAt ⟨65536,(m.lose at_ size).pend⟩ bp x)) ((fun x=>[(b,.cells [.slice ao m.data.length cap,.int .u64 m.base,.pointer (some ⟨bp,0,none⟩),.pointer (some ⟨bc,0,none⟩),.bool m.fin,.bool m.waits,.bool m.endCame].toArray 131 (0,0))]::cd::x::cc::F)) ?_ ?_
 ·refine cw_seq ?_
  refine cw_region ?_
  refine qm ?_
  refine qv (v_gtr rfl rfl) ?_
  refine qt ?_
  refine cw_dec rfl (fun hc20=>?_) (fun hc20=>?_)
  refine qs ?_
  refine qm ?_
  refine qn ?_
  refine qf Ty.fd131_2 ?_
  refine ql (Var.at1 Ty.sc129 .here (GetN.lit rfl)) ?_
  refine qm ?_
  refine qm ?_
  refine qm ?_
  refine qv (v_convert Tryz.underlying3 Tryz.underlying27 rfl (nw_u64 zom zom)) ?_
  refine qv (v_add rfl rfl (nw_u64 zom zom)) ?_
  refine qv (v_build rfl (b_rng)) ?_
  (refine ow_call rfl rfl rfl rfl (setAddOk_l (r:=⟨at_,at_+size⟩) zsel hP hw.sp hrg zom) ?_;rintro _ _ ⟨x31,rfl,hq31,rfl⟩)
  refine qt ?_
  refine qs ?_
  refine qm ?_
  refine qn ?_
  refine qf Ty.fd131_3 ?_
  refine ql (Var.at1 Ty.sc129 .here (GetN.lit rfl)) ?_
  (refine ow_call rfl rfl rfl rfl (setList_l hC zhas hw.sc) ?_;rintro _ _ ⟨x36,rfl,hq36,rfl⟩)
  refine qv (v_len rfl Tryz.underlying77 rfl) ?_
  refine qm ?_
  refine qt ?_
  refine cw_block ?_
  rotate_left
  refine cw_skip ?_
  rotate_left
  ·have hlo:(m.lose at_ size).pend=m.came.foldl cutE (addE m.pend ⟨at_,at_+size⟩):=by rw[show m.lose at_ size=_ from if_pos hc20]
   rw[hlo]
   refine cw_loop2 (ι:=((Nat×Hp))) [(0,_),(1,_),(3,_),(36,_),(37,_)] ⟨rfl,rfl,rfl,rfl,rfl,trivial⟩ ((fun x=>[(38,.int .i64 x.1)])) ((fun x=>x.1≤m.came.length∧SetAt ⟨65536,(m.came.take x.1).foldl cutE (addE m.pend ⟨at_,at_+size⟩)⟩ bp x.2)) ((fun x=>m.came.length-x.1)) ((fun x=>x36.2.2::[(b,.cells [.slice ao m.data.length cap,.int .u64 m.base,.pointer (some ⟨bp,0,none⟩),.pointer (some ⟨bc,0,none⟩),.bool m.fin,.bool m.waits,.bool m.endCame].toArray 131 (0,0))]::cd::x.2::cc::F)) (((0,x31):Nat×Hp)) zenv zcov ?_ ?_
   ·exact⟨Nat.zero_le _,by assumption⟩
   rintro⟨j,cj⟩ ⟨hj,hPj⟩
   dsimp only at hj hPj⊢
   obtain⟨q1,q2,q3⟩:=cuts_fits (v:=65536) zom (k:=m.came.take j) k1 (fun r hr=>hw.gc.inn r (List.mem_of_mem_take hr)) hip
   have hwj:(⟨65536,(m.came.take j).foldl cutE (addE m.pend ⟨at_,at_+size⟩)⟩:SetM).WF:=⟨q1,by dsimp only;omega,by dsimp only;omega⟩
   have hlc:=hw.lc
   refine qs ?_
   refine qv (v_lss rfl rfl) ?_
   refine qt ?_
   refine cw_seq ?_
   refine cw_dec rfl (fun hc39=>?_) (fun hc39=>?_)
   refine cw_skip ?_
   refine xw_then ?_
   rotate_left
   refine cw_exit ?_
   refine xw_then_exit ?_
   refine xw_round_exit ?_
   refine xw_block_exit ?_
   rotate_left
   ·have hj2:j<m.came.length:=by omega
    have hoki:=hq36.ok _ (List.getElem_mem hj2)
    obtain⟨p1,p2,p3⟩:=cut_fits (v:=65536) q1 (hw.gc.inn _ (List.getElem_mem hj2)) zom (fun n hn=>hip n ((q2 n).1 hn).1)
    have hsu:(m.came.take (j+1)).foldl cutE (addE m.pend ⟨at_,at_+size⟩)=cutE ((m.came.take j).foldl cutE (addE m.pend ⟨at_,at_+size⟩)) m.came[j]:=by rw[List.take_succ_eq_append_getElem hj2,List.foldl_append];rfl
    refine cw_seq ?_
    refine cw_block ?_
    refine qs ?_
    refine ow_val rfl rfl (v_indexAddr_ls Tryz.underlying77 (rTy) rfl rfl zas rfl zom) ?_
    refine ql (Go.Sl.Vw.var (rTy) ((hq36.vw zhas)) zom) ?_
    refine ow_alloc rfl rfl Ty.ze137 fun b9=>?_
    refine ow_storeE rfl (rTy) rfl rfl .here zra zas ?_
    refine qt ?_
    refine cw_mix [] [5] [0,1,2,3,4] Ty.mixed rfl rfl rfl rfl zdk ?_
    refine hmv ?_
    refine hw_pure rfl rfl (v_nilCheck rfl) rfl ?_
    refine hw_pure rfl rfl (v_fieldAddr0 Ty.fd131_2 rfl) rfl ?_
    refine hw_read rfl rfl rfl (v_load rfl (Var.at1 Ty.sc129 (.there (.there .here)) (GetN.lit rfl))) ?_
    refine hw_read rfl rfl rfl (v_load rfl (Var.atN Ty.ag137 .here GetN.all zra)) ?_
    refine hw_nil ?_
    refine sw_nil ?_
    (refine ow_call rfl rfl rfl rfl (setCutOk_l zsel hPj hwj (hw.gc.inn _ (List.getElem_mem hj2)) zom) ?_;rintro _ _ ⟨x47,rfl,hq47,rfl⟩)
    refine ow_nil ?_
    refine xw_np ?_
    refine xw_block ?_
    refine xw_then ?_
    refine cw_region ?_
    refine qv (v_add rfl rfl (nw_i64 zom zom)) ?_
    refine qm ?_
    refine ow_nil ?_
    exact xw_round ((j+1,x47):Nat×Hp) ⟨by dsimp only;omega,by dsimp only;rw[hsu];exact hq47⟩ zdo zcov zenv
   ·have hx:m.came.take j=m.came:=List.take_of_length_le zom
    rw[hx]at hPj
    exact xw_joint cj hPj zcov zenv
  ·rw[show (m.lose at_ size).pend=m.pend from by rw[show m.lose at_ size=m from if_neg hc20]]
   exact xw_joint cp hP zcov zenv
 ·rintro cp2 hP2
  have hlo:m.lose at_ size=⟨m.data,m.base,(m.lose at_ size).pend,m.came,m.fin,m.waits,m.endCame⟩:=by unfold BufM.lose;split<;>rfl
  refine qs ?_
  refine qm ?_
  refine qm ?_
  refine ow_bool 50 rfl (fun hc50=>?_) (fun hc50=>?_)
  refine qm ?_
  refine qn ?_
  refine qf Ty.fd131_4 ?_
  refine ql (Var.at1 Ty.sc4 .here (GetN.lit rfl)) ?_
  refine qv (v_pick_true rfl rfl) ?_
  refine qm ?_
  refine ow_bool 56 rfl (fun hc56=>?_) (fun hc56=>?_)
  refine qm ?_
  refine qn ?_
  refine qf Ty.fd131_6 ?_
  refine ql (Var.at1 Ty.sc4 .here (GetN.lit rfl)) ?_
  refine qv (v_not_bool rfl) ?_
  refine qv (v_pick_true rfl rfl) ?_
  refine qt ?_
  refine cw_bool rfl (fun hc62=>?_) (fun hc62=>?_)
  refine cw_region ?_
  refine qm ?_
  refine qn ?_
  refine qf Ty.fd131_5 ?_
  refine ow_store1 rfl rfl rfl rfl Ty.sc4 .here (SetN.one zdn) ?_
  refine ow_nil ?_
  refine ret0n rfl ?_
  rotate_left
  refine cw_skip ?_
  refine ret0n rfl ?_
  rotate_left
  refine qk ?_
  refine qk ?_
  refine qk ?_
  refine qk ?_
  refine qk ?_
  refine qv (v_pick_false rfl rfl) ?_
  refine qt ?_
  refine cw_false rfl ?_
  refine cw_skip ?_
  refine ret0n rfl ?_
  rotate_left
  refine qk ?_
  refine qk ?_
  refine qk ?_
  refine qk ?_
  refine qv (v_pick_false rfl rfl) ?_
  refine qm ?_
  refine qk ?_
  refine qk ?_
  refine qk ?_
  refine qk ?_
  refine qk ?_
  refine qv (v_pick_false rfl rfl) ?_
  refine qt ?_
  refine cw_false rfl ?_
  refine cw_skip ?_
  refine ret0n rfl ?_
  rotate_left
  ·rw[show m.lostIt at_ size fin=_ from (if_pos hwt).trans (if_pos ⟨hc50,hc56,by simpa using hc62⟩),hlo]
   exact⟨_,rfl,OutAt.of hL hP2 hC rfl,zcov⟩
  ·rw[show m.lostIt at_ size fin=m.lose at_ size from (if_pos hwt).trans (if_neg fun h=>by rw[h.2.2]at hc62;cases hc62),hlo]
   exact⟨_,rfl,OutAt.of hL hP2 hC rfl,zcov⟩
  ·rw[show m.lostIt at_ size fin=m.lose at_ size from (if_pos hwt).trans (if_neg fun h=>by rw[hc56]at h;exact absurd h.2.1 (by decide)),hlo]
   exact⟨_,rfl,OutAt.of hL hP2 hC rfl,zcov⟩
  ·rw[show m.lostIt at_ size fin=m.lose at_ size from (if_pos hwt).trans (if_neg fun h=>by rw[hc50]at h;exact absurd h.1 (by decide)),hlo]
   exact⟨_,rfl,OutAt.of hL hP2 hC rfl,zcov⟩
theorem BufM.sent_mem {m:BufM}{at_ len:Int}{fin:Bool}(hw:m.WF)(ha:0≤at_)(hz:0≤len)(n:Int):InR (m.sent at_ len fin).pend n↔InR m.pend n∧¬(at_≤n∧n<at_+len):=by
 have h1:=hw.low
 have h2:=hw.top
 unfold BufM.sent
 dsimp only
 split
 ·rw[(cutE_spec hw.gp ⟨by dsimp only;omega,by dsimp only;omega⟩).2.1 n]
  dsimp only
  constructor
  ·rintro⟨h3,h4⟩;have:=hw.ip n h3;exact⟨h3,by omega⟩
  ·rintro⟨h3,h4⟩;exact⟨h3,by omega⟩
 ·constructor
  ·intro h3;have:=hw.ip n h3;exact⟨h3,by omega⟩
  ·exact fun h=>h.1
theorem BufM.sent_wf {m:BufM}{at_ len:Int}{fin:Bool}(hw:m.WF)(ha:0≤at_)(hz:0≤len):(m.sent at_ len fin).WF:=by
 have h1:=hw.low
 have h2:=hw.top
 refine⟨hw.low,hw.top,?_,hw.gc,fun n hn=>hw.ip n ((sent_mem hw ha hz n).1 hn).1,hw.ic,fun n hn=>hw.dis n ((sent_mem hw ha hz n).1 hn).1,hw.gone,hw.max_⟩
 unfold BufM.sent
 dsimp only
 split
 ·exact(cutE_spec hw.gp ⟨by dsimp only;omega,by dsimp only;omega⟩).1
 ·exact hw.gp
theorem BufM.take_mem {m:BufM}{at_ size:Int}(hw:m.WF)(ha:0≤at_)(hz:0≤size)(ht:at_+size≤m.base+m.data.length)(n:Int):(InR (m.take at_ size).pend n↔InR m.pend n∧¬(at_≤n∧n<at_+size))∧(InR (m.take at_ size).came n↔InR m.came n∨(at_≤n∧n<at_+size)):=by
 have h1:=hw.top
 have h2:=hw.low
 have hrg:RgIn ⟨at_,at_+size⟩:=⟨by dsimp only;omega,by dsimp only;omega⟩
 unfold BufM.take
 split
 ·rw[BufM.release_fin.2.2.2.1,BufM.release_fin.2.2.2.2]
  exact⟨(cutE_spec hw.gp hrg).2.1 n,(addE_spec hw.gc hrg).2.1 n⟩
 ·exact⟨⟨fun h=>⟨h,by omega⟩,fun h=>h.1⟩,⟨.inl,fun h=>h.elim id fun h=>by omega⟩⟩
theorem BufM.gotIt_wf {m:BufM}{at_ size:Int}{fin:Bool}(hw:m.WF)(ha:0≤at_):(m.gotIt at_ size fin).WF:=by
 unfold BufM.gotIt
 split
 ·rename_i h
  obtain⟨h3,h4,h5⟩:=BufM.written_iff.1 h
  have ht:=BufM.take_wf hw ha h3 h5
  split
  ·exact⟨ht.low,ht.top,ht.gp,ht.gc,ht.ip,ht.ic,ht.dis,ht.gone,ht.max_⟩
  ·exact ht
 ·exact hw
theorem BufM.lose_mem {m:BufM}{at_ size:Int}(hw:m.WF)(ha:0≤at_)(hz:0≤size)(ht:at_+size≤m.base+m.data.length)(n:Int):Good (m.lose at_ size).pend∧(InR (m.lose at_ size).pend n↔(InR m.pend n∨(at_≤n∧n<at_+size))∧¬InR m.came n):=by
 have h1:=hw.top
 have h2:=hw.low
 have hrg:RgIn ⟨at_,at_+size⟩:=⟨by dsimp only;omega,by dsimp only;omega⟩
 unfold BufM.lose
 split
 ·obtain⟨k1,k2,_⟩:=addE_spec hw.gp hrg
  obtain⟨q1,q2,_⟩:=cuts_fits (v:=65536) zom (k:=m.came) k1 hw.gc.inn fun n hn=>by
   rcases (k2 n).1 hn with h|h
   ·have:=hw.ip n h;omega
   ·dsimp only at h;omega
  exact⟨q1,by dsimp only;rw[q2,k2]⟩
 ·refine⟨hw.gp,fun h=>⟨.inl h,hw.dis n h⟩,fun h=>?_⟩
  rcases h.1 with h3|h3
  ·exact h3
  ·omega
theorem BufM.lose_wf {m:BufM}{at_ size:Int}(hw:m.WF)(ha:0≤at_)(hz:0≤size)(ht:at_+size≤m.base+m.data.length):(m.lose at_ size).WF:=by
 have hm:=BufM.lose_mem hw ha hz ht
 have hlo:m.lose at_ size=⟨m.data,m.base,(m.lose at_ size).pend,m.came,m.fin,m.waits,m.endCame⟩:=by unfold BufM.lose;split<;>rfl
 rw[hlo]
 refine⟨hw.low,hw.top,(hm 0).1,hw.gc,fun n hn=>?_,hw.ic,fun n hn=>((hm n).2.1 hn).2,hw.gone,hw.max_⟩
 rcases ((hm n).2.1 hn).1 with h|h
 ·exact hw.ip n h
 ·have:=hw.low;dsimp only;omega
theorem BufM.lostIt_wf {m:BufM}{at_ size:Int}{fin:Bool}(hw:m.WF)(ha:0≤at_):(m.lostIt at_ size fin).WF:=by
 unfold BufM.lostIt
 split
 ·rename_i h
  obtain⟨h3,h4,h5⟩:=BufM.written_iff.1 h
  have ht:=BufM.lose_wf hw ha h3 h5
  split
  ·exact⟨ht.low,ht.top,ht.gp,ht.gc,ht.ip,ht.ic,ht.dis,ht.gone,ht.max_⟩
  ·exact ht
 ·exact hw
end Go.Proofs.YtnlaffkihohfkaaGreat
namespace Go.Proofs.YtnlaffkihohfkaaGreat
open Go Go.Sl Go.Proofs
variable {B:Nat}{w0:World}{G:List Hp}{R:Hp→List Hp}
section
variable {P:Program}{ops:Array Oper}{Q:Exit→Act→World→Prop}{B:Nat}{w0:World}{N:Nat}{G:List Hp}{E:Env}{ty U:TypeId}
open Go.RowKit
end
def enI:Enc Int:=⟨fun n=>[.int .u8 n],1,fun n=>.int .u8 n,fun n=>0≤n∧n≤255⟩
theorem iTy:EncTy Tryz.prog 5 enI:=EncTy.scalar Ty.sc5 rfl (fun _=>rfl) (fun _=>rfl)
@[simp] theorem enI_ok (n:Int):enI.ok n=(0≤n∧n≤255):=rfl
def toB (n:Int):UInt8:=UInt8.ofNat n.toNat
theorem toB_val {n:Int}(h:enI.ok n):((toB n).toNat:Int)=n:=by
 have h1:0≤n∧n≤255:=h
 unfold toB
 rw[UInt8.toNat_ofNat_of_lt' (by show n.toNat<256;omega)]
 omega
theorem Vw.bytes {S:World→Prop}{v:Value}{l:List Int}(h:Vw enI S v l):Vw enB S v (l.map toB):=by
 obtain⟨ao,cap,hv,hc⟩:=h.view
 have hf:∀k:List Int,(∀a∈k,enI.ok a)→(k.map toB).flatMap enB.f=k.flatMap enI.f:=by
  intro k hk
  induction k with
  |nil=>rfl
  |cons a k ih=>
   simp only[List.map_cons,List.flatMap_cons,ih fun x hx=>hk x (List.mem_cons_of_mem _ hx)]
   congr 1
   show[Value.int .u8 (toB a).toNat]=[Value.int .u8 a]
   rw[toB_val (hk a (by simp))]
 refine⟨⟨ao,cap,by rw[List.length_map];exact hv,by simpa using hc⟩,fun _ _=>trivial,fun ao n cap e hl=>?_⟩
 obtain⟨h1,h2⟩:=h.get ao n cap e (by simpa using hl)
 exact⟨h1,fun i u hu=>h2 i u (by rw[←hf l h.ok];exact hu)⟩
end Go.Proofs.YtnlaffkihohfkaaGreat
namespace Go.Proofs.YtnlaffkihohfkaaGreat
open Go Go.Sl Go.Proofs
variable {B:Nat}{w0:World}{G:List Hp}{R:Hp→List Hp}
theorem buf0_wf:buf0.WF:=⟨by simp[buf0],by simp[buf0],Good.nil,Good.nil,fun n h=>absurd h InR.nil,fun n h=>absurd h InR.nil,fun n h=>absurd h InR.nil,fun n h1 h2=>by simp[buf0]at h2;omega,InR.nil⟩
def rngL (a b:Int):List Rg:=if a<b then [⟨a,b⟩] else []
theorem rngL_good {a b:Int}(ha:0≤a)(hb:b≤18446744073709551615):Good (rngL a b):=by
 unfold rngL
 split
 ·rename_i h
  exact⟨fun r hr=>by simp at hr;subst hr;exact⟨ha,h,hb⟩,by simp⟩
 ·exact Good.nil
theorem rngL_mem {a b n:Int}:InR (rngL a b) n↔a≤n∧n<b:=by
 unfold rngL
 split
 ·rw[InR.cons]
  exact⟨fun h=>h.elim id fun h=>absurd h InR.nil,.inl⟩
 ·exact⟨fun h=>absurd h InR.nil,fun h=>by omega⟩
theorem rngL_eq {l:List Rg}{a b:Int}(hg:Good l)(ha:0≤a)(hb:b≤18446744073709551615)(h:∀n,InR l n↔a≤n∧n<b):l=rngL a b:=Good.ext hg (rngL_good ha hb) fun n=>by rw[h,rngL_mem]
theorem rngL_nil {a b:Int}(h:b≤a):rngL a b=[]:=if_neg zom
theorem rngL_first {a b:Int}(ha:0≤a):firstR (rngL a b) 0=if a<b then (⟨a,b⟩,true) else (⟨0,0⟩,false):=by
 unfold rngL
 split
 ·rename_i h
  have hb:(0:Int)<b:=by omega
  simp[firstR,cutAt,List.findIdx_cons,hb]
  omega
 ·simp[firstR,cutAt]
end Go.Proofs.YtnlaffkihohfkaaGreat
namespace Go.Proofs.YtnlaffkihohfkaaGreat
open Go Go.Sl Go.Proofs
variable {B:Nat}{w0:World}{G:List Hp}{R:Hp→List Hp}
variable {m:BufM} {fin said came:Bool}
end Go.Proofs.YtnlaffkihohfkaaGreat
namespace Go.Sl
open Go.RowKit Go Go.Instr
def MapL (kd:IntKind)(m:List (Int×Value))(es:List MapEntry):Prop:=es.map (fun e=>(e.key,e.val))=m.map fun p=>(Value.int kd p.1,p.2)
def look (m:List (Int×Value))(k:Int):Option Value:=(m.find? fun p=>decide (p.1=k)).map (·.2)
def lookI (m:List (Int×Value))(k:Int):Option (Nat×Value):=match m with
 |[]=>none
 |p::m=>if p.1=k then some (0,p.2) else (lookI m k).map fun q=>(q.1+1,q.2)
theorem findNow_eq {kd kd':IntKind}{k:Int}:∀{es:List MapEntry} {m:List (Int×Value)} (i:Nat),MapL kd m es→findNow (.int kd') (.int kd k) es i=some ((lookI m k).map fun q=>(i+q.1,q.2)):=by
 intro es
 induction es with
 |nil=>
  intro m i h
  cases m with
  |nil=>rfl
  |cons p m=>simp[MapL]at h
 |cons e es ih=>
  intro m i h
  cases m with
  |nil=>simp[MapL]at h
  |cons p m=>
   simp only[MapL,List.map_cons,List.cons.injEq,Prod.mk.injEq]at h
   obtain⟨⟨h1,h2⟩,h3⟩:=h
   have h4:=ih (m:=m) (i+1) h3
   unfold findNow
   rw[h1]
   simp only[sameNow,if_true]
   by_cases hk:p.1=k
   ·have:(k == p.1)=true:=by simp[hk]
    rw[this]
    simp[lookI,hk,h2]
   ·have:(k == p.1)=false:=by simp;exact fun h=>hk h.symm
    rw[this]
    simp only[lookI,if_neg hk]
    rw[h4]
    cases lookI m k with
    |none=>rfl
    |some q=>simp;omega
theorem lookI_look (m:List (Int×Value))(k:Int):(lookI m k).map (·.2)=look m k:=by
 induction m with
 |nil=>rfl
 |cons p m ih=>
  unfold lookI look
  by_cases hk:p.1=k
  ·simp[hk]
  ·rw[if_neg hk,List.find?_cons_of_neg (by simp[hk])]
   rw[look]at ih
   rw[←ih]
   cases lookI m k<;>rfl
variable {P:Program}{ops:Array Oper}{Q:Exit→Act→World→Prop}{B:Nat}{w0:World}{N:Nat}{G:List Hp}{E:Env}{ty T:TypeId}
def MapF (kd:IntKind)(f:Int→Option Value)(b:Nat)(c:Hp):Prop:=∃es clock m,c=[(b,.map es clock)]∧MapL kd m es.toList∧(m.map (·.1)).Nodup∧∀k,look m k=f k
theorem run_checkKey {emp:Bool}{n:Nat}{t:TypeId}{kd kd':IntKind}{k:Int}(ht:P.underlying t=some (.int kd'))(w:World):(checkKey emp (n+1) t (.int kd k)).run P w=.ok () w:=by
 simp[checkKey,run_underlying ht]
theorem run_findKey {t:TypeId}{kd kd':IntKind}{k:Int}{es:List MapEntry}{m:List (Int×Value)}(ht:P.underlying t=some (.int kd'))(h:MapL kd m es)(w:World):(findKey t (.int kd k) es).run P w=.ok (lookI m k) w:=by
 have h1:=findNow_eq (kd':=kd') (k:=k) 0 h
 simp only[Nat.zero_add]at h1
 have h2:(lookI m k).map (fun q=>(q.1,q.2))=lookI m k:=by cases lookI m k<;>rfl
 rw[h2]at h1
 simp[findKey,run_underlying ht,h1]
theorem run_getObjM {b clock:Nat}{es:Array MapEntry}{w:World}(hb:w.heap[b]?=some (.map es clock)):(getObj b).run P w=.ok (.map es clock) w:=by simp[getObj,Sem.run,hb]
theorem run_setObjM {b clock:Nat}{es:Array MapEntry}{w:World}(o:Obj)(hb:w.heap[b]?=some (.map es clock)):(setObj b o).run P w=.ok () {w with heap:=w.heap.setIfInBounds b o}:=by simp[setObj,Sem.run,hb]
theorem v_lookupM {x y:Operand}{kt e:TypeId}{kd kd':IntKind}{b:Nat}{k:Int}{f:Int→Option Value}{c:Hp}{z:Value}(hT:P.underlying T=some (.map kt e))(hk:P.underlying kt=some (.int kd'))(hz:∀w:World,(zeroValue e).run P w=.ok z w)
  (hx:Env.ev E x=some (.map (some b))) (hy:Env.ev E y=some (.int kd k)) (hs:Sub c G) (hM:MapF kd f b c):OpV P (St B w0 G) N E (.lookup T x y true) ty (.tuple #[(f k).getD z,.bool (f k).isSome]):=fun a w ha hw=>by
 obtain⟨es,clock,m,rfl,hL,_,hf⟩:=hM
 have hb:=hw.sub hs (List.Mem.head _)
 have h1:=run_checkKey (P:=P) (emp:=es.isEmpty) (n:=9999) (kd:=kd) (k:=k) hk w
 have h2:=run_findKey (P:=P) (k:=k) hk hL w
 have h3:=lookI_look m k
 rw[hf]at h3
 have h4 : (execOp a.eval ⟨none, .lookup T x y true, ty, "", #[], none⟩).run P w = .ok (.value (.tuple #[(f k).getD z, .bool (f k).isSome])) w := by
  rw[←h3]
  cases hl:lookI m k with
  |none=>simp[execOp,Instr.lookup,ha.ev hx,ha.ev hy,run_underlying hT,run_getObjM hb,h1,h2,hl,hz]
  |some q=>simp[execOp,Instr.lookup,ha.ev hx,ha.ev hy,run_underlying hT,run_getObjM hb,h1,h2,hl]
 rw[h4]
 exact⟨rfl,rfl⟩
theorem v_lookupM0 {x y:Operand}{kt e:TypeId}{kd kd':IntKind}{b:Nat}{k:Int}{f:Int→Option Value}{c:Hp}{z:Value}(hT:P.underlying T=some (.map kt e))(hk:P.underlying kt=some (.int kd'))(hz:∀w:World,(zeroValue e).run P w=.ok z w)
  (hx:Env.ev E x=some (.map (some b))) (hy:Env.ev E y=some (.int kd k)) (hs:Sub c G) (hM:MapF kd f b c):OpV P (St B w0 G) N E (.lookup T x y false) ty ((f k).getD z):=fun a w ha hw=>by
 obtain⟨es,clock,m,rfl,hL,_,hf⟩:=hM
 have hb:=hw.sub hs (List.Mem.head _)
 have h1:=run_checkKey (P:=P) (emp:=es.isEmpty) (n:=9999) (kd:=kd) (k:=k) hk w
 have h2:=run_findKey (P:=P) (k:=k) hk hL w
 have h3:=lookI_look m k
 rw[hf]at h3
 have h4 : (execOp a.eval ⟨none, .lookup T x y false, ty, "", #[], none⟩).run P w = .ok (.value ((f k).getD z)) w := by
  rw[←h3]
  cases hl:lookI m k with
  |none=>simp[execOp,Instr.lookup,ha.ev hx,ha.ev hy,run_underlying hT,run_getObjM hb,h1,h2,hl,hz]
  |some q=>simp[execOp,Instr.lookup,ha.ev hx,ha.ev hy,run_underlying hT,run_getObjM hb,h1,h2,hl]
 rw[h4]
 exact⟨rfl,rfl⟩
def updM (m:List (Int×Value))(k:Int)(v:Value):List (Int×Value):=match m with
 |[]=>[(k,v)]
 |p::m=>if p.1=k then (k,v)::m else p::updM m k v
theorem look_upd (m:List (Int×Value))(k:Int)(v:Value)(j:Int):look (updM m k v) j=if j=k then some v else look m j:=by
 induction m with
 |nil=>
  unfold updM look
  by_cases h:j=k
  ·subst h;simp
  ·have:¬k=j:=fun hh=>h hh.symm
   simp[h,this]
 |cons p m ih=>
  unfold updM
  by_cases hp:p.1=k
  ·rw[if_pos hp]
   unfold look
   by_cases h:j=k
   ·subst h;simp
   ·have h1:¬k=j:=fun hh=>h hh.symm
    have h2:¬p.1=j:=fun hh=>h (hh.symm.trans hp)
    simp[h,h1,h2]
  ·rw[if_neg hp]
   unfold look at ih⊢
   by_cases h2:p.1=j
   ·have h3:¬j=k:=fun hh=>hp (h2.trans hh)
    simp[h2,h3]
   ·rw[List.find?_cons_of_neg (by simp[h2]),ih,List.find?_cons_of_neg (by simp[h2])]
theorem keys_upd (m:List (Int×Value))(k:Int)(v:Value):∀x∈(updM m k v).map (·.1),x=k∨x∈m.map (·.1):=by
 induction m with
 |nil=>intro x hx;simp[updM]at hx;exact .inl hx
 |cons p m ih=>
  intro x hx
  unfold updM at hx
  by_cases hp:p.1=k
  ·rw[if_pos hp]at hx
   simp only[List.map_cons,List.mem_cons]at hx⊢
   rcases hx with h|h
   ·exact .inl h
   ·exact .inr (.inr h)
  ·rw[if_neg hp]at hx
   simp only[List.map_cons,List.mem_cons]at hx⊢
   rcases hx with h|h
   ·exact .inr (.inl h)
   ·rcases ih x h with h|h
    ·exact .inl h
    ·exact .inr (.inr h)
theorem nodup_upd {m:List (Int×Value)}(h:(m.map (·.1)).Nodup)(k:Int)(v:Value):((updM m k v).map (·.1)).Nodup:=by
 induction m with
 |nil=>simp[updM]
 |cons p m ih=>
  simp only[List.map_cons,List.nodup_cons]at h
  unfold updM
  by_cases hp:p.1=k
  ·rw[if_pos hp]
   simp only[List.map_cons,List.nodup_cons]
   rw[←hp]
   exact h
  ·rw[if_neg hp]
   simp only[List.map_cons,List.nodup_cons]
   refine⟨fun hh=>?_,ih h.2⟩
   rcases keys_upd m k v _ hh with h1|h1
   ·exact hp h1
   ·exact h.1 h1
theorem upd_some {kd:IntKind}{k:Int}{v:Value}:∀{es:List MapEntry} {m:List (Int×Value)} {i:Nat} {u:Value},MapL kd m es→lookI m k=some (i,u)→
  (∃e,es[i]?=some e∧e.key=.int kd k)∧∀(g:MapEntry→MapEntry),(∀e,(g e).key=.int kd k∧(g e).val=v)→MapL kd (updM m k v) (es.modify i g):=by
 intro es
 induction es with
 |nil=>
  intro m i u h hl
  cases m with
  |nil=>simp[lookI]at hl
  |cons p m=>simp[MapL]at h
 |cons e es ih=>
  intro m i u h hl
  cases m with
  |nil=>simp[lookI]at hl
  |cons p m=>
   simp only[MapL,List.map_cons,List.cons.injEq,Prod.mk.injEq]at h
   obtain⟨⟨h1,h2⟩,h3⟩:=h
   unfold lookI at hl
   by_cases hp:p.1=k
   ·rw[if_pos hp]at hl
    injection hl with hl
    injection hl with hl1 hl2
    subst hl1
    refine⟨⟨e,rfl,by rw[h1,hp]⟩,fun g hg=>?_⟩
    have hg1:=hg e
    unfold updM
    rw[if_pos hp]
    simp only[MapL,List.modify_zero_cons,List.map_cons,hg1.1,hg1.2]
    rw[h3]
   ·rw[if_neg hp]at hl
    cases hq:lookI m k with
    |none=>rw[hq]at hl;cases hl
    |some q=>
     rw[hq]at hl
     obtain⟨i',u'⟩:=q
     injection hl with hl
     injection hl with hl1 hl2
     subst hl1
     obtain⟨⟨e',he1,he2⟩,hup⟩:=ih (m:=m) h3 hq
     refine⟨⟨e',by simpa using he1,he2⟩,fun g hg=>?_⟩
     have h4:=hup g hg
     unfold updM
     rw[if_neg hp]
     simp only[MapL,List.modify_succ_cons,List.map_cons,h1,h2]
     simp only[MapL]at h4
     rw[h4]
theorem upd_none {kd:IntKind}{k:Int}{v:Value}{e:MapEntry}(he:e.key=.int kd k∧e.val=v):∀{es:List MapEntry} {m:List (Int×Value)},MapL kd m es→lookI m k=none→MapL kd (updM m k v) (es++[e]):=by
 intro es
 induction es with
 |nil=>
  intro m h hl
  cases m with
  |nil=>simp[MapL,updM,he.1,he.2]
  |cons p m=>simp[MapL]at h
 |cons x es ih=>
  intro m h hl
  cases m with
  |nil=>simp[MapL]at h
  |cons p m=>
   simp only[MapL,List.map_cons,List.cons.injEq,Prod.mk.injEq]at h
   obtain⟨⟨h1,h2⟩,h3⟩:=h
   unfold lookI at hl
   by_cases hp:p.1=k
   ·rw[if_pos hp]at hl;cases hl
   ·rw[if_neg hp]at hl
    have h4:=ih (m:=m) h3 (by cases hq:lookI m k with|none=>rfl|some q=>rw[hq]at hl;cases hl)
    unfold updM
    rw[if_neg hp]
    simp only[MapL,List.cons_append,List.map_cons,h1,h2]at h4⊢
    rw[h4]
theorem run_keyStays {kd:IntKind}{k:Int}{w:World}:(keyThatStays (.int kd k) (.int kd k)).run P w=.ok (.int kd k) w:=by
 have h:sameBits 10000 (.int kd k) (.int kd k)=true:=by
  show sameBits (9999+1) (.int kd k) (.int kd k)=true
  simp[sameBits]
 simp[keyThatStays,h]
theorem St.setMap {w:World}(h:St B w0 G w){b:Nat}{o o':Obj}{R:Hp→List Hp}(hs:Sel G [(b,o)] R):St B w0 (R [(b,o')]) {w with heap:=w.heap.setIfInBounds b o'}:=by
 have hb:=h.read hs (List.Mem.head _)
 have hlt:b<w.heap.size:=(Array.getElem?_eq_some_iff.1 hb).1
 exact h.write hs rfl rfl rfl (by simp) (by simp[hlt]) fun k hk=>by simp[Array.getElem?_setIfInBounds_ne (Ne.symm hk)]
theorem ow_mapUpdate {x y u:Operand}{kt e:TypeId}{kd kd':IntKind}{b:Nat}{k:Int}{v:Value}{f:Int→Option Value}{c:Hp}{R:Hp→List Hp}{pos:String}{af:Array Edge}{g:Option (Nat×Bool)}{rest:List Oper}(hg:Env.guard E ops g=some true)
  (hT:P.underlying T=some (.map kt e)) (hk:P.underlying kt=some (.int kd')) (hx:Env.ev E x=some (.map (some b))) (hy:Env.ev E y=some (.int kd k)) (hu:Env.ev E u=some v) (hs:Sel G c R) (hM:MapF kd f b c)
  (h:∀c',MapF kd (fun j=>if j=k then some v else f j) b c'→OW P ops Q B w0 N (R c') E rest):OW P ops Q B w0 N G E (⟨none,.mapUpdate T x y u,ty,pos,af,g⟩::rest):=fun a w ha hw=>by
 unfold wpList
 rw[if_pos (ha.guard (o:=⟨none,.mapUpdate T x y u,ty,pos,af,g⟩) hg)]
 obtain⟨es,clock,m,rfl,hL,hnd,hf⟩:=hM
 have hb:=hw.read hs (List.Mem.head _)
 refine .inl ?_
 unfold Oper.wp
 have h1:=run_checkKey (P:=P) (emp:=false) (n:=9999) (kd:=kd) (k:=k) hk w
 have h2:=run_findKey (P:=P) (k:=k) hk hL w
 have hfn:∀j,look (updM m k v) j=if j=k then some v else f j:=fun j=>by rw[look_upd,hf]
 cases hl:lookI m k with
 |none=>
  have h3:(execOp a.eval ⟨none,.mapUpdate T x y u,ty,pos,af,g⟩).run P w=.ok .skip {w with heap:=w.heap.setIfInBounds b (.map (es.push {key:=.int kd k,val:=v,born:=clock}) (clock+1))}:=by
   simp[execOp,Instr.mapUpdate,ha.ev hx,ha.ev hy,ha.ev hu,run_underlying hT,run_getObjM hb,run_setObjM _ hb,h1,h2,hl]
  rw[h3]
  exact h _ ⟨_,_,updM m k v,rfl,by rw[Array.toList_push];exact upd_none ⟨rfl,rfl⟩ hL hl,nodup_upd hnd k v,hfn⟩ a _ ha (hw.setMap hs)
 |some q=>
  obtain⟨i,u0⟩:=q
  obtain⟨⟨e0,he1,he2⟩,hup⟩:=upd_some (v:=v) hL hl
  have he3:es[i]?=some e0:=by simpa using he1
  have h3:(execOp a.eval ⟨none,.mapUpdate T x y u,ty,pos,af,g⟩).run P w=.ok .skip {w with heap:=w.heap.setIfInBounds b (.map (es.modify i fun e=>{e with key:=.int kd k,val:=v}) clock)}:=by
   simp[execOp,Instr.mapUpdate,ha.ev hx,ha.ev hy,ha.ev hu,run_underlying hT,run_getObjM hb,run_setObjM _ hb,h1,h2,hl,he3,he2,run_keyStays]
  rw[h3]
  exact h _ ⟨_,_,updM m k v,rfl,by rw[Array.toList_modify];exact hup _ fun e=>⟨rfl,rfl⟩,nodup_upd hnd k v,hfn⟩ a _ ha (hw.setMap hs)
theorem ow_makeMap {d:Nat}{kd:IntKind}{pos:String}{af:Array Edge}{g:Option (Nat×Bool)}{rest:List Oper}(hg:Env.guard E ops g=some true)(hd:Nat.blt d N=true)
  (h:∀b c,MapF kd (fun _=>none) b c→OW P ops Q B w0 N (c::G) ((d,.map (some b))::E) rest):OW P ops Q B w0 N G E (⟨some d,.makeMap T none,ty,pos,af,g⟩::rest):=fun a w ha hw=>by
 unfold wpList
 rw[if_pos (ha.guard (o:=⟨some d,.makeMap T none,ty,pos,af,g⟩) hg)]
 refine .inl ?_
 unfold Oper.wp
 have h3:(execOp a.eval ⟨some d,.makeMap T none,ty,pos,af,g⟩).run P w=.ok (.value (.map (some w.heap.size))) (w.alloc (.map #[] 0)):=by
  simp[execOp,Instr.makeMap]
 rw[h3]
 exact h w.heap.size _ ⟨#[],0,[],rfl,by simp[MapL],by simp,fun k=>rfl⟩ _ _ (ha.put (by simpa using hd) _) (hw.new _)
def delM (m:List (Int×Value))(k:Int):List (Int×Value):=m.filter fun p=>!decide (p.1=k)
theorem look_del (m:List (Int×Value))(k j:Int):look (delM m k) j=if j=k then none else look m j:=by
 unfold look delM
 induction m with
 |nil=>by_cases h:j=k<;>simp[h]
 |cons p m ih=>
  by_cases hp:p.1=k
  ·rw[List.filter_cons_of_neg (by simp[hp]),ih]
   by_cases h:j=k
   ·simp[h]
   ·rw[if_neg h,if_neg h,List.find?_cons_of_neg (by simp;exact fun hh=>h (hh.symm.trans hp))]
  ·rw[List.filter_cons_of_pos (by simp[hp])]
   by_cases h2:p.1=j
   ·have h3:¬j=k:=fun hh=>hp (h2.trans hh)
    simp[h2,h3]
   ·rw[List.find?_cons_of_neg (by simp[h2]),ih,List.find?_cons_of_neg (by simp[h2])]
theorem del_none {m:List (Int×Value)}{k:Int}(h:lookI m k=none):delM m k=m:=by
 induction m with
 |nil=>rfl
 |cons p m ih=>
  unfold lookI at h
  by_cases hp:p.1=k
  ·rw[if_pos hp]at h;cases h
  ·rw[if_neg hp]at h
   have h2:=ih (by cases hq:lookI m k with|none=>rfl|some q=>rw[hq]at h;cases h)
   unfold delM at h2⊢
   rw[List.filter_cons_of_pos (by simp[hp]),h2]
theorem del_some {kd:IntKind}{k:Int}:∀{es:List MapEntry} {m:List (Int×Value)} {i:Nat} {u:Value},MapL kd m es→(m.map (·.1)).Nodup→lookI m k=some (i,u)→i<es.length∧MapL kd (delM m k) (es.eraseIdx i):=by
 intro es
 induction es with
 |nil=>
  intro m i u h _ hl
  cases m with
  |nil=>simp[lookI]at hl
  |cons p m=>simp[MapL]at h
 |cons e es ih=>
  intro m i u h hnd hl
  cases m with
  |nil=>simp[lookI]at hl
  |cons p m=>
   simp only[MapL,List.map_cons,List.cons.injEq,Prod.mk.injEq]at h
   obtain⟨⟨h1,h2⟩,h3⟩:=h
   simp only[List.map_cons,List.nodup_cons]at hnd
   unfold lookI at hl
   by_cases hp:p.1=k
   ·rw[if_pos hp]at hl
    injection hl with hl
    injection hl with hl1 hl2
    subst hl1
    have h4:delM m k=m:=by
     unfold delM
     refine List.filter_eq_self.2 fun q hq=>?_
     have:¬q.1=k:=fun hh=>hnd.1 (List.mem_map.2 ⟨q,hq,hh.trans hp.symm⟩)
     simp[this]
    refine⟨by simp,?_⟩
    have h5:delM (p::m) k=m:=by
     have:delM (p::m) k=delM m k:=List.filter_cons_of_neg (by simp[hp])
     rw[this,h4]
    rw[h5]
    simpa [MapL] using h3
   ·rw[if_neg hp]at hl
    cases hq:lookI m k with
    |none=>rw[hq]at hl;cases hl
    |some q=>
     rw[hq]at hl
     obtain⟨i',u'⟩:=q
     injection hl with hl
     injection hl with hl1 hl2
     subst hl1
     obtain⟨g1,g2⟩:=ih (m:=m) h3 hnd.2 hq
     refine⟨by simpa using g1,?_⟩
     have h5:delM (p::m) k=p::delM m k:=List.filter_cons_of_pos (by simp[hp])
     rw[h5]
     simp only[MapL]at g2⊢
     simp only[List.eraseIdx_cons_succ,List.map_cons,h1,h2,g2]
theorem ow_delete {x y:Operand}{kt e:TypeId}{kd kd':IntKind}{b:Nat}{k:Int}{f:Int→Option Value}{c:Hp}{R:Hp→List Hp}{tys:Array TypeId}{pos:String}{af:Array Edge}{g:Option (Nat×Bool)}{rest:List Oper}(hg:Env.guard E ops g=some true)
  (ht:tys[0]?=some T) (hT:P.underlying T=some (.map kt e)) (hk:P.underlying kt=some (.int kd')) (hx:Env.ev E x=some (.map (some b))) (hy:Env.ev E y=some (.int kd k)) (hs:Sel G c R) (hM:MapF kd f b c)
  (h:∀c',MapF kd (fun j=>if j=k then none else f j) b c'→OW P ops Q B w0 N (R c') E rest):OW P ops Q B w0 N G E (⟨none,.call {callee:=.builtin .delete,args:=#[x,y],argTypes:=tys},ty,pos,af,g⟩::rest):=fun a w ha hw=>by
 unfold wpList
 rw[if_pos (ha.guard (o:=⟨none,.call {callee:=.builtin .delete,args:=#[x,y],argTypes:=tys},ty,pos,af,g⟩) hg)]
 obtain⟨es,clock,m,rfl,hL,hnd,hf⟩:=hM
 have hb:=hw.read hs (List.Mem.head _)
 refine .inl ?_
 unfold Oper.wp
 have h1:=run_checkKey (P:=P) (emp:=es.isEmpty) (n:=9999) (kd:=kd) (k:=k) hk w
 have h2:=run_findKey (P:=P) (k:=k) hk hL w
 have hfn:∀j,look (delM m k) j=if j=k then none else f j:=fun j=>by rw[look_del,hf]
 have hnd2:((delM m k).map (·.1)).Nodup:=List.Nodup.sublist (List.Sublist.map _ List.filter_sublist) hnd
 cases hl:lookI m k with
 |none=>
  have h3:(execOp a.eval ⟨none,.call {callee:=.builtin .delete,args:=#[x,y],argTypes:=tys},ty,pos,af,g⟩).run P w=.ok (.value (.tuple #[])) {w with heap:=w.heap.setIfInBounds b (.map es clock)}:=by
   simp[execOp,resolve,ha.ev hx,ha.ev hy,invoke,builtin,Builtin.delete_,ht,run_underlying hT,run_getObjM hb,run_setObjM _ hb,h1,h2,hl]
  rw[h3]
  exact h _ ⟨_,_,delM m k,rfl,by rw[del_none hl];exact hL,hnd2,hfn⟩ a _ ha (hw.setMap hs)
 |some q=>
  obtain⟨i,u0⟩:=q
  obtain⟨hi,hup⟩:=del_some hL hnd hl
  have h3:(execOp a.eval ⟨none,.call {callee:=.builtin .delete,args:=#[x,y],argTypes:=tys},ty,pos,af,g⟩).run P w=.ok (.value (.tuple #[])) {w with heap:=w.heap.setIfInBounds b (.map (es.eraseIdxIfInBounds i) clock)}:=by
   simp[execOp,resolve,ha.ev hx,ha.ev hy,invoke,builtin,Builtin.delete_,ht,run_underlying hT,run_getObjM hb,run_setObjM _ hb,h1,h2,hl]
  rw[h3]
  have hi2:i<es.size:=by simpa using hi
  exact h _ ⟨_,_,delM m k,rfl,by rw[Array.eraseIdxIfInBounds,dif_pos hi2,Array.toList_eraseIdx];exact hup,hnd2,hfn⟩ a _ ha (hw.setMap hs)
end Go.Sl
namespace Go.Sl
open Go.RowKit Go Go.Instr
variable {P:Program}{ops:Array Oper}{Q:Exit→Act→World→Prop}{B:Nat}{w0:World}{N:Nat}{G:List Hp}{E:Env}{ty T:TypeId}
structure ZeroE {α:Type}(P:Program)(e:TypeId)(En:Enc α)(a:α)(bytes:Nat):Prop where
 info:∃i z,P.info? e=some i∧i.size=En.size∧i.bytes=bytes∧i.zero=some z∧z.cells=(En.f a).toArray
 ok:En.ok a
theorem ZeroE.of {α:Type}{e:TypeId}{En:Enc α}{a:α}{bytes:Nat}(h:(P.info? e).map (fun i=>(i.size,i.bytes,i.zero.map fun z=>z.cells.toList))=some (En.size,bytes,some (En.f a)))(ha:En.ok a):ZeroE P e En a bytes:=⟨by
  cases hq:P.info? e with
  |none=>rw[hq]at h;simp at h
  |some i=>
   rw[hq]at h
   simp only[Option.map_some,Option.some.injEq,Prod.mk.injEq,Option.map_eq_some_iff]at h
   obtain⟨h1,h2,z,h3,h4⟩:=h
   exact⟨i,z,rfl,h1,h2,h3,by rw[←h4]⟩,ha⟩
theorem fm_rep {α:Type}{f:α→List Value}{a:α}{n size:Nat}(hf:(f a).length=size)(hp:0<size):(List.replicate n a).flatMap f=((List.range (n*size)).map fun i=>(f a).toArray[i%(f a).toArray.size]!):=by
 have hl:((List.replicate n a).flatMap f).length=n*size:=by
  rw[fm_len (k:=size) fun b hb=>by rw[(List.mem_replicate.1 hb).2];exact hf,List.length_replicate]
 refine List.ext_getElem (by rw[hl];simp) fun i h1 h2=>?_
 rw[hl]at h1
 have hq:i/size<n:=Nat.div_lt_of_lt_mul (by rw[Nat.mul_comm];exact h1)
 have hm:=Nat.mod_lt i hp
 have hdm:i=i/size*size+i%size:=by rw[Nat.mul_comm];exact(Nat.div_add_mod i size).symm
 have hx:i%size<(f a).length:=by rw[hf];exact hm
 have h3:=fm_get (f:=f) (k:=size) (l:=List.replicate n a) (i:=i/size) (a:=a) (j:=i%size) (v:=(f a)[i%size]) (fun b hb=>by rw[(List.mem_replicate.1 hb).2];exact hf) (by simp[hq]) (List.getElem?_eq_getElem hx)
 rw[←hdm]at h3
 have h4:=(List.getElem?_eq_some_iff.1 h3).2
 rw[h4]
 have hx2:i%size<(f a).length:=hx
 simp only[List.getElem_map,List.getElem_range,List.size_toArray,hf]
 rw[getElem!_pos _ _ (by simpa using hx2)]
 simp
theorem ow_makeL {α:Type}{En:Enc α}{d:Nat}{x y:Operand}{e bytes n:Nat}{a0:α}{k k':IntKind}{l m:Int}{pos:String}{af:Array Edge}{g:Option (Nat×Bool)}{rest:List Oper}(hg:Env.guard E ops g=some true)(hd:Nat.blt d N=true)
  (hT:P.underlying T=some (.slice e)) (hen:EncTy P e En) (hz:ZeroE P e En a0 bytes) (hx:Env.ev E x=some (.int k l)) (hy:Env.ev E y=some (.int k' m)) (hl:l=(n:Int)) (hm:m=(n:Int)) (hbig:(n:Int)*bytes≤16777216) (hn:(n:Int)≤16777216)
  (h:∀ao c,Ls En e (.slice ao n n) c (List.replicate n a0)→OW P ops Q B w0 N (c::G) ((d,.slice ao n n)::E) rest):
  OW P ops Q B w0 N G E (⟨some d,.makeSlice T x y,ty,pos,af,g⟩::rest):=fun a w ha hw=>by
 subst hl hm
 unfold wpList
 rw[if_pos (ha.guard (o:=⟨some d,.makeSlice T x y,ty,pos,af,g⟩) hg)]
 refine .inl ?_
 unfold Oper.wp
 obtain⟨i,z,hi,his,hib,hzz,hzc⟩:=hz.info
 have hw1:IntKind.wrap .i64 (n:Int)=n:=nw_i64 (by omega) (by omega)
 have hsz:(sizeOf e).run P w=.ok En.size w:=run_sizeOf (by rw[hi,←his];rfl) w
 have hfl:=hen.len a0 hz.ok
 have hb48:¬(281474976710656<(bytes:Int)*(n:Int)):=by rw[Int.mul_comm];omega
 have hn0:¬((n:Int)<0):=by omega
 have hroom:n*bytes≤roomBytes:=by
  have:n*bytes≤16777216:=by omega
  exact Nat.le_trans this (by decide)
 have h3:(execOp a.eval ⟨some d,.makeSlice T x y,ty,pos,af,g⟩).run P w=.ok (.value (.slice (some ⟨w.heap.size,0,none⟩) n n)) (w.alloc (.cells ((List.replicate n a0).flatMap En.f).toArray e)):=by
  rw[fm_rep hfl hen.pos]
  by_cases h0:n=0
  ·subst h0
   have hw0:IntKind.wrap .i64 0=0:=by decide
   simp[execOp,Instr.makeSlice,ha.ev hx,ha.ev hy,run_underlying hT,typeInfo,hi,hib,asInt,asIntOf,hw0,askRoom,hsz,newRow]
   rw[show Array.range 0=#[] from rfl,Array.map_empty]
  ·have hne:¬n*En.size=0:=fun h1=>by
    rcases Nat.mul_eq_zero.1 h1 with h2|h2
    ·exact h0 h2
    ·exact absurd hen.pos (by omega)
   simp[execOp,Instr.makeSlice,ha.ev hx,ha.ev hy,run_underlying hT,typeInfo,hi,hib,asInt,asIntOf,hw1,hb48,hn0,askRoom,Nat.not_lt.2 hroom,hsz,zeroValue,hzz,hzc,newRow]
   rw[if_neg hne]
   congr 3
   apply Array.ext'
   simp
 rw[h3]
 have hlen:((List.replicate n a0).flatMap En.f).length=n*En.size:=by
  rw[fm_len (k:=En.size) fun b hb=>by rw[(List.mem_replicate.1 hb).2];exact hfl,List.length_replicate]
 have hrow:=IsSl.row (e:=e) (size:=En.size) (b:=w.heap.size) (n:=n) (cap:=n) (pre:=[]) (xs:=(List.replicate n a0).flatMap En.f) (spare:=[]) (post:=[]) hlen (by simp) (Nat.le_refl _)
 simp only[List.nil_append,List.append_nil,List.length_nil]at hrow
 refine h (some ⟨w.heap.size,0,none⟩) _ ⟨?_,fun b hb=>by rw[(List.mem_replicate.1 hb).2];exact hz.ok⟩ _ _ (ha.put (by simpa using hd) _) (hw.new _)
 rw[List.length_replicate]
 exact hrow
end Go.Sl
namespace Go.Proofs.YtnlaffkihohfkaaGreat
open Go Go.Sl Go.Proofs
variable {B:Nat}{w0:World}{G:List Hp}{R:Hp→List Hp}
theorem sub_pre {c:Hp}{X G:List Hp}(h:Sub c G):Sub c (X++G):=fun p hp=>by
 have:=h p hp
 rw[List.flatten_append]
 exact List.mem_append_right _ this
theorem zB:ZeroE Tryz.prog 5 enB 0 1:=ZeroE.of (by kernel_rfl) trivial
structure InM where
 read:Int
 high:Int
 final:Int
 known:Bool
 l:List Rg
 f:Int→Option UInt8
def mv (f:Int→Option UInt8)(k:Int):Option Value:=(f k).map fun b=>Value.int .u8 b.toNat
def InAt (m:InM)(b:Nat)(c:Hp):Prop:=∃bp bm cp cm,c=[(b,.cells [.int .u64 m.read,.int .u64 m.high,.int .u64 m.final,.bool m.known,.pointer (some ⟨bp,0,none⟩),.map (some bm)].toArray 155 (0,0))]++(cp++cm)∧SetAt ⟨32,m.l⟩ bp cp∧MapF .u64 (mv m.f) bm cm
theorem InAt.of {m:InM}{b bp bm:Nat}{r h fi:Int}{k:Bool}{l:List Rg}{f:Int→Option UInt8}{cp cm:Hp}(hP:SetAt ⟨32,l⟩ bp cp)(hM:MapF .u64 (mv f) bm cm)(he:m=⟨r,h,fi,k,l,f⟩):InAt m b ([(b,.cells [.int .u64 r,.int .u64 h,.int .u64 fi,.bool k,.pointer (some ⟨bp,0,none⟩),.map (some bm)].toArray 155 (0,0))]++(cp++cm)):=by
 subst he
 exact⟨bp,bm,cp,cm,rfl,hP,hM⟩
structure InM.WF (m:InM):Prop where
 gl:Good m.l
 len:m.l.length≤32
 rd:0≤m.read∧m.read≤m.high∧m.high≤4611686018427387903
 mem:∀k,InR m.l k↔(m.f k).isSome=true
 low:∀k,InR m.l k→m.read≤k∧k<m.high
 fin:m.known=true→m.high≤m.final∧m.final≤4611686018427387903
theorem InM.WF.sp {m:InM}(h:m.WF):(⟨32,m.l⟩:SetM).WF:=⟨h.gl,by have:=h.len;dsimp only;omega,by dsimp only;omega⟩
def in0:InM:=⟨0,0,0,false,[],fun _=>none⟩
theorem in0_wf:in0.WF:=⟨Good.nil,by simp[in0],by simp[in0],fun k=>by simp[in0,InR.nil],fun k h=>absurd h InR.nil,fun h=>by cases h⟩
theorem b_in0:Build Tryz.prog 155 #[] (.agg [Value.int .u64 0,.int .u64 0,.int .u64 0,.bool false,.pointer none,.map none].toArray):=fun w=>by kernel_rfl
theorem cw_split3' {P:Program}{Q:Exit→Act→World→Prop}{B:Nat}{w0:World}{N:Nat}{E:Env}{k:Code}{a b d:Hp}{F:List Hp}(h:CW P Q B w0 N (a::b::d::F) E k):CW P Q B w0 N ((a++(b++d))::F) E k:=cw_flat (a::b::d::F) (.of_eq (by simp)) h
theorem ow_join3 {P:Program}{ops:Array Oper}{Q:Exit→Act→World→Prop}{B:Nat}{w0:World}{N:Nat}{E:Env}{rest:List Oper}{a b d:Hp}{F:List Hp}(h:OW P ops Q B w0 N ((a++(b++d))::F) E rest):OW P ops Q B w0 N (a::b::d::F) E rest:=ow_flat ((a++(b++d))::F) (.of_eq (by simp)) h
theorem inOpen0_c {b:Nat}(hsel:Sel G [(b,.cells [Value.int .u64 0,.int .u64 0,.int .u64 0,.bool false,.pointer none,.map none].toArray 155 (0,0))] R):
  Go.Sl.Fn Tryz.prog 106 #[.pointer (some ⟨b,0,none⟩)] B w0 G fun u G'=>∃c:Hp,u=.tuple #[]∧InAt in0 b c∧G'=R c:=by
 refine Fn.sel0 hsel fun F hR hF=>?_
 refine fn_enter Tryz.func106 rfl (by kernel_rfl) Tryz.ntmps106 (by simp) ?_
 refine qs<|qm<|qn<|qf Ty.fd155_4<|ql (Var.at1 Ty.sc129 .here (GetN.lit rfl))<|qv (v_eql_nil_none Tryz.underlying129 rfl)<|qt<|cw_true rfl<|qs<|qm ?_
 (refine ow_call rfl rfl rfl rfl (newSet_c) ?_;rintro _ _ ⟨x8,rfl,hq8,rfl⟩)
 refine qn<|qf Ty.fd155_4<|ow_store1 rfl rfl rfl rfl Ty.sc129 (.there .here) (SetN.one zdn)<|qt<|cw_region<|qm ?_
 refine ow_makeMap (kd:=.u64) rfl rfl ?_
 intro bm cm hM
 refine qn<|qf Ty.fd155_5<|ow_store1 rfl rfl rfl rfl Ty.sc153 (.there (.there .here)) (SetN.one zdn)<|ow_nil<|ret0n rfl ?_
 exact⟨[(b,.cells [Value.int .u64 0,.int .u64 0,.int .u64 0,.bool false,.pointer (some ⟨x8.1,0,none⟩),.map (some bm)].toArray 155 (0,0))]++(x8.2++cm),rfl,⟨x8.1,bm,x8.2,cm,rfl,hq8,hM⟩,zcov⟩
theorem inOpen_c {m:InM}{b:Nat}{c:Hp}(hO:InAt m b c)(hs:Sub c G):
  Go.Sl.Fn Tryz.prog 106 #[.pointer (some ⟨b,0,none⟩)] B w0 G fun u G'=>u=.tuple #[]∧G'=G:=by
 refine Fn.pure ?_
 obtain⟨bp,bm,cp,cm,rfl,hP,hM⟩:=hO
 have hs1:=hs.left
 refine fn_enter Tryz.func106 rfl (by kernel_rfl) Tryz.ntmps106 (by simp) ?_
 refine qs<|qm<|qn<|qf Ty.fd155_4<|ql (Var.sub1 Ty.sc129 zthr (.head _) (GetN.lit rfl))<|qv (v_eql_nil_some Tryz.underlying129 rfl)<|qt<|cw_false rfl<|cw_skip<|ret0n rfl ?_
 exact⟨rfl,zcov⟩
theorem newIn_c:
  Go.Sl.Fn Tryz.prog 74 #[] B w0 G fun u G'=>∃x:Nat×Hp,u=.pointer (some ⟨x.1,0,none⟩)∧InAt in0 x.1 x.2∧G'=[x.2]++G:=by
 refine Fn.new ?_
 refine fn_enter Tryz.func74 rfl (by kernel_rfl) Tryz.ntmps74 (by simp) ?_
 refine qs<|qa<|qt<|qs<|qv (v_build rfl (b_in0))<|ow_box rfl rfl rfl rfl fun b3=>qa<|qt<|qs<|qm ?_
 (refine ow_call rfl rfl rfl rfl (inOpen0_c zsel) ?_;rintro _ _ ⟨x5,rfl,hq5,rfl⟩)
 refine qt<|qs<|qm<|qa<|qt<|cw_ret<|ret1 rfl (res_tmp rfl) ?_
 exact⟨(b3,x5),rfl,hq5,zcov⟩
def InM.ready (m:InM):Int:=if (firstR m.l m.read).2=true∧(firstR m.l m.read).1.a=m.read then (firstR m.l m.read).1.b-(firstR m.l m.read).1.a else 0
theorem firstR_ok {l:List Rg}{n:Int}(hg:Good l)(hn:0≤n∧n≤18446744073709551615):enR.ok (firstR l n).1:=by
 unfold firstR
 split
 ·rename_i h
  have h3:=hg.1 _ (List.getElem_mem h)
  exact⟨by have:=h3.1;have:=h3.2.1;have:=h3.2.2;dsimp only;omega,by have:=h3.1;have:=h3.2.1;have:=h3.2.2;dsimp only;omega⟩
 ·exact ok_z
theorem InM.ready_spec {m:InM}(hw:m.WF):0≤m.ready∧(∀k,m.read≤k→k<m.read+m.ready→InR m.l k)∧¬InR m.l (m.read+m.ready):=by
 unfold InM.ready
 rcases first_low (n:=m.read) hw.gl with⟨h3,h4⟩|⟨h3,h4,h5,h6,h7,h8⟩
 ·rw[if_neg (by rw[h3];simp)]
  exact⟨Int.le_refl _,fun k h1 h2=>by omega,fun h=>by have:=h4 _ h;omega⟩
 ·by_cases ha:(firstR m.l m.read).1.a=m.read
  ·rw[if_pos ⟨h3,ha⟩]
   refine⟨by omega,fun k h1 h2=>h6 k zom zom,?_⟩
   rw[show m.read+((firstR m.l m.read).1.b-(firstR m.l m.read).1.a)=(firstR m.l m.read).1.b from by omega]
   exact h8
  ·rw[if_neg (fun h=>ha h.2)]
   refine⟨Int.le_refl _,fun k h1 h2=>by omega,fun h=>?_⟩
   have:=h7 _ h zom
   omega
theorem InM.ready_eq {m:InM}(hw:m.WF){n:Int}(h0:0≤n)(h1:∀k,m.read≤k→k<m.read+n→InR m.l k)(h2:¬InR m.l (m.read+n)):m.ready=n:=by
 obtain⟨g0,g1,g2⟩:=InM.ready_spec hw
 rcases Int.lt_trichotomy m.ready n with h|h|h
 ·exact absurd (h1 (m.read+m.ready) zom zom) g2
 ·exact h
 ·exact absurd (g1 (m.read+n) zom zom) h2
theorem inReady_c {m:InM}{b:Nat}{c:Hp}(hO:InAt m b c)(hs:Sub c G)(hw:m.WF):
  Go.Sl.Fn Tryz.prog 115 #[.pointer (some ⟨b,0,none⟩)] B w0 G fun u G'=>u=.int .u64 m.ready∧G'=G:=by
 refine Fn.pure ?_
 obtain⟨bp,bm,cp,cm,rfl,hP,hM⟩:=hO
 have hs1:=hs.left
 have hsp:=hs.right.left
 have hrd:=hw.rd
 have hfo:=firstR_ok (n:=m.read) hw.gl zom
 have hf2:=len2 _ hfo
 have hf3:=one2 _ hfo
 refine fn_enter Tryz.func115 rfl (by kernel_rfl) Tryz.ntmps115 (by simp) ?_
 refine qs<|qa<|qt<|cw_seq<|qs<|qm<|qv (v_eql_nil_some Tryz.underlying48 rfl)<|qt<|cw_false rfl<|cw_skip<|xw_then<|cw_seq ?_
 refine cw_mixR [12] [13,14] [0,1,2,3,4,5,6,7,8,9,10,11] Ty.mixed rfl rfl rfl rfl zdk ?_
 refine hwr_pure rfl rfl (v_move rfl) rfl<|hwr_pure rfl rfl (v_nilCheck rfl) rfl<|hwr_pure rfl rfl (v_fieldAddr0 Ty.fd155_4 rfl) rfl<|hwr_load rfl rfl rfl rfl (v_load rfl (Var.sub1 Ty.sc129 zthr (.head _) (GetN.lit rfl)))<|hwr_pure rfl rfl (v_move rfl) rfl<|hwr_pure rfl rfl (v_nilCheck rfl) rfl<|hwr_pure rfl rfl (v_fieldAddr0 Ty.fd155_0 rfl) rfl<|hwr_load rfl rfl rfl rfl (v_load rfl (Var.sub1 Ty.sc27 zthr (.head _) (GetN.lit rfl))) ?_
 refine hwr_call rfl rfl rfl (fun _=>v_call rfl rfl (setFirst_l hP (sub_pre hsp) hw.sp)) ?_
 refine hwr_pure rfl rfl (v_move rfl) rfl<|hwr_pure rfl rfl (v_extract rfl rfl) rfl<|hwr_pure rfl rfl (v_extract rfl rfl) rfl<|hwr_nil<|sw_alloc rfl rfl Ty.ze137 fun b3=>sw_nil ?_
 refine ow_storeN rfl rfl rfl Ty.ag137 zra (by first|assumption|simp) .here (SetN.all zsa) ?_
 refine qa<|ow_nil<|xw_np<|xw_then<|cw_seq<|cw_seq<|cw_quiet Ty.mixed zdk<|kmv<|kv (v_not_bool rfl)<|kmv ?_
 refine kw_bool 21 rfl (fun hc21=>?_) (fun hc21=>?_)
 refine kk<|kk<|kk<|kk<|kk<|kk<|kk<|kv (v_pick_true rfl rfl)<|kw_nil<|xw_then<|cw_true rfl<|qs ?_
 refine qa<|qt<|cw_ret<|xw_then_ret<|ret1 rfl (res_tmp rfl) ?_
 rotate_left
 refine kv (v_fieldAddr0 Ty.fd137_0 rfl)<|kv (v_load rfl (Var.at1 Ty.sc27 .here (GetN.lit rfl)))<|kmv<|kv (v_nilCheck rfl)<|kv (v_fieldAddr0 Ty.fd155_0 rfl)<|kv (v_load rfl (Var.sub1 Ty.sc27 zthr (.head _) (GetN.lit rfl)))<|kv (v_neq rfl rfl)<|kv (v_pick_false rfl rfl)<|kw_nil<|xw_then ?_
 refine cw_dec rfl (fun hc29=>?_) (fun hc29=>?_)
 refine qs<|qa<|qt<|cw_ret<|xw_then_ret<|ret1 rfl (res_tmp rfl) ?_
 rotate_left
 refine cw_skip<|xw_then<|qs<|qf Ty.fd137_1<|ql (Var.at1 Ty.sc27 .here (GetN.lit rfl))<|qf Ty.fd137_0<|ql (Var.at1 Ty.sc27 .here (GetN.lit rfl))<|qv (v_sub rfl rfl rfl)<|qa<|qt<|cw_ret<|ret1 rfl (res_tmp rfl) ?_
 rotate_left
 ·exact⟨by rw[show m.ready=0 from if_neg (fun h=>by rw[h.1]at hc21;cases hc21)],zcov⟩
 ·exact⟨by rw[show m.ready=0 from if_neg (fun h=>hc29 h.2)],zcov⟩
 ·have hf:(firstR m.l m.read).2=true:=by simpa using hc21
  have hlt:(firstR m.l m.read).1.a<(firstR m.l m.read).1.b:=by
   rcases first_low (n:=m.read) hw.gl with⟨h3,h4⟩|⟨h3,h4,h5,h6,h7,h8⟩
   ·rw[h3]at hf;cases hf
   ·exact h5
  have h1:=hfo.1.1
  have h2:=hfo.2.2
  rw[nw_u64 zom zom]
  exact⟨by rw[show m.ready=(firstR m.l m.read).1.b-(firstR m.l m.read).1.a from if_pos ⟨hf,by simpa using hc29⟩],zcov⟩
theorem v_byte {N:Nat}{B:Nat}{w0:World}{G:List Hp}{E:Env}{ty:TypeId}{x y:Operand}{b:Nat}{k:Int}{f:Int→Option UInt8}{c:Hp}(hx:Env.ev E x=some (.map (some b)))(hy:Env.ev E y=some (.int .u64 k))(hs:Sub c G)(hM:MapF .u64 (mv f) b c):OpV Tryz.prog (St B w0 G) N E (.lookup 153 x y false) ty (enB.val ((f k).getD 0)):=by
 have h1:=v_lookupM0 (P:=Tryz.prog) (N:=N) (B:=B) (w0:=w0) (ty:=ty) Tryz.underlying153 Tryz.underlying27 (z:=.int .u8 0) (fun w=>by kernel_rfl) hx hy hs hM
 rw[show (mv f k).getD (Value.int .u8 0)=enB.val ((f k).getD 0) from by unfold mv;cases f k<;>rfl]at h1
 exact h1
theorem v_byteOk {N:Nat}{B:Nat}{w0:World}{G:List Hp}{E:Env}{ty:TypeId}{x y:Operand}{b:Nat}{k:Int}{f:Int→Option UInt8}{c:Hp}(hx:Env.ev E x=some (.map (some b)))(hy:Env.ev E y=some (.int .u64 k))(hs:Sub c G)(hM:MapF .u64 (mv f) b c):OpV Tryz.prog (St B w0 G) N E (.lookup 153 x y true) ty (.tuple #[enB.val ((f k).getD 0),.bool (f k).isSome]):=by
 have h1:=v_lookupM (P:=Tryz.prog) (N:=N) (B:=B) (w0:=w0) (ty:=ty) Tryz.underlying153 Tryz.underlying27 (z:=.int .u8 0) (fun w=>by kernel_rfl) hx hy hs hM
 rw[show (mv f k).getD (Value.int .u8 0)=enB.val ((f k).getD 0) from by unfold mv;cases f k<;>rfl,show (mv f k).isSome=(f k).isSome from by unfold mv;cases f k<;>rfl]at h1
 exact h1
def InM.bytes (m:InM)(n:Nat):List UInt8:=(List.range n).map fun i:Nat=>(m.f (m.read+(i:Int))).getD 0
theorem InM.bytes_len {m:InM}{n:Nat}:(m.bytes n).length=n:=by simp[InM.bytes]
theorem bytes_step {m:InM}{n j:Nat}(hj:j<n):(((m.bytes n).take j)++List.replicate (n-j) 0).set j ((m.f (m.read+j)).getD 0)=((m.bytes n).take (j+1))++List.replicate (n-(j+1)) 0:=by
 have hl:((m.bytes n).take j).length=j:=by rw[List.length_take,InM.bytes_len];omega
 have hr:List.replicate (n-j) (0:UInt8)=0::List.replicate (n-(j+1)) 0:=by rw[←List.replicate_succ];congr 1;omega
 have hjb:j<(m.bytes n).length:=by rw[InM.bytes_len];exact hj
 have hg:(m.bytes n)[j]=(m.f (m.read+j)).getD 0:=by simp[InM.bytes]
 rw[List.take_succ_eq_append_getElem hjb,hr,List.set_append,if_neg zom,hl,Nat.sub_self,List.set_cons_zero,hg,List.append_assoc]
 rfl
def InM.many (m:InM)(many:Int):Nat:=(min m.ready many).toNat
theorem inPeek_c {m:InM}{b:Nat}{c:Hp}{many:Int}(hO:InAt m b c)(hs:Sub c G)(hw:m.WF)(hm: -9223372036854775808≤many∧many≤1000000):
  Go.Sl.Fn Tryz.prog 105 #[.pointer (some ⟨b,0,none⟩),.int .i64 many] B w0 G fun u G'=>∃x:Option Addr×Nat×Hp,u=.slice x.1 (m.bytes (m.many many)).length x.2.1∧Ls enB 5 (.slice x.1 (m.bytes (m.many many)).length x.2.1) x.2.2 (m.bytes (m.many many))∧G'=[x.2.2]++G:=by
 refine Fn.new ?_
 have hO':=hO
 obtain⟨bp,bm,cp,cm,rfl,hP,hM⟩:=hO
 have hs1:=hs.left
 have hsm:=hs.right.right
 have hrd:=hw.rd
 have hry:=(InM.ready_spec hw).1
 rw[InM.bytes_len]
 refine fn_enter Tryz.func105 rfl (by kernel_rfl) Tryz.ntmps105 (by simp) ?_
 refine qs ?_
 refine qa ?_
 refine qt ?_
 refine cw_seq ?_
 refine qs ?_
 refine qm ?_
 refine qv (v_eql_nil_some Tryz.underlying48 rfl) ?_
 refine qm ?_
 refine qm ?_
 refine qv (v_leq rfl rfl) ?_
 refine qv (v_pick_false rfl rfl) ?_
 refine qt ?_
 refine cw_dec rfl (fun hc12=>?_) (fun hc12=>?_)
 refine qs ?_
 refine qa ?_
 refine qt ?_
 refine cw_ret ?_
 refine xw_then_ret ?_
 refine ret1 rfl (res_tmp rfl) ?_
 rotate_left
 refine cw_skip ?_
 refine xw_then ?_
 refine qs ?_
 refine qm ?_
 refine ow_val rfl rfl (v_call rfl rfl (inReady_c hO' hs hw)) ?_
 refine qm ?_
 refine qv (v_convert Tryz.underlying3 Tryz.underlying27 rfl (nw_u64 zom zom)) ?_
 refine qv (v_min rfl rfl) ?_
 rotate_left
 ·have h0:m.many many=0:=by unfold InM.many;omega
  rw[h0,show m.bytes 0=[] from rfl]
  exact⟨(none,0,[]),rfl,Ls.nil,zcov⟩
 have hmn:min m.ready many=(m.many many:Int):=by unfold InM.many;omega
 rw[hmn]
 generalize m.many many=n at *
 refine ow_makeL (En:=enB) (a0:=0) (n:=n) rfl rfl Tryz.underlying28 u8Ty zB rfl rfl rfl rfl zom zom ?_
 intro ao18 c18 hL18
 refine qa ?_
 refine qt ?_
 refine cw_seq ?_
 refine qs ?_
 refine qm ?_
 refine qv (v_len rfl Tryz.underlying28 rfl) ?_
 refine qm ?_
 refine qt ?_
 refine cw_block ?_
 refine cw_loop2 (ι:=((Nat×Hp))) [(0,_),(4,_),(5,_),(20,_)] ⟨rfl,rfl,rfl,rfl,trivial⟩ ((fun x=>[(21,.int .i64 x.1)])) ((fun x=>x.1≤n∧Ls enB 5 (.slice ao18 n n) x.2 (((m.bytes n).take x.1)++List.replicate (n-x.1) 0))) ((fun x=>n-x.1)) ((fun x=>x.2::G)) (((0,c18):Nat×Hp)) zenv zcov ?_ ?_
 ·exact⟨Nat.zero_le _,hL18⟩
 rintro⟨j,cj⟩ ⟨hj,hLj⟩
 dsimp only at hj hLj⊢
 refine qs ?_
 refine qv (v_lss rfl rfl) ?_
 refine qt ?_
 refine cw_seq ?_
 refine cw_dec rfl (fun hc22=>?_) (fun hc22=>?_)
 refine cw_skip ?_
 refine xw_then ?_
 refine cw_seq ?_
 refine cw_block ?_
 refine qs ?_
 refine qm ?_
 refine qa ?_
 refine qt ?_
 refine cw_mix [] [15] [0,1,2,3,4,5,6,7,8,9,10,11,12,13,14] Ty.mixed rfl rfl rfl rfl zdk ?_
 refine hmv ?_
 refine hmv ?_
 refine hmv ?_
 refine hw_pure rfl rfl (v_nilCheck rfl) rfl ?_
 refine hw_pure rfl rfl (v_fieldAddr0 Ty.fd155_5 rfl) rfl ?_
 refine hw_read rfl rfl rfl (v_load rfl (Var.sub1 Ty.sc153 zthr (.head _) (GetN.lit rfl))) ?_
 refine hmv ?_
 refine hw_pure rfl rfl (v_nilCheck rfl) rfl ?_
 refine hw_pure rfl rfl (v_fieldAddr0 Ty.fd155_0 rfl) rfl ?_
 refine hw_read rfl rfl rfl (v_load rfl (Var.sub1 Ty.sc27 zthr (.head _) (GetN.lit rfl))) ?_
 refine hmv ?_
 refine hw_read rfl rfl rfl (v_convert Tryz.underlying3 Tryz.underlying27 rfl (nw_u64 zom zom)) ?_
 refine hw_pure rfl rfl (v_add rfl rfl (nw_u64 zom zom)) rfl ?_
 rotate_left
 refine cw_exit ?_
 refine xw_then_exit ?_
 refine xw_round_exit ?_
 refine xw_block_exit ?_
 refine xw_then ?_
 refine qs ?_
 refine qm ?_
 refine qa ?_
 refine qt ?_
 refine cw_ret ?_
 refine ret1 rfl (res_tmp rfl) ?_
 rotate_left
 ·have hll:(((m.bytes n).take j)++List.replicate (n-j) 0).length=n:=by simp[InM.bytes_len];omega
  refine hw_read rfl rfl rfl ((v_byte rfl rfl hsm.there hM)) ?_
  refine hw_pure rfl rfl (v_indexAddr_ls Tryz.underlying28 (u8Ty) rfl rfl zas rfl zom) rfl ?_
  refine hw_nil ?_
  refine sw_nil ?_
  refine ow_storeL rfl rfl rfl u8Ty hLj zsel zom trivial ?_
  intro c38 hL38
  rw[bytes_step zom]at hL38
  refine ow_nil ?_
  refine xw_np ?_
  refine xw_block ?_
  refine xw_then ?_
  refine cw_region ?_
  refine qv (v_add rfl rfl (nw_i64 zom zom)) ?_
  refine qm ?_
  refine ow_nil ?_
  exact xw_round ((j+1,c38):Nat×Hp) ⟨by dsimp only;omega,hL38⟩ zdo zcov zenv
 ·have hjn:j=n:=by omega
  subst hjn
  rw[List.take_of_length_le (by rw[InM.bytes_len];omega),Nat.sub_self,List.replicate_zero,List.append_nil]at hLj
  exact⟨(ao18,j,cj),rfl,hLj,zcov⟩
theorem inFinal_c {m:InM}{b:Nat}{c:Hp}(hO:InAt m b c)(hs:Sub c G):
  Go.Sl.Fn Tryz.prog 83 #[.pointer (some ⟨b,0,none⟩)] B w0 G fun u G'=>u=.tuple #[.int .u64 (if m.known=true then m.final else 0),.bool m.known]∧G'=G:=by
 refine Fn.pure ?_
 obtain⟨bp,bm,cp,cm,rfl,hP,hM⟩:=hO
 have hs1:=hs.left
 refine fn_enter Tryz.func83 rfl (by kernel_rfl) Tryz.ntmps83 (by simp) ?_
 refine qs ?_
 refine qa ?_
 refine qa ?_
 refine qt ?_
 refine cw_seq ?_
 refine qs ?_
 refine qm ?_
 refine qv (v_eql_nil_some Tryz.underlying48 rfl) ?_
 refine qm ?_
 refine qm ?_
 refine qn ?_
 refine qf Ty.fd155_3 ?_
 refine ql (Var.sub1 Ty.sc4 zthr (.head _) (GetN.lit rfl)) ?_
 refine qv (v_not_bool rfl) ?_
 refine qv (v_pick_false rfl rfl) ?_
 refine qt ?_
 refine cw_bool rfl (fun hc12=>?_) (fun hc12=>?_)
 refine qs ?_
 refine qa ?_
 refine qa ?_
 refine qt ?_
 refine cw_ret ?_
 refine xw_then_ret ?_
 refine ret2 rfl (res_tmp rfl) (res_tmp rfl) ?_
 rotate_left
 refine cw_skip ?_
 refine xw_then ?_
 refine qs ?_
 refine qm ?_
 refine qn ?_
 refine qf Ty.fd155_2 ?_
 refine ql (Var.sub1 Ty.sc27 zthr (.head _) (GetN.lit rfl)) ?_
 refine qa ?_
 refine qa ?_
 refine qt ?_
 refine cw_ret ?_
 refine ret2 rfl (res_tmp rfl) (res_tmp rfl) ?_
 rotate_left
 ·have h:m.known=false:=by simpa using hc12
  rw[h]
  exact⟨rfl,zcov⟩
 ·have h:m.known=true:=by simpa using hc12
  rw[h]
  exact⟨rfl,zcov⟩
theorem inPlaces_c {m:InM}{b:Nat}{c:Hp}(hO:InAt m b c)(hs:Sub c G):
  Go.Sl.Fn Tryz.prog 65 #[.pointer (some ⟨b,0,none⟩)] B w0 G fun u G'=>u=.tuple #[.int .u64 m.read,.int .u64 m.high]∧G'=G:=by
 refine Fn.pure ?_
 obtain⟨bp,bm,cp,cm,rfl,hP,hM⟩:=hO
 have hs1:=hs.left
 refine fn_enter Tryz.func65 rfl (by kernel_rfl) Tryz.ntmps65 (by simp) ?_
 refine qs<|qa<|qa<|qt<|cw_seq<|qs<|qm<|qv (v_eql_nil_some Tryz.underlying48 rfl)<|qt<|cw_false rfl<|cw_skip<|xw_then ?_
 refine cw_seq<|cw_quiet Ty.mixed zdk<|kmv<|kv (v_nilCheck rfl)<|kv (v_fieldAddr0 Ty.fd155_0 rfl)<|kv (v_load rfl (Var.sub1 Ty.sc27 zthr (.head _) (GetN.lit rfl)))<|kmv<|kv (v_nilCheck rfl)<|kv (v_fieldAddr0 Ty.fd155_1 rfl)<|kv (v_load rfl (Var.sub1 Ty.sc27 zthr (.head _) (GetN.lit rfl)))<|kv (v_assign rfl)<|kv (v_assign rfl) ?_
 refine kw_nil<|xw_then<|cw_ret<|ret2 rfl (res_tmp rfl) (res_tmp rfl) ?_
 exact⟨rfl,zcov⟩
def InM.rise (m:InM)(stop:Int):InM:=if stop≤m.high then m else {m with high:=stop}
def InM.more (m:InM)(stop:Int):Int:=if stop≤m.high then 0 else stop-m.high
theorem inRise_c {m:InM}{b:Nat}{c:Hp}{stop:Int}(hsel:Sel G c R)(hO:InAt m b c)(hh:0≤m.high)(hst:0≤stop∧stop≤18446744073709551615):
  Go.Sl.Fn Tryz.prog 114 #[.pointer (some ⟨b,0,none⟩),.int .u64 stop] B w0 G fun u G'=>∃c':Hp,u=.int .u64 (m.more stop)∧InAt (m.rise stop) b c'∧G'=R c':=by
 refine Fn.sel0 hsel fun F hR hF=>?_
 obtain⟨bp,bm,cp,cm,rfl,hP,hM⟩:=hO
 refine fn_enter Tryz.func114 rfl (by kernel_rfl) Tryz.ntmps114 (by simp) ?_
 refine cw_split3' ?_
 refine qs<|qa<|qt<|cw_seq<|qs<|qm<|qm<|qn ?_
 refine qf Ty.fd155_1 ?_
 refine ql (Var.at1 Ty.sc27 .here (GetN.lit rfl)) ?_
 refine qv (v_leq rfl rfl)<|qt ?_
 refine cw_dec rfl (fun hc11=>?_) (fun hc11=>?_)
 refine qs<|qa<|qt ?_
 refine cw_ret ?_
 refine xw_then_ret ?_
 refine ret1 rfl (res_tmp rfl) ?_
 rotate_left
 refine cw_skip<|xw_then<|qs<|qm<|qm<|qn ?_
 refine qf Ty.fd155_1 ?_
 refine ql (Var.at1 Ty.sc27 .here (GetN.lit rfl)) ?_
 refine qv (v_sub rfl rfl (nw_u64 zom zom))<|qa<|qt<|qs ?_
 refine qm<|qm<|qn ?_
 refine qf Ty.fd155_1 ?_
 refine ow_store1 rfl rfl rfl rfl Ty.sc27 .here (SetN.one zdn)<|qt<|qs<|qm<|qa<|qt ?_
 refine cw_ret ?_
 refine ret1 rfl (res_tmp rfl) ?_
 rotate_left
 ·rw[show m.more stop=0 from if_pos hc11,show m.rise stop=m from if_pos hc11]
  exact⟨_,rfl,⟨bp,bm,cp,cm,rfl,hP,hM⟩,zcov⟩
 ·rw[show m.more stop=stop-m.high from if_neg hc11,show m.rise stop=⟨m.read,stop,m.final,m.known,m.l,m.f⟩ from if_neg hc11]
  exact⟨_,rfl,InAt.of hP hM rfl,zcov⟩
end Go.Proofs.YtnlaffkihohfkaaGreat
namespace Go.Proofs.YtnlaffkihohfkaaGreat
open Go Go.Sl Go.Proofs
variable {B:Nat}{w0:World}{G:List Hp}{R:Hp→List Hp}
def InM.stopE (m:InM)(fin:Int):Int:=if 4611686018427387903<fin then 2 else if (m.known=true∧fin≠m.final)∨fin<m.high then 13 else 0
def InM.stop (m:InM)(fin:Int):InM:=if m.stopE fin=0 then ({m with final:=fin,known:=true}:InM).rise fin else m
theorem inEnd_c {m:InM}{b:Nat}{c:Hp}{fin:Int}(hsel:Sel G c R)(hO:InAt m b c)(hh:0≤m.high)(hst:0≤fin∧fin≤18446744073709551615):
  Go.Sl.Fn Tryz.prog 84 #[.pointer (some ⟨b,0,none⟩),.int .u64 fin] B w0 G fun u G'=>∃c':Hp,u=.tuple #[.int .u64 (if m.stopE fin=0 then m.more fin else 0),.int .i64 (m.stopE fin)]∧InAt (m.stop fin) b c'∧G'=R c':=by
 refine Fn.sel0 hsel fun F hR hF=>?_
 have hO':=hO
 obtain⟨bp,bm,cp,cm,rfl,hP,hM⟩:=hO
 have hbad:∀e:Int,m.stopE fin=e→e≠0→m.stop fin=m∧(if m.stopE fin=0 then m.more fin else 0)=0:=fun e h1 h2=>⟨if_neg zom,if_neg zom⟩
 refine fn_enter Tryz.func84 rfl (by kernel_rfl) Tryz.ntmps84 (by simp) ?_
 refine cw_split3' ?_
 refine qs ?_
 refine qa ?_
 refine qa ?_
 refine qt ?_
 refine cw_seq ?_
 refine qs ?_
 refine qm ?_
 refine qv (v_eql_nil_some Tryz.underlying48 rfl) ?_
 refine qt ?_
 refine cw_false rfl ?_
 refine cw_skip ?_
 refine xw_then ?_
 refine cw_seq ?_
 refine qs ?_
 refine qm ?_
 refine qv (v_gtr rfl rfl) ?_
 refine qt ?_
 refine cw_dec rfl (fun hc9=>?_) (fun hc9=>?_)
 refine qs ?_
 refine qa ?_
 refine qa ?_
 refine qt ?_
 refine cw_ret ?_
 refine xw_then_ret ?_
 refine ret2 rfl (res_tmp rfl) (res_tmp rfl) ?_
 rotate_left
 refine cw_skip ?_
 refine xw_then ?_
 rotate_left
 ·obtain⟨h1,h2⟩:=hbad 2 (if_pos hc9) (by decide)
  rw[h1,h2,show m.stopE fin=2 from if_pos hc9]
  exact⟨_,rfl,hO',zcov⟩
 refine cw_cut2 (ι:=(Unit)) [(0,_),(1,_)] ⟨rfl,rfl,trivial⟩ ((fun _=>[])) ((fun _=>m.stopE fin=0)) ((fun _=>[(b,.cells [.int .u64 m.read,.int .u64 m.high,.int .u64 m.final,.bool m.known,.pointer (some ⟨bp,0,none⟩),.map (some bm)].toArray 155 (0,0))]::cp::cm::F)) ?_ ?_
 ·have h13:(m.known=true∧fin≠m.final)∨fin<m.high→m.stopE fin=13:=fun h=>by rw[InM.stopE,if_neg hc9,if_pos h]
  have h00:¬((m.known=true∧fin≠m.final)∨fin<m.high)→m.stopE fin=0:=fun h=>by rw[InM.stopE,if_neg hc9,if_neg h]
  refine qs ?_
  refine qm ?_
  refine qn ?_
  refine qf Ty.fd155_3 ?_
  refine ql (Var.at1 Ty.sc4 .here (GetN.lit rfl)) ?_
  refine qm ?_
  refine ow_bool 14 rfl (fun hc14=>?_) (fun hc14=>?_)
  refine qm ?_
  refine qm ?_
  refine qn ?_
  refine qf Ty.fd155_2 ?_
  refine ql (Var.at1 Ty.sc27 .here (GetN.lit rfl)) ?_
  refine qv (v_neq rfl rfl) ?_
  refine qv (v_pick_true rfl rfl) ?_
  refine qm ?_
  refine ow_dec 22 rfl (fun hc22=>?_) (fun hc22=>?_)
  refine qk ?_
  refine qk ?_
  refine qk ?_
  refine qk ?_
  refine qk ?_
  refine qk ?_
  refine qv (v_pick_true rfl rfl) ?_
  refine qt ?_
  refine cw_true rfl ?_
  refine qs ?_
  refine qa ?_
  refine qa ?_
  refine qt ?_
  refine cw_ret ?_
  refine xw_joint_ret ?_
  refine ret2 rfl (res_tmp rfl) (res_tmp rfl) ?_
  rotate_left
  refine qm ?_
  refine qm ?_
  refine qn ?_
  refine qf Ty.fd155_1 ?_
  refine ql (Var.at1 Ty.sc27 .here (GetN.lit rfl)) ?_
  refine qv (v_lss rfl rfl) ?_
  refine qv (v_pick_false rfl rfl) ?_
  refine qt ?_
  refine cw_dec rfl (fun hc29=>?_) (fun hc29=>?_)
  refine qs ?_
  refine qa ?_
  refine qa ?_
  refine qt ?_
  refine cw_ret ?_
  refine xw_joint_ret ?_
  refine ret2 rfl (res_tmp rfl) (res_tmp rfl) ?_
  rotate_left
  refine cw_skip ?_
  rotate_left
  refine qk ?_
  refine qk ?_
  refine qk ?_
  refine qk ?_
  refine qk ?_
  refine qk ?_
  refine qv (v_pick_false rfl rfl) ?_
  refine qm ?_
  refine qm ?_
  refine qm ?_
  refine qn ?_
  refine qf Ty.fd155_1 ?_
  refine ql (Var.at1 Ty.sc27 .here (GetN.lit rfl)) ?_
  refine qv (v_lss rfl rfl) ?_
  refine qv (v_pick_false rfl rfl) ?_
  refine qt ?_
  refine cw_dec rfl (fun hc29=>?_) (fun hc29=>?_)
  refine qs ?_
  refine qa ?_
  refine qa ?_
  refine qt ?_
  refine cw_ret ?_
  refine xw_joint_ret ?_
  refine ret2 rfl (res_tmp rfl) (res_tmp rfl) ?_
  rotate_left
  refine cw_skip ?_
  rotate_left
  ·have h3:=h13 (.inl ⟨hc14,hc22⟩)
   obtain⟨h1,h2⟩:=hbad 13 h3 (by decide)
   rw[h1,h2,h3]
   exact⟨_,rfl,hO',zcov⟩
  ·have h3:=h13 (.inr hc29)
   obtain⟨h1,h2⟩:=hbad 13 h3 (by decide)
   rw[h1,h2,h3]
   exact⟨_,rfl,hO',zcov⟩
  ·exact xw_joint () (h00 fun h=>h.elim (fun h=>hc22 h.2) hc29) zcov zenv
  ·have h3:=h13 (.inr hc29)
   obtain⟨h1,h2⟩:=hbad 13 h3 (by decide)
   rw[h1,h2,h3]
   exact⟨_,rfl,hO',zcov⟩
  ·exact xw_joint () (h00 fun h=>h.elim (fun h=>by rw[hc14]at h;cases h.1) hc29) zcov zenv
 rintro _ hE
 rw[show m.stop fin=({m with final:=fin,known:=true}:InM).rise fin from if_pos hE,if_pos hE,hE,show m.more fin=({m with final:=fin,known:=true}:InM).more fin from rfl]
 refine qs ?_
 refine qm ?_
 refine qm ?_
 refine qm ?_
 refine qn ?_
 refine qf Ty.fd155_2 ?_
 refine ow_store1 rfl rfl rfl rfl Ty.sc27 .here (SetN.one zdn) ?_
 refine qn ?_
 refine qf Ty.fd155_3 ?_
 refine ow_store1 rfl rfl rfl rfl Ty.sc4 .here (SetN.one zdn) ?_
 refine qt ?_
 refine qs ?_
 refine qm ?_
 refine qm ?_
 refine ow_join3 ?_
 (refine ow_call rfl rfl rfl rfl (inRise_c (m:={m with final:=fin,known:=true}) zsel (InAt.of hP hM rfl) hh hst) ?_;rintro _ _ ⟨x39,rfl,hq39,rfl⟩)
 refine qa ?_
 refine qa ?_
 refine qt ?_
 refine cw_ret ?_
 refine ret2 rfl (res_tmp rfl) (res_tmp rfl) ?_
 exact⟨_,rfl,hq39,zcov⟩
def upd (f:Int→Option UInt8)(a:Int)(d:List UInt8)(k:Int):Option UInt8:=if a≤k∧k<a+d.length then d[(k-a).toNat]? else f k
theorem upd_step {f:Int→Option UInt8}{a:Int}{d:List UInt8}{j:Nat}(hj:j<d.length):(fun k=>if k=a+j then some (enB.val d[j]) else mv (upd f a (d.take j)) k)=mv (upd f a (d.take (j+1))):=by
 funext k
 unfold mv upd
 have h1:(d.take j).length=j:=by rw[List.length_take];omega
 have h2:(d.take (j+1)).length=j+1:=by rw[List.length_take];omega
 rw[h1,h2]
 by_cases hk:k=a+j
 ·rw[if_pos hk,if_pos zom]
  have h3:(k-a).toNat=j:=by omega
  rw[h3,List.getElem?_take_of_lt zom,List.getElem?_eq_getElem hj]
  rfl
 ·rw[if_neg hk]
  by_cases h3:a≤k∧k<a+j
  ·rw[if_pos h3,if_pos zom,List.getElem?_take_of_lt zom,List.getElem?_take_of_lt zom]
  ·rw[if_neg h3,if_neg zom]
theorem upd_nil {f:Int→Option UInt8}{a:Int}:upd f a []=f:=by
 funext k
 unfold upd
 rw[if_neg (by simp)]
def InM.Agree (m:InM)(a:Int)(d:List UInt8):Prop:=∀j (h:j<d.length),m.f (a+j)=none∨m.f (a+j)=some d[j]
def InM.storeE (m:InM)(a:Int)(d:List UInt8):Int:=if 32<((addE m.l ⟨a,a+d.length⟩).length:Int) then 7 else 0
def InM.store (m:InM)(a:Int)(d:List UInt8):InM:=if m.storeE a d=0 then {m with l:=addE m.l ⟨a,a+d.length⟩,f:=upd m.f a d} else m
set_option maxHeartbeats 4000000 in
theorem inStore_c {m:InM}{b:Nat}{c:Hp}{a:Int}{ao2:Option Addr}{n cap2:Nat}{d:List UInt8}(hsel:Sel G c R)(hO:InAt m b c)(hw:m.WF)(ha:0≤a∧a+d.length≤4611686018427387903)(hd:0<d.length)(hag:m.Agree a d)(hV:∀c',Vw enB (St B w0 (R c')) (.slice ao2 n cap2) d):
  Go.Sl.Fn Tryz.prog 113 #[.pointer (some ⟨b,0,none⟩),.int .u64 a,.slice ao2 n cap2] B w0 G fun u G'=>∃c':Hp,u=.int .i64 (m.storeE a d)∧InAt (m.store a d) b c'∧G'=R c':=by
 refine Fn.sel0 hsel fun F hR hF=>?_
 have hV:∀c',Vw enB (St B w0 (c'::F)) (.slice ao2 n cap2) d:=fun c'=>(hV c').cov (Cov.of_perm (hR c'))
 have hn:=(hV []).len
 subst hn
 have hV3:∀{X:List Hp},Cov F X→Vw enB (St B w0 X) (.slice ao2 d.length cap2) d:=fun h=>(hV []).cov (Cov.trans (fun p=>by simp) h)
 have hO':=hO
 obtain⟨bp,bm,cp,cm,rfl,hP,hM⟩:=hO
 have hrg:RgIn ⟨a,a+d.length⟩:=⟨by dsimp only;omega,by dsimp only;omega⟩
 have hai:addE m.l ⟨a,a+d.length⟩=addL m.l ⟨a,a+d.length⟩:=if_pos zdo
 have hsa:(⟨32,m.l⟩:SetM).add ⟨a,a+d.length⟩=(⟨32,if m.storeE a d=0 then addE m.l ⟨a,a+d.length⟩ else m.l⟩,m.storeE a d):=by
  unfold SetM.add InM.storeE
  rw[if_neg zdo,hai]
  dsimp only
  by_cases h7:32<((addL m.l ⟨a,a+d.length⟩).length:Int)
  ·rw[if_pos zom,if_pos h7,if_neg (by decide)]
  ·rw[if_neg zom,if_neg h7,if_pos rfl]
 have hadd:∀{G:List Hp} {R:Hp→List Hp},Sel G cp R→Go.Sl.Fn Tryz.prog 77 #[.pointer (some ⟨bp,0,none⟩),enR.val ⟨a,a+d.length⟩] B w0 G fun u G'=>∃c':Hp,u=.int .i64 (m.storeE a d)∧SetAt ⟨32,if m.storeE a d=0 then addE m.l ⟨a,a+d.length⟩ else m.l⟩ bp c'∧G'=R c':=fun hs=>by
  have h:=setAdd_c (B:=B) (w0:=w0) hs hP hw.sp hrg
  rw[hsa]at h
  exact h
 refine fn_enter Tryz.func113 rfl (by kernel_rfl) Tryz.ntmps113 (by simp) ?_
 refine cw_split3' ?_
 refine qs<|qa<|qt<|qs<|qm ?_
 refine ow_val rfl rfl (v_call rfl rfl (inOpen_c hO' (Sub.app zhas (Sub.app zhas zhas)))) ?_
 refine qt ?_
 refine cw_cut2 (ι:=(Unit)) [(0,_),(1,_),(2,_)] ⟨rfl,rfl,rfl,trivial⟩ ((fun _=>[])) ((fun _=>True)) ((fun _=>[(b,.cells [.int .u64 m.read,.int .u64 m.high,.int .u64 m.final,.bool m.known,.pointer (some ⟨bp,0,none⟩),.map (some bm)].toArray 155 (0,0))]::cp::cm::F)) ?_ ?_
 ·refine cw_seq ?_
  refine cw_region<|qm ?_
  refine qv (v_len rfl Tryz.underlying28 rfl)<|qm<|qt ?_
  refine cw_block ?_
  refine cw_loop2 (ι:=(Nat)) [(0,_),(1,_),(2,_),(16,_),(17,_)] ⟨rfl,rfl,rfl,rfl,rfl,trivial⟩ ((fun j=>[(18,.int .i64 j)])) ((fun j=>j≤d.length)) ((fun j=>d.length-j)) ((fun _=>[(b,.cells [.int .u64 m.read,.int .u64 m.high,.int .u64 m.final,.bool m.known,.pointer (some ⟨bp,0,none⟩),.map (some bm)].toArray 155 (0,0))]::cp::cm::F)) (0) zenv zcov ?_ ?_
  ·exact Nat.zero_le _
  rintro j hj
  refine qs ?_
  refine qv (v_lss rfl rfl)<|qt<|cw_seq ?_
  refine cw_dec rfl (fun hc19=>?_) (fun hc19=>?_)
  refine cw_skip<|xw_then ?_
  rotate_left
  refine cw_exit ?_
  refine xw_then_exit ?_
  refine xw_round_exit ?_
  refine xw_block_exit ?_
  rotate_left
  ·have hj2:j<d.length:=by omega
   have hagj:=hag j hj2
   refine cw_seq ?_
   refine cw_block<|qs<|qm ?_
   refine ow_val rfl rfl (v_indexAddr_vw Tryz.underlying28 (u8Ty) rfl rfl (hV []) rfl zom) ?_
   refine ql (Go.Sl.Vw.var (u8Ty) (hV3 zcov) zom)<|qa<|qa<|qt<|qs<|qm<|qn ?_
   refine qf Ty.fd155_5 ?_
   refine ql (Var.at1 Ty.sc153 .here (GetN.lit rfl))<|qm<|qm ?_
   refine qv (v_convert Tryz.underlying3 Tryz.underlying27 rfl (nw_u64 zom zom)) ?_
   refine qv (v_add rfl rfl (nw_u64 zom zom)) ?_
   refine qv ((v_byteOk rfl rfl zhas hM))<|qm ?_
   refine qv (v_extract rfl rfl) ?_
   refine qv (v_extract rfl rfl)<|qa<|qa<|qt<|qs<|qm<|qm ?_
   refine ow_bool 36 rfl (fun hc36=>?_) (fun hc36=>?_)
   refine qm<|qm ?_
   refine qv (v_neq rfl rfl) ?_
   refine qv (v_pick_true rfl rfl)<|qt ?_
   refine cw_dec rfl (fun hc40=>?_) (fun hc40=>?_)
   refine qs<|qa<|qt ?_
   refine cw_ret ?_
   refine xw_block_ret ?_
   refine xw_then_ret ?_
   refine xw_round_ret ?_
   refine xw_block_ret ?_
   refine xw_joint_ret ?_
   refine ret1 rfl (res_tmp rfl) ?_
   rotate_left
   refine cw_skip ?_
   refine xw_block<|xw_then<|cw_region ?_
   refine qv (v_add rfl rfl (nw_i64 zom zom))<|qm<|ow_nil ?_
   rotate_left
   refine qk ?_
   refine qk ?_
   refine qk ?_
   refine qv (v_pick_false rfl rfl)<|qt ?_
   refine cw_false rfl<|cw_skip ?_
   refine xw_block<|xw_then<|cw_region ?_
   refine qv (v_add rfl rfl (nw_i64 zom zom))<|qm ?_
   refine ow_nil ?_
   rotate_left
   ·exfalso
    rcases hagj with h|h
    ·rw[h]at hc36;cases hc36
    ·rw[h]at hc40;exact hc40 rfl
   ·exact xw_round (j+1) zom zom zcov zenv
   ·exact xw_round (j+1) zom zom zcov zenv
  ·exact xw_joint () trivial zcov zenv
 rintro _ _
 refine cw_seq<|qs<|qm<|qn ?_
 refine qf Ty.fd155_4 ?_
 refine ql (Var.at1 Ty.sc129 .here (GetN.lit rfl))<|qm<|qm<|qm ?_
 refine qv (v_len rfl Tryz.underlying28 rfl) ?_
 refine qv (v_convert Tryz.underlying3 Tryz.underlying27 rfl (nw_u64 zom zom)) ?_
 refine qv (v_add rfl rfl (nw_u64 zom zom)) ?_
 refine qv (v_build rfl (b_rng)) ?_
 (refine ow_call rfl rfl rfl rfl (hadd zsel) ?_;rintro _ _ ⟨x53,rfl,hq53,rfl⟩)
 refine qa<|qt<|qs<|qm ?_
 refine qv (v_neq rfl rfl)<|qt ?_
 refine cw_dec rfl (fun hc55=>?_) (fun hc55=>?_)
 refine qs<|qa<|qt ?_
 refine cw_ret ?_
 refine xw_then_ret ?_
 refine ret1 rfl (res_tmp rfl) ?_
 rotate_left
 refine cw_skip<|xw_then ?_
 rotate_left
 ·have h7:m.storeE a d=7:=by unfold InM.storeE at hc55⊢;split at hc55<;>simp_all
  rw[if_neg hc55]at hq53
  rw[h7,show m.store a d=m from if_neg hc55]
  exact⟨_,rfl,InAt.of hq53 hM rfl,zcov⟩
 have h0:m.storeE a d=0:=by simpa using hc55
 rw[if_pos h0]at hq53
 rw[h0,show m.store a d=⟨m.read,m.high,m.final,m.known,addE m.l ⟨a,a+d.length⟩,upd m.f a d⟩ from if_pos h0]
 refine cw_seq<|qs<|qm ?_
 refine qv (v_len rfl Tryz.underlying28 rfl)<|qm<|qt ?_
 refine cw_block ?_
 refine cw_loop2 (ι:=((Nat×Hp))) [(0,_),(1,_),(56,_),(57,_)] ⟨rfl,rfl,rfl,rfl,trivial⟩ ((fun x=>[(58,.int .i64 x.1)])) ((fun x=>x.1≤d.length∧MapF .u64 (mv (upd m.f a (d.take x.1))) bm x.2)) ((fun x=>d.length-x.1)) ((fun x=>[(b,.cells [.int .u64 m.read,.int .u64 m.high,.int .u64 m.final,.bool m.known,.pointer (some ⟨bp,0,none⟩),.map (some bm)].toArray 155 (0,0))]::x53::x.2::F)) (((0,cm):Nat×Hp)) zenv zcov ?_ ?_
 ·exact⟨Nat.zero_le _,by rw[List.take_zero,upd_nil];exact hM⟩
 rintro⟨j,cj⟩ ⟨hj,hMj⟩
 dsimp only at hj hMj⊢
 refine qs ?_
 refine qv (v_lss rfl rfl)<|qt<|cw_seq ?_
 refine cw_dec rfl (fun hc59=>?_) (fun hc59=>?_)
 refine cw_skip<|xw_then ?_
 rotate_left
 refine cw_exit ?_
 refine xw_then_exit ?_
 refine xw_round_exit ?_
 refine xw_block_exit<|xw_then<|qs<|qa<|qt ?_
 refine cw_ret ?_
 refine ret1 rfl (res_tmp rfl) ?_
 rotate_left
 ·have hj2:j<d.length:=by omega
  refine cw_seq ?_
  refine cw_block<|qs<|qm ?_
  refine ow_val rfl rfl (v_indexAddr_vw Tryz.underlying28 (u8Ty) rfl rfl (hV []) rfl zom) ?_
  refine ql (Go.Sl.Vw.var (u8Ty) (hV3 zcov) zom)<|qa<|qa<|qt<|cw_region<|qm<|qn ?_
  refine qf Ty.fd155_5 ?_
  refine ql (Var.at1 Ty.sc153 .here (GetN.lit rfl))<|qm<|qm ?_
  refine qv (v_convert Tryz.underlying3 Tryz.underlying27 rfl (nw_u64 zom zom)) ?_
  refine qv (v_add rfl rfl (nw_u64 zom zom))<|qm ?_
  refine ow_mapUpdate (kd:=.u64) rfl Tryz.underlying153 Tryz.underlying27 rfl rfl rfl zsel hMj ?_
  intro cm2 hM2
  rw[upd_step hj2]at hM2
  refine ow_nil ?_
  refine xw_block<|xw_then<|cw_region ?_
  refine qv (v_add rfl rfl (nw_i64 zom zom))<|qm<|ow_nil ?_
  exact xw_round ((j+1,cm2):Nat×Hp) ⟨by dsimp only;omega,hM2⟩ zdo zcov zenv
 ·have hx:d.take j=d:=List.take_of_length_le zom
  rw[hx]at hMj
  skip
  exact⟨_,rfl,InAt.of zas hMj rfl,zcov⟩
def InM.addBad (m:InM)(a:Int)(n:Int)(last:Bool):Prop:=(m.known=true∧(m.final<a+n∨(last=true∧a+n≠m.final)))∨(last=true∧a+n<m.high)
instance {m:InM}{a n:Int}{last:Bool}:Decidable (m.addBad a n last):=by unfold InM.addBad;infer_instance
def InM.fresh (m:InM)(a:Int)(d:List UInt8):List UInt8:=d.drop (max a m.read-a).toNat
def InM.addE (m:InM)(a:Int)(d:List UInt8)(last:Bool):Int:=
 if m.addBad a d.length last then 13 else if m.read+65536<a+d.length then 14 else if max a m.read<a+d.length then m.storeE (max a m.read) (m.fresh a d) else 0
def InM.add1 (m:InM)(a:Int)(d:List UInt8):InM:=if max a m.read<a+d.length then m.store (max a m.read) (m.fresh a d) else m
def InM.add2 (m:InM)(a:Int)(d:List UInt8)(last:Bool):InM:=if last=true then {m.add1 a d with final:=a+d.length,known:=true} else m.add1 a d
def InM.add (m:InM)(a:Int)(d:List UInt8)(last:Bool):InM:=if m.addE a d last=0 then (m.add2 a d last).rise (a+d.length) else m
theorem InM.store_same {m:InM}{a:Int}{d:List UInt8}:(m.store a d).read=m.read∧(m.store a d).high=m.high∧(m.store a d).final=m.final∧(m.store a d).known=m.known:=by
 unfold InM.store
 split<;>exact⟨rfl,rfl,rfl,rfl⟩
theorem InM.add1_same {m:InM}{a:Int}{d:List UInt8}:(m.add1 a d).read=m.read∧(m.add1 a d).high=m.high∧(m.add1 a d).final=m.final∧(m.add1 a d).known=m.known:=by
 unfold InM.add1
 split
 ·exact InM.store_same
 ·exact⟨rfl,rfl,rfl,rfl⟩
set_option maxHeartbeats 4000000 in
theorem inAdd_c {m:InM}{b:Nat}{c:Hp}{a:Int}{ao2:Option Addr}{n cap2:Nat}{d:List UInt8}{last:Bool}(hsel:Sel G c R)(hO:InAt m b c)(hw:m.WF)(ha:0≤a∧a+d.length≤4611686018427387903)(hag:m.Agree (max a m.read) (m.fresh a d))(hV:∀c',Vw enB (St B w0 (R c')) (.slice ao2 n cap2) d):
    Go.Sl.Fn Tryz.prog 81 #[.pointer (some ⟨b,0,none⟩),.int .u64 a,.slice ao2 n cap2,.bool last] B w0 G fun u G'=>∃c':Hp,u=.tuple #[.int .u64 (if m.addE a d last=0 then m.more (a+d.length) else 0),.int .i64 (m.addE a d last)]∧InAt (m.add a d last) b c'∧G'=R c':=by
  refine Fn.sel0 hsel fun F hR hF=>?_
  have hV:∀c',Vw enB (St B w0 (c'::F)) (.slice ao2 n cap2) d:=fun c'=>(hV c').cov (Cov.of_perm (hR c'))
  have hn:=(hV []).len
  subst hn
  have hO':=hO
  obtain⟨bp,bm,cp,cm,rfl,hP,hM⟩:=hO
  have hrd:=hw.rd
  have hbad:∀e:Int,m.addE a d last=e→e≠0→m.add a d last=m∧(if m.addE a d last=0 then m.more (a+d.length) else 0)=0:=fun e h1 h2=>⟨if_neg zom,if_neg zom⟩
  refine fn_enter Tryz.func81 rfl (by kernel_rfl) Tryz.ntmps81 (by simp) ?_
  refine cw_split3' ?_
  refine qs ?_
  refine qa ?_
  refine qa ?_
  refine qt ?_
  refine cw_seq ?_
  refine qs ?_
  refine qm ?_
  refine qv (v_eql_nil_some Tryz.underlying48 rfl) ?_
  refine qt ?_
  refine cw_false rfl ?_
  refine cw_skip ?_
  refine xw_then ?_
  refine qs ?_
  refine qm ?_
  refine qv (v_len rfl Tryz.underlying28 rfl) ?_
  refine qv (v_convert Tryz.underlying3 Tryz.underlying27 rfl (nw_u64 zom zom)) ?_
  refine qa ?_
  refine qt ?_
  refine cw_seq ?_
  refine qs ?_
  refine qm ?_
  refine qv (v_gtr rfl rfl) ?_
  refine qm ?_
  refine ow_dec 21 rfl (fun hc21=>?_) (fun hc21=>?_)
  (exfalso;omega)
  refine qm ?_
  refine qm ?_
  refine qv (v_sub rfl rfl (nw_u64 zom zom)) ?_
  refine qv (v_gtr rfl rfl) ?_
  refine qv (v_pick_false rfl rfl) ?_
  refine qt ?_
  refine cw_dec rfl (fun hc26=>?_) (fun hc26=>?_)
  (exfalso;omega)
  refine cw_skip ?_
  refine xw_then ?_
  refine qs ?_
  refine qm ?_
  refine qm ?_
  refine qv (v_add rfl rfl (nw_u64 zom zom)) ?_
  refine qa ?_
  refine qt ?_
  refine cw_cut2 (ι:=(Unit)) [(0,_),(1,_),(2,_),(3,_),(11,_)] ⟨rfl,rfl,rfl,rfl,rfl,trivial⟩ ((fun _=>[])) ((fun _=>¬m.addBad a d.length last)) ((fun _=>[(b,.cells [.int .u64 m.read,.int .u64 m.high,.int .u64 m.final,.bool m.known,.pointer (some ⟨bp,0,none⟩),.map (some bm)].toArray 155 (0,0))]::cp::cm::F)) ?_ ?_
  · have h13:m.addBad a d.length last→m.addE a d last=13:=fun h=>if_pos h
    refine qs ?_
    refine qm ?_
    refine qn ?_
    refine qf Ty.fd155_3 ?_
    refine ql (Var.at1 Ty.sc4 .here (GetN.lit rfl)) ?_
    refine qm ?_
    refine ow_bool 34 rfl (fun hc34=>?_) (fun hc34=>?_)
    refine qm ?_
    refine qm ?_
    refine qn ?_
    refine qf Ty.fd155_2 ?_
    refine ql (Var.at1 Ty.sc27 .here (GetN.lit rfl)) ?_
    refine qv (v_gtr rfl rfl) ?_
    refine qm ?_
    refine ow_dec 41 rfl (fun hc41=>?_) (fun hc41=>?_)
    refine qk ?_
    refine qk ?_
    refine qk ?_
    refine qk ?_
    refine qk ?_
    refine qk ?_
    refine qk ?_
    refine qk ?_
    refine qk ?_
    refine qv (v_pick_true rfl rfl) ?_
    refine qv (v_pick_true rfl rfl) ?_
    refine qm ?_
    refine qk ?_
    refine qk ?_
    refine qk ?_
    refine qk ?_
    refine qk ?_
    refine qk ?_
    refine qk ?_
    refine qk ?_
    refine qk ?_
    refine qv (v_pick_true rfl rfl) ?_
    refine qt ?_
    refine cw_true rfl ?_
    refine qs ?_
    refine qa ?_
    refine qa ?_
    refine qt ?_
    refine cw_ret ?_
    refine xw_joint_ret ?_
    refine ret2 rfl (res_tmp rfl) (res_tmp rfl) ?_
    rotate_left
    refine qm ?_
    refine qm ?_
    refine ow_bool 43 rfl (fun hc43=>?_) (fun hc43=>?_)
    refine qm ?_
    refine qm ?_
    refine qn ?_
    refine qf Ty.fd155_2 ?_
    refine ql (Var.at1 Ty.sc27 .here (GetN.lit rfl)) ?_
    refine qv (v_neq rfl rfl) ?_
    refine qv (v_pick_true rfl rfl) ?_
    refine qv (v_pick_false rfl rfl) ?_
    refine qv (v_pick_true rfl rfl) ?_
    refine qm ?_
    refine ow_dec 53 rfl (fun hc53=>?_) (fun hc53=>?_)
    refine qk ?_
    refine qk ?_
    refine qk ?_
    refine qk ?_
    refine qk ?_
    refine qk ?_
    refine qk ?_
    refine qk ?_
    refine qk ?_
    refine qv (v_pick_true rfl rfl) ?_
    refine qt ?_
    refine cw_true rfl ?_
    refine qs ?_
    refine qa ?_
    refine qa ?_
    refine qt ?_
    refine cw_ret ?_
    refine xw_joint_ret ?_
    refine ret2 rfl (res_tmp rfl) (res_tmp rfl) ?_
    rotate_left
    refine qm ?_
    refine qm ?_
    refine ow_bool 55 rfl (fun hc55=>?_) (fun hc55=>?_)
    refine qm ?_
    refine qm ?_
    refine qn ?_
    refine qf Ty.fd155_1 ?_
    refine ql (Var.at1 Ty.sc27 .here (GetN.lit rfl)) ?_
    refine qv (v_lss rfl rfl) ?_
    refine qv (v_pick_true rfl rfl) ?_
    refine qv (v_pick_false rfl rfl) ?_
    refine qt ?_
    refine cw_dec rfl (fun hc63=>?_) (fun hc63=>?_)
    refine qs ?_
    refine qa ?_
    refine qa ?_
    refine qt ?_
    refine cw_ret ?_
    refine xw_joint_ret ?_
    refine ret2 rfl (res_tmp rfl) (res_tmp rfl) ?_
    rotate_left
    refine cw_skip ?_
    rotate_left
    refine qk ?_
    refine qk ?_
    refine qk ?_
    refine qk ?_
    refine qk ?_
    refine qk ?_
    refine qv (v_pick_false rfl rfl) ?_
    refine qv (v_pick_false rfl rfl) ?_
    refine qt ?_
    refine cw_false rfl ?_
    refine cw_skip ?_
    rotate_left
    refine qk ?_
    refine qk ?_
    refine qk ?_
    refine qk ?_
    refine qk ?_
    refine qk ?_
    refine qv (v_pick_false rfl rfl) ?_
    refine qv (v_pick_false rfl rfl) ?_
    refine qv (v_pick_true rfl rfl) ?_
    refine qm ?_
    refine qm ?_
    refine qm ?_
    refine ow_bool 55 rfl (fun hc55=>?_) (fun hc55=>?_)
    refine qm ?_
    refine qm ?_
    refine qn ?_
    refine qf Ty.fd155_1 ?_
    refine ql (Var.at1 Ty.sc27 .here (GetN.lit rfl)) ?_
    refine qv (v_lss rfl rfl) ?_
    refine qv (v_pick_true rfl rfl) ?_
    refine qv (v_pick_false rfl rfl) ?_
    refine qt ?_
    refine cw_dec rfl (fun hc63=>?_) (fun hc63=>?_)
    refine qs ?_
    refine qa ?_
    refine qa ?_
    refine qt ?_
    refine cw_ret ?_
    refine xw_joint_ret ?_
    refine ret2 rfl (res_tmp rfl) (res_tmp rfl) ?_
    rotate_left
    refine cw_skip ?_
    rotate_left
    refine qk ?_
    refine qk ?_
    refine qk ?_
    refine qk ?_
    refine qk ?_
    refine qk ?_
    refine qv (v_pick_false rfl rfl) ?_
    refine qv (v_pick_false rfl rfl) ?_
    refine qt ?_
    refine cw_false rfl ?_
    refine cw_skip ?_
    rotate_left
    refine qk ?_
    refine qk ?_
    refine qk ?_
    refine qk ?_
    refine qk ?_
    refine qk ?_
    refine qk ?_
    refine qk ?_
    refine qk ?_
    refine qk ?_
    refine qk ?_
    refine qk ?_
    refine qk ?_
    refine qk ?_
    refine qk ?_
    refine qk ?_
    refine qk ?_
    refine qv (v_pick_false rfl rfl) ?_
    refine qm ?_
    refine qm ?_
    refine qm ?_
    refine ow_bool 55 rfl (fun hc55=>?_) (fun hc55=>?_)
    refine qm ?_
    refine qm ?_
    refine qn ?_
    refine qf Ty.fd155_1 ?_
    refine ql (Var.at1 Ty.sc27 .here (GetN.lit rfl)) ?_
    refine qv (v_lss rfl rfl) ?_
    refine qv (v_pick_true rfl rfl) ?_
    refine qv (v_pick_false rfl rfl) ?_
    refine qt ?_
    refine cw_dec rfl (fun hc63=>?_) (fun hc63=>?_)
    refine qs ?_
    refine qa ?_
    refine qa ?_
    refine qt ?_
    refine cw_ret ?_
    refine xw_joint_ret ?_
    refine ret2 rfl (res_tmp rfl) (res_tmp rfl) ?_
    rotate_left
    refine cw_skip ?_
    rotate_left
    refine qk ?_
    refine qk ?_
    refine qk ?_
    refine qk ?_
    refine qk ?_
    refine qk ?_
    refine qv (v_pick_false rfl rfl) ?_
    refine qv (v_pick_false rfl rfl) ?_
    refine qt ?_
    refine cw_false rfl ?_
    refine cw_skip ?_
    rotate_left
    all_goals first
      | (have h3:m.addBad a d.length last:=by
           first
             | exact .inl ⟨hc34,.inl hc41⟩
             | exact .inl ⟨hc34,.inr ⟨hc43,hc53⟩⟩
             | exact .inr ⟨hc55,hc63⟩
         obtain⟨h1,h2⟩:=hbad 13 (h13 h3) (by decide)
         rw[h1,h2,h13 h3]
         exact⟨_,rfl,hO',zcov⟩)
      | exact xw_joint () (fun h=>by
          rcases h with⟨h1,h2|⟨h2,h3⟩⟩|⟨h1,h2⟩
          · first
              | exact hc41 h2
              | (rw[hc34]at h1;cases h1)
          · first
              | exact hc53 h3
              | (rw[hc43]at h2;cases h2)
              | (rw[hc34]at h1;cases h1)
          · first
              | exact hc63 h2
              | (rw[hc55]at h1;cases h1)) zcov zenv
  rintro _ hnb
  refine cw_seq ?_
  refine qs ?_
  refine qm ?_
  refine qm ?_
  refine qn ?_
  refine qf Ty.fd155_0 ?_
  refine ql (Var.at1 Ty.sc27 .here (GetN.lit rfl)) ?_
  refine qv (v_add rfl rfl (nw_u64 zom zom)) ?_
  refine qv (v_gtr rfl rfl) ?_
  refine qt ?_
  refine cw_dec rfl (fun hc70=>?_) (fun hc70=>?_)
  refine qs ?_
  refine qa ?_
  refine qa ?_
  refine qt ?_
  refine cw_ret ?_
  refine xw_then_ret ?_
  refine ret2 rfl (res_tmp rfl) (res_tmp rfl) ?_
  rotate_left
  refine cw_skip ?_
  refine xw_then ?_
  rotate_left
  · have h14:m.addE a d last=14:=by rw[InM.addE,if_neg hnb,if_pos hc70]
    obtain⟨h1,h2⟩:=hbad 14 h14 (by decide)
    rw[h1,h2,h14]
    exact⟨_,rfl,hO',zcov⟩
  have hae:m.addE a d last=if max a m.read<a+d.length then m.storeE (max a m.read) (m.fresh a d) else 0:=by rw[InM.addE,if_neg hnb,if_neg hc70]
  refine qs ?_
  refine qm ?_
  refine qm ?_
  refine qn ?_
  refine qf Ty.fd155_0 ?_
  refine ql (Var.at1 Ty.sc27 .here (GetN.lit rfl)) ?_
  refine qv (v_max rfl rfl) ?_
  refine qa ?_
  refine qt ?_
  refine cw_cut2 (ι:=(Hp)) [(0,_),(3,_),(11,_)] ⟨rfl,rfl,rfl,trivial⟩ ((fun _=>[])) ((fun x=>InAt (m.add1 a d) b x∧m.addE a d last=0)) ((fun x=>x::F)) ?_ ?_
  · refine cw_seq ?_
    refine cw_region ?_
    refine qm ?_
    refine qm ?_
    refine qv (v_lss rfl rfl) ?_
    refine qt ?_
    refine cw_dec rfl (fun hc79=>?_) (fun hc79=>?_)
    refine qs ?_
    refine qm ?_
    refine qm ?_
    refine qm ?_
    refine qm ?_
    refine qm ?_
    refine qv (v_sub rfl rfl (nw_u64 zom zom)) ?_
    refine qv (v_slice_ln Tryz.underlying28 Ty.el28 rfl rfl (Int.toNat_of_nonneg zom).symm zom) ?_
    rotate_left
    refine cw_skip ?_
    rotate_left
    · obtain⟨ao9,cap9,he9,hct⟩:=(hV []).view
      injection he9 with _ _ he9
      subst he9
      have hfl:(m.fresh a d).length=d.length-(max a m.read-a).toNat:=List.length_drop ..
      have hVf:∀c',Vw enB (St B w0 (c'::F)) (.slice (cutA ao2 cap2 (max a m.read-a).toNat 1) (d.length-(max a m.read-a).toNat) (cap2-(max a m.read-a).toNat)) (m.fresh a d):=fun c'=>Vw.sub2 u8Ty (hV c') zom
      skip
      refine ow_join3 ?_
      (refine ow_call rfl rfl rfl rfl (inStore_c (R:=fun x=>x::F) zsel hO' hw (by rw[hfl];omega) (by rw[hfl];omega) hag hVf) ?_;rintro _ _ ⟨x87,rfl,hq87,rfl⟩)
      refine qa ?_
      refine qt ?_
      rw[if_pos hc79]at hae
      rw[show m.add1 a d=m.store (max a m.read) (m.fresh a d) from if_pos hc79]
      refine qs ?_
      refine qm ?_
      refine qv (v_neq rfl rfl) ?_
      refine qt ?_
      refine cw_dec rfl (fun hc89=>?_) (fun hc89=>?_)
      refine qs ?_
      refine qm ?_
      refine qa ?_
      refine qa ?_
      refine qt ?_
      refine cw_ret ?_
      refine xw_joint_ret ?_
      refine ret2 rfl (res_tmp rfl) (res_tmp rfl) ?_
      rotate_left
      refine cw_skip ?_
      rotate_left
      · have hne:m.storeE (max a m.read) (m.fresh a d)≠0:=hc89
        obtain⟨h1,h2⟩:=hbad _ rfl (by rw[hae];exact hne)
        rw[h1,h2,hae]
        rw[show m.store (max a m.read) (m.fresh a d)=m from if_neg hne]at hq87
        exact⟨_,rfl,hq87,zcov⟩
      · have h0:m.storeE (max a m.read) (m.fresh a d)=0:=by simpa using hc89
        exact xw_joint x87 ⟨hq87,hae.trans h0⟩ zcov zenv
    · rw[if_neg hc79]at hae
      rw[show m.add1 a d=m from if_neg hc79]
      exact xw_joint _ ⟨hO',hae⟩ zcov zenv
  rintro c2 ⟨hO2,he0⟩
  have hs1:=InM.add1_same (m:=m) (a:=a) (d:=d)
  have hO3:=hO2
  obtain⟨bp2,bm2,cp2,cm2,rfl,hP2,hM2⟩:=hO2
  refine cw_split3' ?_
  have hh1:0≤(m.add1 a d).high:=by rw[hs1.2.1];omega
  rw[show m.add a d last=(m.add2 a d last).rise (a+d.length) from if_pos he0,he0,if_pos rfl]
  have hmo:(m.add2 a d last).more (a+d.length)=m.more (a+d.length):=by
    unfold InM.more InM.add2
    split
    · dsimp only;rw[hs1.2.1]
    · rw[hs1.2.1]
  rw[←hmo]
  refine cw_seq ?_
  refine qs ?_
  refine qm ?_
  refine qt ?_
  refine cw_bool rfl (fun hc91=>?_) (fun hc91=>?_)
  refine cw_region ?_
  refine qm ?_
  refine qm ?_
  refine qm ?_
  refine qn ?_
  refine qf Ty.fd155_2 ?_
  refine ow_store1 rfl rfl rfl rfl Ty.sc27 .here (SetN.one zdn) ?_
  refine qn ?_
  refine qf Ty.fd155_3 ?_
  refine ow_store1 rfl rfl rfl rfl Ty.sc4 .here (SetN.one zdn) ?_
  refine qt ?_
  rotate_left
  refine cw_skip ?_
  refine xw_then ?_
  rotate_left
  · rw[show m.add2 a d last={m.add1 a d with final:=a+d.length,known:=true} from if_pos hc91]
    refine qs ?_
    refine qm ?_
    refine qm ?_
    refine ow_join3 ?_
    (refine ow_call rfl rfl rfl rfl (inRise_c (m:={m.add1 a d with final:=a+d.length,known:=true}) zsel (InAt.of hP2 hM2 rfl) hh1 zom) ?_;rintro _ _ ⟨x101,rfl,hq101,rfl⟩)
    refine qa ?_
    refine qa ?_
    refine qt ?_
    refine cw_ret ?_
    refine ret2 rfl (res_tmp rfl) (res_tmp rfl) ?_
    exact⟨_,rfl,hq101,zcov⟩
  · rw[show m.add2 a d last=m.add1 a d from if_neg (by simp[hc91])]
    refine qs ?_
    refine qm ?_
    refine qm ?_
    refine ow_join3 ?_
    (refine ow_call rfl rfl rfl rfl (inRise_c (m:=m.add1 a d) zsel hO3 hh1 zom) ?_;rintro _ _ ⟨x101,rfl,hq101,rfl⟩)
    refine qa ?_
    refine qa ?_
    refine qt ?_
    refine cw_ret ?_
    refine ret2 rfl (res_tmp rfl) (res_tmp rfl) ?_
    exact⟨_,rfl,hq101,zcov⟩
end Go.Proofs.YtnlaffkihohfkaaGreat
namespace Go.Proofs.YtnlaffkihohfkaaGreat
open Go Go.Sl Go.Proofs
variable {B:Nat}{w0:World}{G:List Hp}{R:Hp→List Hp}
theorem cut_low {l:List Rg}{r:Rg}(hg:Good l)(hr:RgIn r)(hx:∀x∈l,r.a≤x.a):(cutE l r).length≤l.length:=by
 unfold cutE
 by_cases h0:r.a<r.b
 ·rw[if_pos h0]
  unfold cutL
  have hc:=@cutAt_le (fun x=>decide (r.a<x.b)) l
  have hB:=hg.drop (cutAt (fun x=>decide (r.a<x.b)) l)
  obtain⟨h1,h2,_⟩:=cutT (r:=r) (hr.ok h0) hB fun x h=>hx x (List.mem_of_mem_drop h)
  have h3:=h1.le
  rw[List.length_drop]at h3
  simp only[List.length_append,List.length_take,List.length_drop]
  omega
 ·rw[if_neg h0]
  exact Nat.le_refl _
def gone (f:Int→Option UInt8)(a:Int)(n:Int)(k:Int):Option UInt8:=if a≤k∧k<a+n then none else f k
theorem gone_step {f:Int→Option UInt8}{a r:Int}(h:a≤r):(fun k=>if k=r then none else mv (gone f a (r-a)) k)=mv (gone f a (r+1-a)):=by
 funext k
 unfold mv gone
 by_cases hk:k=r
 ·rw[if_pos hk,if_pos zom];rfl
 ·rw[if_neg hk]
  by_cases h3:a≤k∧k<a+(r-a)
  ·rw[if_pos h3,if_pos zom]
  ·rw[if_neg h3,if_neg zom]
theorem gone_nil {f:Int→Option UInt8}{a n:Int}(h:n≤0):gone f a n=f:=by
 funext k
 unfold gone
 rw[if_neg zom]
def InM.off (m:InM)(n:Nat):InM:={m with read:=m.read+n,l:=cutE m.l ⟨m.read,m.read+n⟩,f:=gone m.f m.read n}
theorem InM.off_zero {m:InM}:m.off 0=m:=by
 unfold InM.off cutE
 rw[if_neg (by simp),gone_nil (by simp)]
 cases m
 simp
set_option maxHeartbeats 4000000 in
theorem inRead_c {m:InM}{b:Nat}{c:Hp}{many:Int}(hsel:Sel G c R)(hO:InAt m b c)(hw:m.WF)(hm: -9223372036854775808≤many∧many≤1000000):
  Go.Sl.Fn Tryz.prog 70 #[.pointer (some ⟨b,0,none⟩),.int .i64 many] B w0 G fun u G'=>∃x:Option Addr×Nat×Hp×Hp,u=.tuple #[.slice x.1 (m.bytes (m.many many)).length x.2.1,.bool (m.known&&decide (m.read+(m.many many:Int)=m.final))]∧(Ls enB 5 (.slice x.1 (m.bytes (m.many many)).length x.2.1) x.2.2.1 (m.bytes (m.many many))∧InAt (m.off (m.many many)) b x.2.2.2)∧G'=[x.2.2.1]++R x.2.2.2:=by
 refine Fn.sel hsel fun F hR hF=>?_
 have hO':=hO
 obtain⟨bp,bm,cp,cm,rfl,hP,hM⟩:=hO
 have hrd:=hw.rd
 obtain⟨r1,r2,r3⟩:=InM.ready_spec hw
 have hmr:m.read+m.ready≤m.high:=by
  rcases Int.lt_or_le 0 m.ready with h|h
  ·have:=hw.low _ (r2 (m.read+m.ready-1) zom zom);omega
  ·omega
 have hmm:(m.many many:Int)≤m.ready∧(m.many many:Int)≤1000000:=by unfold InM.many;omega
 have hpk:=fun {G:List Hp} (hs:Go.Sl.Sub ([(b,Obj.cells #[.int .u64 m.read,.int .u64 m.high,.int .u64 m.final,.bool m.known,.pointer (some ⟨bp,0,none⟩),.map (some bm)] 155 (0,0))]++(cp++cm)) G)=>inPeek_c (B:=B) (w0:=w0) (many:=many) hO' hs hw hm
 rw[InM.bytes_len]at hpk⊢
 generalize m.many many=n at *
 refine fn_enter Tryz.func70 rfl (by kernel_rfl) Tryz.ntmps70 (by simp) ?_
 refine cw_split3' ?_
 refine qs<|qa<|qa<|qt<|cw_seq<|qs<|qm ?_
 refine qv (v_eql_nil_some Tryz.underlying48 rfl)<|qt ?_
 refine cw_false rfl<|cw_skip<|xw_then ?_
 refine qs<|qm<|qm ?_
 (refine ow_call rfl rfl rfl rfl (hpk (Sub.app zhas (Sub.app zhas zhas))) ?_;rintro _ _ ⟨x12,rfl,hq12,rfl⟩)
 refine qa<|qt ?_
 have hrg:RgIn ⟨m.read,m.read+n⟩:=⟨by dsimp only;omega,by dsimp only;omega⟩
 have hcl:=cut_low hw.gl hrg (fun x hx=>(hw.low x.a ⟨x,hx,Int.le_refl _,(hw.gl.1 x hx).2.1⟩).1)
 have hl32:=hw.len
 refine cw_cut2 (ι:=(Hp)) [(0,_),(4,_),(5,_),(6,_)] ⟨rfl,rfl,rfl,rfl,trivial⟩ ((fun _=>[])) ((fun x=>InAt (m.off n) b x)) ((fun x=>x12.2.2::x::F)) ?_ ?_
 ·refine cw_seq ?_
  refine cw_region<|qm ?_
  refine qv (v_len rfl Tryz.underlying28 rfl) ?_
  refine qv (v_gtr rfl rfl)<|qt ?_
  refine cw_dec rfl (fun hc15=>?_) (fun hc15=>?_)
  refine qs<|qm<|qn ?_
  refine qf Ty.fd155_0 ?_
  refine ql (Var.at1 Ty.sc27 (.there .here) (GetN.lit rfl))<|qm ?_
  refine qv (v_len rfl Tryz.underlying28 rfl) ?_
  refine qv (v_convert Tryz.underlying3 Tryz.underlying27 rfl (nw_u64 zom zom)) ?_
  refine qv (v_add rfl rfl (nw_u64 zom zom))<|qa<|qt<|cw_seq ?_
  refine cw_mix [] [10] [0,1,2,3,4,5,6,7,8,9] Ty.mixed rfl rfl rfl rfl zdk ?_
  refine hmv ?_
  refine hw_pure rfl rfl (v_nilCheck rfl) rfl ?_
  refine hw_pure rfl rfl (v_fieldAddr0 Ty.fd155_4 rfl) rfl ?_
  refine hw_read rfl rfl rfl (v_load rfl (Var.at1 Ty.sc129 (.there .here) (GetN.lit rfl))) ?_
  refine hmv ?_
  refine hw_pure rfl rfl (v_nilCheck rfl) rfl ?_
  refine hw_pure rfl rfl (v_fieldAddr0 Ty.fd155_0 rfl) rfl ?_
  refine hw_read rfl rfl rfl (v_load rfl (Var.at1 Ty.sc27 (.there .here) (GetN.lit rfl))) ?_
  refine hmv ?_
  refine hw_pure rfl rfl (v_build rfl (b_rng)) rfl ?_
  refine hw_nil ?_
  refine sw_nil ?_
  (refine ow_call rfl rfl rfl rfl (setCutOk_l (r:=⟨m.read,m.read+n⟩) zsel hP hw.sp hrg zom) ?_;rintro _ _ ⟨x34,rfl,hq34,rfl⟩)
  refine ow_nil ?_
  refine xw_np<|xw_then ?_
  refine cw_block ?_
  rotate_left
  refine cw_skip ?_
  rotate_left
  ·refine cw_loop2 (ι:=((Int×Hp))) [(0,_),(4,_),(5,_),(6,_),(7,_)] ⟨rfl,rfl,rfl,rfl,rfl,trivial⟩ ((fun _=>[])) ((fun x=>m.read≤x.1∧x.1≤m.read+n∧MapF .u64 (mv (gone m.f m.read (x.1-m.read))) bm x.2)) ((fun x=>(m.read+n-x.1).toNat)) ((fun x=>x12.2.2::[(b,.cells [.int .u64 x.1,.int .u64 m.high,.int .u64 m.final,.bool m.known,.pointer (some ⟨bp,0,none⟩),.map (some bm)].toArray 155 (0,0))]::x34::x.2::F)) (((m.read,cm):Int×Hp)) zenv zcov ?_ ?_
   ·exact⟨Int.le_refl _,by dsimp only;omega,by dsimp only;rw[Int.sub_self,gone_nil (Int.le_refl _)];exact hM⟩
   rintro⟨r,cj⟩ ⟨hr1,hr2,hMj⟩
   dsimp only at hr1 hr2 hMj⊢
   refine cw_seq<|qs<|qm<|qn ?_
   refine qf Ty.fd155_0 ?_
   refine ql (Var.at1 Ty.sc27 (.there .here) (GetN.lit rfl))<|qm ?_
   refine qv (v_lss rfl rfl)<|qt ?_
   refine cw_dec rfl (fun hc40=>?_) (fun hc40=>?_)
   refine cw_skip<|xw_then ?_
   rotate_left
   refine cw_exit ?_
   refine xw_then_exit ?_
   refine xw_round_exit ?_
   refine xw_block_exit ?_
   rotate_left
   ·refine cw_seq ?_
    refine cw_block ?_
    refine cw_mix [] [8] [0,1,2,3,4,5,6,7] Ty.mixed rfl rfl rfl rfl zdk ?_
    refine hmv ?_
    refine hw_pure rfl rfl (v_nilCheck rfl) rfl ?_
    refine hw_pure rfl rfl (v_fieldAddr0 Ty.fd155_5 rfl) rfl ?_
    refine hw_read rfl rfl rfl (v_load rfl (Var.at1 Ty.sc153 (.there .here) (GetN.lit rfl))) ?_
    refine hmv ?_
    refine hw_pure rfl rfl (v_nilCheck rfl) rfl ?_
    refine hw_pure rfl rfl (v_fieldAddr0 Ty.fd155_0 rfl) rfl ?_
    refine hw_read rfl rfl rfl (v_load rfl (Var.at1 Ty.sc27 (.there .here) (GetN.lit rfl))) ?_
    refine hw_nil ?_
    refine sw_nil ?_
    refine ow_delete (kd:=.u64) rfl rfl Tryz.underlying153 Tryz.underlying27 rfl rfl zsel hMj ?_
    intro cm3 hM3
    rw[gone_step hr1]at hM3
    refine ow_nil ?_
    refine xw_np ?_
    refine xw_block<|xw_then<|cw_region<|qm<|qn ?_
    refine qf Ty.fd155_0 ?_
    refine ql (Var.at1 Ty.sc27 (.there .here) (GetN.lit rfl)) ?_
    refine qv (v_add rfl rfl (nw_u64 zom zom))<|qn ?_
    refine qf Ty.fd155_0 ?_
    refine ow_store1 rfl rfl rfl rfl Ty.sc27 (.there .here) (SetN.one zdn)<|ow_nil ?_
    exact xw_round ((r+1,cm3):Int×Hp) ⟨by dsimp only;omega,by dsimp only;omega,hM3⟩ zdo zcov zenv
   ·have hrn:r=m.read+n:=by omega
    subst hrn
    rw[show m.read+(n:Int)-m.read=n from by omega]at hMj
    exact xw_joint _ (InAt.of zas hMj rfl) zcov zenv
  ·have h0:n=0:=by omega
   subst h0
   rw[InM.off_zero]
   exact xw_joint _ hO' zcov zenv
 rintro c2 hO2
 have hO3:=hO2
 obtain⟨bp2,bm2,cp2,cm2,rfl,hP2,hM2⟩:=hO2
 refine cw_flat (x12.2.2::[(b,.cells [.int .u64 (m.off n).read,.int .u64 (m.off n).high,.int .u64 (m.off n).final,.bool (m.off n).known,.pointer (some ⟨bp2,0,none⟩),.map (some bm2)].toArray 155 (0,0))]::cp2::cm2::F) (.of_eq (by simp)) ?_
 have e1:(m.off n).read=m.read+n:=rfl
 have e2:(m.off n).final=m.final:=rfl
 have e3:(m.off n).known=m.known:=rfl
 refine cw_seq ?_
 refine cw_quiet Ty.mixed zdk ?_
 refine kmv ?_
 refine kmv ?_
 refine kv (v_nilCheck rfl) ?_
 refine kv (v_fieldAddr0 Ty.fd155_3 rfl) ?_
 refine kv (v_load rfl (Var.at1 Ty.sc4 (.there .here) (GetN.lit rfl))) ?_
 refine kmv ?_
 refine kw_bool 61 rfl (fun hc61=>?_) (fun hc61=>?_)
 refine kmv ?_
 refine kv (v_nilCheck rfl) ?_
 refine kv (v_fieldAddr0 Ty.fd155_0 rfl) ?_
 refine kv (v_load rfl (Var.at1 Ty.sc27 (.there .here) (GetN.lit rfl))) ?_
 refine kmv ?_
 refine kv (v_nilCheck rfl) ?_
 refine kv (v_fieldAddr0 Ty.fd155_2 rfl) ?_
 refine kv (v_load rfl (Var.at1 Ty.sc27 (.there .here) (GetN.lit rfl))) ?_
 refine kv (v_eql rfl rfl) ?_
 refine kv (v_pick_true rfl rfl) ?_
 refine kv (v_assign rfl) ?_
 refine kv (v_assign rfl) ?_
 refine kw_nil<|xw_then ?_
 refine cw_ret ?_
 refine ret2 rfl (res_tmp rfl) (res_tmp rfl) ?_
 rotate_left
 refine kk ?_
 refine kk ?_
 refine kk ?_
 refine kk ?_
 refine kk ?_
 refine kk ?_
 refine kk ?_
 refine kk ?_
 refine kk ?_
 refine kv (v_pick_false rfl rfl) ?_
 refine kv (v_assign rfl) ?_
 refine kv (v_assign rfl) ?_
 refine kw_nil<|xw_then ?_
 refine cw_ret ?_
 refine ret2 rfl (res_tmp rfl) (res_tmp rfl) ?_
 rotate_left
 ·have h1:m.known=true:=hc61
  rw[h1]
  exact⟨(x12.1,x12.2.1,x12.2.2,_),by rw[e1,e2];rfl,⟨hq12,hO3⟩,zcov⟩
 ·have h1:m.known=false:=hc61
  rw[h1]
  exact⟨(x12.1,x12.2.1,x12.2.2,_),rfl,⟨hq12,hO3⟩,zcov⟩
theorem InM.rise_wf {m:InM}{stop:Int}(hw:m.WF)(h1:stop≤4611686018427387903)(h2:m.known=true→stop≤m.final):(m.rise stop).WF:=by
 have hrd:=hw.rd
 unfold InM.rise
 split
 ·exact hw
 ·rename_i h
  refine⟨hw.gl,hw.len,by dsimp only;omega,hw.mem,fun k hk=>?_,fun hk=>?_⟩
  ·have:=hw.low k hk;dsimp only;omega
  ·have:=hw.fin hk;have:=h2 hk;dsimp only;omega
theorem InM.stop_wf {m:InM}{fin:Int}(hw:m.WF)(h0:0≤fin):(m.stop fin).WF:=by
 have hrd:=hw.rd
 unfold InM.stop
 split
 ·rename_i h
  unfold InM.stopE at h
  split at h
  ·cases h
  ·split at h
   ·cases h
   ·rename_i h1 h2
    have h3:m.high≤fin:=by
     rcases Int.lt_or_le fin m.high with h4|h4
     ·exact absurd (.inr h4) h2
     ·exact h4
    exact InM.rise_wf ⟨hw.gl,hw.len,hw.rd,hw.mem,hw.low,fun _=>by dsimp only;omega⟩ zom (fun _=>by dsimp only;omega)
 ·exact hw
theorem InM.add_same {m:InM}{a:Int}{d:List UInt8}{last:Bool}(h0:m.addE a d last=0):(m.add a d last).read=m.read∧(m.add a d last).high=max m.high (a+d.length)∧(m.add a d last).known=(m.known||last)∧(m.add a d last).final=if last=true then a+d.length else m.final:=by
 rw[show m.add a d last=(m.add2 a d last).rise (a+d.length) from if_pos h0]
 obtain⟨e1,e2,e3,e4⟩:=InM.add1_same (m:=m) (a:=a) (d:=d)
 cases last with
 |true=>
  rw[show m.add2 a d true={m.add1 a d with final:=a+d.length,known:=true} from if_pos rfl]
  unfold InM.rise
  dsimp only
  split
  ·exact⟨e1,by rw[e2]at *;omega,by simp,rfl⟩
  ·exact⟨e1,by dsimp only;rw[e2]at *;omega,by simp,rfl⟩
 |false=>
  rw[show m.add2 a d false=m.add1 a d from if_neg (by decide)]
  unfold InM.rise
  split
  ·exact⟨e1,by rw[e2]at *;omega,by simp[e4],by simp[e3]⟩
  ·exact⟨e1,by dsimp only;rw[e2]at *;omega,by simp[e4],by simp[e3]⟩
theorem InM.add_wf {m:InM}{a:Int}{d:List UInt8}{last:Bool}(hw:m.WF)(ha:0≤a∧a+d.length≤4611686018427387903):(m.add a d last).WF:=by
 have hrd:=hw.rd
 by_cases h0:m.addE a d last=0
 ·have h0':=h0
  unfold InM.addE at h0'
  split at h0'
  ·cases h0'
  rename_i hb
  split at h0'
  ·cases h0'
  rename_i hfl
  have hbk:m.known=true→a+d.length≤m.final∧(last=true→a+d.length=m.final):=fun hk=>by
   refine⟨?_,fun hl=>?_⟩
   ·rcases Int.lt_or_le m.final (a+d.length)with h|h
    ·exact absurd (.inl ⟨hk,.inl h⟩) hb
    ·exact h
   ·by_cases h:a+(d.length:Int)=m.final
    ·exact h
    ·exact absurd (.inl ⟨hk,.inr ⟨hl,h⟩⟩) hb
  have hbh:last=true→m.high≤a+d.length:=fun hl=>by
   rcases Int.lt_or_le (a+(d.length:Int)) m.high with h|h
   ·exact absurd (.inr ⟨hl,h⟩) hb
   ·exact h
  -- the store
  have h1:Good (m.add1 a d).l∧(m.add1 a d).l.length≤32∧(∀k,InR (m.add1 a d).l k↔((m.add1 a d).f k).isSome=true)∧(∀k,InR (m.add1 a d).l k→m.read≤k∧k<max m.high (a+d.length)):=by
   unfold InM.add1
   by_cases h2:max a m.read<a+d.length
   ·rw[if_pos h2]at h0'⊢
    have hl:(m.fresh a d).length=d.length-(max a m.read-a).toNat:=List.length_drop ..
    rw[show m.store (max a m.read) (m.fresh a d)={m with l:=Go.Proofs.YtnlaffkihohfkaaGreat.addE m.l ⟨max a m.read,max a m.read+(m.fresh a d).length⟩,f:=upd m.f (max a m.read) (m.fresh a d)} from if_pos h0']
    have hrg:RgIn ⟨max a m.read,max a m.read+(m.fresh a d).length⟩:=⟨by dsimp only;omega,by dsimp only;omega⟩
    obtain⟨g1,g2,_⟩:=addE_spec hw.gl hrg
    refine⟨g1,?_,fun k=>?_,fun k hk=>?_⟩
    ·unfold InM.storeE at h0'
     split at h0'
     ·cases h0'
     ·dsimp only;omega
    ·rw[g2,hw.mem]
     dsimp only
     unfold upd
     by_cases h3:max a m.read≤k∧k<max a m.read+(m.fresh a d).length
     ·rw[if_pos h3,List.getElem?_eq_getElem zom]
      simp[h3]
     ·rw[if_neg h3]
      simp[h3]
    ·rcases (g2 k).1 hk with h3|h3
     ·have:=hw.low k h3;omega
     ·dsimp only at h3;omega
   ·rw[if_neg h2]
    exact⟨hw.gl,hw.len,hw.mem,fun k hk=>by have:=hw.low k hk;omega⟩
  obtain⟨e1,e2,e3,e4⟩:=InM.add_same h0
  have el:(m.add a d last).l=(m.add1 a d).l:=by
   rw[show m.add a d last=(m.add2 a d last).rise (a+d.length) from if_pos h0]
   unfold InM.rise InM.add2
   split<;>split<;>rfl
  have ef:(m.add a d last).f=(m.add1 a d).f:=by
   rw[show m.add a d last=(m.add2 a d last).rise (a+d.length) from if_pos h0]
   unfold InM.rise InM.add2
   split<;>split<;>rfl
  refine⟨by rw[el];exact h1.1,by rw[el];exact h1.2.1,by rw[e1,e2];omega,by rw[el,ef];exact h1.2.2.1,by rw[el,e1,e2];exact h1.2.2.2,fun hk=>?_⟩
  rw[e2,e4]
  rw[e3]at hk
  cases last with
  |true=>have:=hbh rfl;rw[if_pos rfl];omega
  |false=>
   have hk2:m.known=true:=by simpa using hk
   have:=hw.fin hk2
   have:=hbk hk2
   rw[if_neg (by decide)]
   omega
 ·rw[show m.add a d last=m from if_neg h0]
  exact hw
end Go.Proofs.YtnlaffkihohfkaaGreat
namespace Go.Proofs.YtnlaffkihohfkaaGreat
open Go Go.Sl Go.Proofs Go.RowKit Go.ChangeShapes Go.WideShapes Go.ChangeAt
variable {B:Nat}{w0:World}{G:List Hp}{R:Hp→List Hp}
theorem form_u8 {H:Type}{enc:TypeId×Value→H}{w:World}{fuel:Nat}{cs:List Value}{y:DataW H×List MemPlace}(h:DataW.trod enc Tryz.prog w 0 (fun _=>true) true fuel 5 cs=some y):∃a:Int,cs=enI.f a∧enI.ok a:=by
 obtain⟨n,e,w0⟩:=form_int Tryz.underlying5 h
 exact⟨n,e,bounds_u8 w0⟩
theorem open_u8 {H:Type}{enc:TypeId×Value→H}{W:World}{base:Nat}{v:Value}{d:DataW H}{p:List MemPlace}(hv:Value.okWide Tryz.prog W .any base 5 v)(h:DataW.Trod enc Tryz.prog W 0 (fun _=>true) true 5 v d p):∃n:Int,v=.int .u8 n∧0≤n∧n≤255:=by
 obtain⟨n,rfl⟩:=okWide_int Tryz.underlying5 hv
 obtain⟨fu,h2⟩:=h
 obtain⟨m,e,hw⟩:=form_int Tryz.underlying5 h2
 have e2:[Value.int .u8 n]=[Value.int .u8 m]:=e
 injection e2 with e3
 injection e3 with _ e4
 subst e4
 exact⟨n,rfl,bounds_u8 hw⟩
end Go.Proofs.YtnlaffkihohfkaaGreat
namespace Go.Proofs.YtnlaffkihohfkaaGreat
open Go Go.Sl Go.Proofs
variable {B:Nat}{w0:World}{G:List Hp}{R:Hp→List Hp}
end Go.Proofs.YtnlaffkihohfkaaGreat
namespace Go.Proofs.YtnlaffkihohfkaaGreat
open Go Go.Sl Go.Proofs
variable {B:Nat}{w0:World}{G:List Hp}{R:Hp→List Hp}
def inQ (n:Int):Prop:=0≤n∧n≤18446744073709551615
def enQ:Enc Int:=⟨fun n=>[.int .u64 n],1,fun n=>.int .u64 n,inQ⟩
theorem qTy:EncTy Tryz.prog 27 enQ:=EncTy.scalar Ty.sc27 rfl (fun _=>rfl) (fun _=>rfl)
end Go.Proofs.YtnlaffkihohfkaaGreat
namespace Go.Proofs.YtnlaffkihohfkaaGreat
open Go Go.Sl Go.Proofs
variable {B:Nat}{w0:World}{G:List Hp}{R:Hp→List Hp}
structure GivM where
 lim:Int
 used:Int
 taken:Int
 ahead:Int
 told:Int
def GivM.cells (g:GivM):List Value:=[.int .u64 g.lim,.int .u64 g.used,.int .u64 g.taken,.int .u64 g.ahead,.int .u64 g.told]
structure GivM.WF (g:GivM):Prop where
 lim:0≤g.lim∧g.lim≤4611686018427387903
 used:0≤g.used∧g.used≤4611686018427387903
 taken:0≤g.taken∧g.taken≤4611686018427387903
 ahead:0≤g.ahead∧g.ahead≤4611686018427387903
 told:0≤g.told∧g.told≤4611686018427387903
def giv0:GivM:=⟨0,0,0,0,0⟩
theorem giv0_wf:giv0.WF:=⟨by decide,by decide,by decide,by decide,by decide⟩
structure GotM where
 lim:Int
 used:Int
 said:Int
def GotM.cells (g:GotM):List Value:=[.int .u64 g.lim,.int .u64 g.used,.int .u64 g.said]
structure GotM.WF (g:GotM):Prop where
 lim:0≤g.lim∧g.lim≤4611686018427387903
 used:0≤g.used∧g.used≤4611686018427387903
 said:0≤g.said∧g.said≤18446744073709551615
def got0:GotM:=⟨0,0,0⟩
theorem got0_wf:got0.WF:=⟨by decide,by decide,by decide⟩
def roomM (l u:Int):Int:=l-min l u
theorem roomM_b {l u:Int}(hl:0≤l)(hu:0≤u):0≤roomM l u∧roomM l u≤l:=by unfold roomM;omega
def GivM.new (a:Int):GivM:=⟨min a 4611686018427387903,0,0,min a 4611686018427387903,min a 4611686018427387903⟩
theorem GivM.new_wf {a:Int}(h:0≤a):(GivM.new a).WF:=by
 constructor<;>(simp only[GivM.new];omega)
def GivM.useE (g:GivM)(n:Int):Int:=if g.lim<g.used∨g.lim-g.used<n then 14 else 0
def GivM.use (g:GivM)(n:Int):GivM:=if g.lim<g.used∨g.lim-g.used<n then g else {g with used:=g.used+n}
def GivM.takenTo (g:GivM)(n:Int):Int:=if n<roomM g.used g.taken then g.taken+n else g.used
def GivM.topOf (a t:Int):Int:=if t<4611686018427387903 then t+min a (4611686018427387903-t) else 4611686018427387903
def GivM.take (g:GivM)(n:Int):GivM:={g with taken:=g.takenTo n,lim:=max g.lim (GivM.topOf g.ahead (g.takenTo n))}
def GivM.wants (g:GivM):Bool:=decide (g.ahead/2<roomM g.lim g.told)
def GivM.tell (g:GivM):GivM:={g with told:=g.lim}
def GivM.lose (g:GivM):GivM:={g with told:=roomM g.told (g.ahead/2+1)}
theorem GivM.use_wf {g:GivM}{n:Int}(h:g.WF)(hn:0≤n):(g.use n).WF:=by
 unfold GivM.use
 have:=h.used;have:=h.lim
 split
 ·exact h
 ·exact⟨h.lim,by dsimp only;omega,h.taken,h.ahead,h.told⟩
theorem GivM.takenTo_b {g:GivM}{n:Int}(h:g.WF)(hn:0≤n):0≤g.takenTo n∧g.takenTo n≤4611686018427387903:=by
 have:=h.used;have:=h.taken
 unfold GivM.takenTo roomM
 split<;>omega
theorem GivM.topOf_b {a t:Int}(ha:0≤a)(ht:0≤t):0≤GivM.topOf a t∧GivM.topOf a t≤4611686018427387903:=by
 unfold GivM.topOf
 split<;>omega
theorem GivM.take_wf {g:GivM}{n:Int}(h:g.WF)(hn:0≤n):(g.take n).WF:=by
 have h1:=g.takenTo_b (n:=n) h hn
 have h2:=GivM.topOf_b h.ahead.1 h1.1
 have h3:=h.lim
 exact⟨by show 0≤max _ _∧max _ _≤_;omega,h.used,h1,h.ahead,h.told⟩
theorem GivM.tell_wf {g:GivM}(h:g.WF):g.tell.WF:=⟨h.lim,h.used,h.taken,h.ahead,h.lim⟩
theorem GivM.lose_wf {g:GivM}(h:g.WF):g.lose.WF:=by
 have h1:=h.told;have h2:=h.ahead
 have h3:=roomM_b (l:=g.told) (u:=g.ahead/2+1) h1.1 zom
 exact⟨h.lim,h.used,h.taken,h.ahead,by show 0≤roomM _ _∧roomM _ _≤_;omega⟩
def GotM.raise (g:GotM)(n:Int):GotM:={g with lim:=max g.lim (min n 4611686018427387903)}
def GotM.room (g:GotM):Int:=roomM g.lim g.used
def GotM.use (g:GotM)(n:Int):GotM:={g with used:=g.used+min n g.room}
theorem GotM.raise_wf {g:GotM}{n:Int}(h:g.WF)(hn:0≤n):(g.raise n).WF:=by
 have:=h.lim
 exact⟨by show 0≤max _ _∧max _ _≤_;omega,h.used,h.said⟩
theorem GotM.room_b {g:GotM}(h:g.WF):0≤g.room∧g.room≤g.lim∧g.room≤4611686018427387903:=by
 have h1:=roomM_b (l:=g.lim) (u:=g.used) h.lim.1 h.used.1
 have:=h.lim
 unfold GotM.room
 omega
theorem GotM.use_wf {g:GotM}{n:Int}(h:g.WF)(hn:0≤n):(g.use n).WF:=by
 have h1:=h.used;have h2:=h.lim
 refine⟨h.lim,?_,h.said⟩
 show 0≤g.used+min n (roomM g.lim g.used)∧g.used+min n (roomM g.lim g.used)≤_
 unfold roomM
 omega
end Go.Proofs.YtnlaffkihohfkaaGreat
namespace Go.Proofs.YtnlaffkihohfkaaGreat
open Go Go.Sl Go.Proofs
variable {B:Nat}{w0:World}{G:List Hp}{R:Hp→List Hp}
structure SmM where
 id:Int
 send:Int
 recv:Int
 inn:Option InM
 out:Option BufM
 giv:GivM
 got:GotM
 code:Int
 reset:Int
 resets:Bool
 stop:Int
 stops:Bool
 stopped:Bool
 counted:Bool
def liveS (s:Int):Bool:=decide (s=1)||decide (s=2)
def finalS (s:Int):Bool:=decide (s=0)||(decide (s=3)||decide (s=5))
structure SmP where
 ip:Option Addr
 op:Option Addr
def SmM.cells (x:SmM)(p:SmP):List Value:=[.int .u64 x.id,.int .u8 x.send,.int .u8 x.recv,.pointer p.ip,.pointer p.op,.int .u64 x.giv.lim,.int .u64 x.giv.used,.int .u64 x.giv.taken,.int .u64 x.giv.ahead,.int .u64 x.giv.told,.int .u64 x.got.lim,.int .u64 x.got.used,.int .u64 x.got.said,.int .u64 x.code,.int .u64 x.reset,.bool x.resets,.int .u64 x.stop,.bool x.stops,.bool x.stopped,.bool x.counted]
def InO (m:Option InM)(p:Option Addr)(c:Hp):Prop:=match m with
 |none=>p=none∧c=[]
 |some m=>∃b,p=some ⟨b,0,none⟩∧InAt m b c
def OutO (m:Option BufM)(p:Option Addr)(c:Hp):Prop:=match m with
 |none=>p=none∧c=[]
 |some m=>∃b,p=some ⟨b,0,none⟩∧OutAt m b c
structure SmM.WF (x:SmM):Prop where
 id:0≤x.id∧x.id≤18446744073709551615
 giv:x.giv.WF
 got:x.got.WF
 reset:0≤x.reset∧x.reset≤4611686018427387903
 stop:0≤x.stop∧x.stop≤4611686018427387903
 code:inQ x.code
 inn:∀m,x.inn=some m→m.WF
 out:∀m,x.out=some m→m.WF
 send:(x.send=0↔x.out=none)∧0≤x.send∧x.send≤5
 recv:(x.recv=0↔x.inn=none)∧0≤x.recv∧x.recv≤5
def SmM.writeE (x:SmM):Int:=if x.send≠1 then 16 else match x.out with|some m=>if m.fin=true then 19 else 0|none=>1
def SmM.write (x:SmM)(l:List UInt8):SmM:=if x.send≠1 then x else match x.out with|some m=>{x with out:=some (if m.fin=true then m else m.write l)}|none=>x
def SmM.finishE (x:SmM):Int:=if x.send≠1 then 16 else match x.out with|some m=>if m.fin=true then 19 else 0|none=>1
def SmM.finish (x:SmM):SmM:=if x.send≠1 then x else match x.out with|some m=>if m.fin=true then x else {x with out:=some m.finish,send:=2}|none=>x
def SmM.giveUpE (x:SmM)(code:Int):Int:=if liveS x.send=false then 0 else if 4611686018427387903<code then 2 else 0
def SmM.giveUp (x:SmM)(code:Int):SmM:=if liveS x.send=false then x else if 4611686018427387903<code then x else {x with send:=4,reset:=code,resets:=true}
def SmM.unwantE (x:SmM)(code:Int):Int:=if 4611686018427387903<code then 2 else if liveS x.recv=false∨x.stopped=true then 16 else 0
def SmM.unwant (x:SmM)(code:Int):SmM:=if x.unwantE code=0 then {x with stop:=code,stops:=true,stopped:=true} else x
def hiO:Option InM→Int
 |some m=>m.high
 |none=>0
def rdO:Option InM→Int
 |some m=>m.read
 |none=>0
def baO:Option BufM→Int
 |some m=>m.base
 |none=>0
def wrO:Option BufM→Int
 |some m=>m.base+m.data.length
 |none=>0
def SmM.high (x:SmM):Int:=hiO x.inn
def SmM.read (x:SmM):Int:=rdO x.inn
def SmM.base (x:SmM):Int:=baO x.out
def SmM.wrote (x:SmM):Int:=wrO x.out
def SmM.rise (x:SmM)(n:Int):Int:=if n≤x.high then 0 else n-x.high
end Go.Proofs.YtnlaffkihohfkaaGreat
namespace Go.Proofs.YtnlaffkihohfkaaGreat
open Go Go.Sl Go.Proofs
variable {B:Nat}{w0:World}{G:List Hp}{R:Hp→List Hp}
structure KdM where
 op:Int
 may:Int
 came:Int
 giv:Int
 told:Int
structure KdM.WF (k:KdM):Prop where
 op:0≤k.op∧k.op≤1000000
 may:0≤k.may∧k.may≤4611686018427387903
 came:0≤k.came∧k.came≤1000000
 giv:0≤k.giv∧k.giv≤4611686018427387903
 told:0≤k.told∧k.told≤4611686018427387903
structure LimM where
 l:Int
 r:Int
 u:Int
def LimM.cells (m:LimM):List Value:=[.int .u64 m.l,.int .u64 m.r,.int .u64 m.u]
structure LimM.WF (m:LimM):Prop where
 l:0≤m.l∧m.l≤4611686018427387903
 r:0≤m.r∧m.r≤4611686018427387903
 u:0≤m.u∧m.u≤4611686018427387903
structure RunM where
 a:Int
 b:Int
 g:Int
structure SsM where
 giv:GivM
 got:GotM
 cl:Bool
 own:LimM
 their:LimM
 str:List SmM
 r0:List RunM
 r1:List RunM
 k0:KdM
 k1:KdM
def kdI (id:Int):Int:=id/2%2
def cnI (id:Int):Int:=id/4
def oddI (id:Int):Int:=id%2
def SsM.mine (M:SsM)(id:Int):Bool:=decide (decide (oddI id=0)=M.cl)
def idOf (cl mine:Bool)(k n:Int):Int:=n*4+k*2+if mine=cl then 0 else 1
theorem idOf_kd {cl mine:Bool}{k n:Int}(hk:k=0∨k=1):kdI (idOf cl mine k n)=k:=by
 unfold kdI idOf
 split<;>omega
theorem idOf_cn {cl mine:Bool}{k n:Int}(hk:k=0∨k=1):cnI (idOf cl mine k n)=n:=by
 unfold cnI idOf
 split<;>omega
theorem idOf_odd {cl mine:Bool}{k n:Int}:oddI (idOf cl mine k n)=if mine=cl then 0 else 1:=by
 unfold oddI idOf
 split<;>omega
theorem idOf_eq {cl:Bool}{id:Int}(h:0≤id):id=idOf cl (decide (decide (oddI id=0)=cl)) (kdI id) (cnI id):=by
 unfold idOf kdI cnI oddI
 cases cl<;>by_cases h0:id%2=0<;>simp[h0]<;>omega
theorem kdI_or {id:Int}:kdI id=0∨kdI id=1:=by unfold kdI;omega
def SsM.kd (M:SsM)(id:Int):KdM:=if kdI id=0 then M.k0 else M.k1
def SsM.granted (M:SsM)(id:Int):Int:=if kdI id=1 then M.their.u else if M.mine id=true then M.their.r else M.their.l
def SsM.grants (M:SsM)(id:Int):Int:=if kdI id=1 then M.own.u else if M.mine id=true then M.own.l else M.own.r
def SsM.fresh (M:SsM)(id g:Int):SmM:=
 {id:=id,send:=if M.mine id=true∨kdI id=0 then 1 else 0,recv:=if M.mine id=false∨kdI id=0 then 1 else 0,
  inn:=if M.mine id=false∨kdI id=0 then some in0 else none,out:=if M.mine id=true∨kdI id=0 then some buf0 else none,
  giv:=if M.mine id=false∨kdI id=0 then GivM.new (M.grants id) else giv0,got:=if M.mine id=true∨kdI id=0 then got0.raise g else got0,
  code:=0,reset:=0,resets:=false,stop:=0,stops:=false,stopped:=false,counted:=false}
def idxS (xs:List SmM)(k:Int):Option Nat:=xs.findIdx? fun x=>decide (x.id=k)
def ptrOf (xs:List SmM)(ps:List Nat)(k:Int):Option Value:=(idxS xs k).map fun i=>.pointer (some ⟨ps.getD i 0,0,none⟩)
structure RunsOK (rs:List RunM)(came g:Int):Prop where
 up:rs.Pairwise fun x y=>x.b≤y.b
 got:∀r∈rs,r.g=g
 rng:∀r∈rs,(0≤r.a∧r.a≤1000000000)∧(0≤r.b∧r.b≤1000000000)
 last:0<came→∃r∈rs,r.b=came
 top:∀r∈rs,r.b≤came
 few:(rs.length:Int)≤came
structure SsM.WF (M:SsM):Prop where
 giv:M.giv.WF
 got:M.got.WF
 own:M.own.WF
 their:M.their.WF
 str:∀x∈M.str,x.WF
 nd:(M.str.map (·.id)).Nodup
 ex:∀x∈M.str,x.id≤18446744073709551615∧0≤x.id∧(if M.mine x.id=true then cnI x.id<(M.kd x.id).op else cnI x.id<(M.kd x.id).came)
 k0:M.k0.WF
 k1:M.k1.WF
 r0:RunsOK M.r0 M.k0.came M.their.l
 r1:RunsOK M.r1 M.k1.came M.their.u
 mn:∀id,0≤id→M.mine id=true→cnI id<(M.kd id).op→∃i,idxS M.str id=some i
theorem SsM.WF.n0 {M:SsM}(h:M.WF):M.r0.length≤1000000:=by
 have:=h.k0.came;have:=h.r0.few
 omega
theorem SsM.WF.n1 {M:SsM}(h:M.WF):M.r1.length≤1000000:=by
 have:=h.k1.came;have:=h.r1.few
 omega
def SsM.has (M:SsM)(id:Int):Prop:=0≤id∧if M.mine id=true then cnI id<(M.kd id).op else cnI id<(M.kd id).came
instance {M:SsM}{id:Int}:Decidable (M.has id):=by unfold SsM.has;infer_instance
def SsM.at (M:SsM)(id:Int):SmM:=match M.str.find? (fun x=>decide (x.id=id))with
 |some x=>x
 |none=>M.fresh id (M.granted id)
end Go.Proofs.YtnlaffkihohfkaaGreat
namespace Go.Proofs.YtnlaffkihohfkaaGreat
open Go Go.Sl Go.Proofs Go.RowKit
variable {B:Nat}{w0:World}{G:List Hp}{R:Hp→List Hp}
theorem Fn.val {P:Program}{f:FuncId}{args:Array Value}{B:Nat}{w0:World}{G:List Hp}{τ:Type}{V:τ→Value}{Pd:τ→Prop}
  (h:Go.Sl.Fn P f args B w0 G fun u G'=>∃x,u=V x∧Pd x∧Cov G G'):Go.Sl.Fn P f args B w0 G fun u G'=>∃x:τ,u=V x∧Pd x∧G'=G:=
 h.weak fun v G' ⟨x,hu,hp,hc⟩=>⟨_,⟨x,hu,hp,rfl⟩,fun w hw=>hw.cov hc⟩
end Go.Proofs.YtnlaffkihohfkaaGreat
namespace Go.Sl
open Go Go.RowKit
variable {P:Program}{S:World→Prop}{N:Nat}{E:Env}{T U ty:TypeId}
theorem v_quoP_i64 {x y:Operand}{m n:Int}(hx:Env.ev E x=some (.int .i64 m))(hy:Env.ev E y=some (.int .i64 n))(h0:0≤m)(h1:0<n)(h2:m≤9223372036854775807):OpV P S N E (.binOp .quo T x y U) ty (.int .i64 (m/n)):=by
 refine v_quo hx hy (by omega) ?_
 rw[Int.tdiv_eq_ediv_of_nonneg h0]
 exact nw_i64 (by have:=Int.ediv_nonneg h0 (Int.le_of_lt h1);omega) (by have:=Int.ediv_le_self n h0;omega)
theorem v_quoP_u64 {x y:Operand}{m n:Int}(hx:Env.ev E x=some (.int .u64 m))(hy:Env.ev E y=some (.int .u64 n))(h0:0≤m)(h1:0<n)(h2:m≤18446744073709551615):OpV P S N E (.binOp .quo T x y U) ty (.int .u64 (m/n)):=by
 refine v_quo hx hy (by omega) ?_
 rw[Int.tdiv_eq_ediv_of_nonneg h0]
 exact nw_u64 (by have:=Int.ediv_nonneg h0 (Int.le_of_lt h1);omega) (by have:=Int.ediv_le_self n h0;omega)
theorem v_remP {x y:Operand}{k:IntKind}{m n:Int}(hx:Env.ev E x=some (.int k m))(hy:Env.ev E y=some (.int k n))(h0:0≤m)(h1:0<n):OpV P S N E (.binOp .rem T x y U) ty (.int k (m%n)):=by
 have h:=v_rem (P:=P) (S:=S) (N:=N) (T:=T) (U:=U) (ty:=ty) hx hy (by omega)
 rwa [Int.tmod_eq_emod_of_nonneg h0]at h
theorem v_shrP {x y:Operand}{k j:IntKind}{m n p:Int}(hx:Env.ev E x=some (.int k m))(hy:Env.ev E y=some (.int j n))(hn:0≤n)(hb:n.toNat≤k.bits)(h0:0≤m)(hp:(2:Int) ^ n.toNat=p):OpV P S N E (.binOp .shr T x y U) ty (.int k (m/p)):=by
 subst hp
 refine v_shr hx hy hn ?_
 rw[Nat.min_eq_left hb,Int.fdiv_eq_ediv_of_nonneg _ (by exact Int.pow_nonneg (by decide))]
theorem and_le {k:IntKind}(hk:k=.u64){x y:Int}(hy:0≤y∧y≤18446744073709551615):0≤bitsOf .and k x y∧bitsOf .and k x y≤y:=by
 subst hk
 have h1:(BitVec.ofInt 64 x&&& BitVec.ofInt 64 y).toNat≤(BitVec.ofInt 64 y).toNat:=by
  rw[BitVec.toNat_and]
  exact Nat.and_le_right
 have h2:((BitVec.ofInt 64 y).toNat:Int)=y:=by
  rw[BitVec.toNat_ofInt]
  omega
 have h3:bitsOf .and .u64 x y=((BitVec.ofInt 64 x&&& BitVec.ofInt 64 y).toNat:Int):=by
  show IntKind.wrap .u64 ((BitVec.ofInt 64 x&&& BitVec.ofInt 64 y).toNat:Int)=_
  exact nw_u64 (by omega) (by have:=h1;omega)
 rw[h3]
 omega
theorem bits_u64 {op:BinOp}{x y:Int}:0≤bitsOf op .u64 x y∧bitsOf op .u64 x y≤18446744073709551615:=by
 unfold bitsOf
 simp only[]
 generalize ((match op with|.and=>_|.or=>_|.xor=>_|_=>_:BitVec IntKind.u64.bits).toNat:Int)=z
 simp only[IntKind.wrap,IntKind.signed,IntKind.bits]
 have:=Int.emod_nonneg z (show (18446744073709551616:Int)≠0 by decide)
 have:=Int.emod_lt_of_pos z (show (0:Int)<18446744073709551616 by decide)
 simp
 omega
theorem allOne {l:List Value}(h:l.all (fun u=>u.oneCell')=true):∀u∈l,u.oneCell'=true:=fun u hu=>(List.all_eq_true.1 h) u hu
theorem GetN.mid {l vs:List Value}{e:TypeId}{fr:Nat×Nat}{off:Nat}(h:(l.drop off).take vs.length=vs):GetN (.cells l.toArray e fr) off vs:=
 ⟨_,_,_,rfl,fun i v hv=>by
  have h1:((l.drop off).take vs.length)[i]?=some v:=by rw[h];exact hv
  have hi:i<vs.length:=(List.getElem?_eq_some_iff.1 hv).1
  rw[List.getElem?_take,if_pos hi,List.getElem?_drop]at h1
  simpa using h1⟩
theorem SetN.mid {l l' vs:List Value}{e:TypeId}{off:Nat}(h:off+vs.length≤l.length)(he:l'=l.take off++(vs++l.drop (off+vs.length))):SetN (.cells l.toArray e (0,0)) off vs (.cells l'.toArray e (0,0)):=by
 subst he
 have h1:=SetN.part (a:=l.take off) (us:=(l.drop off).take vs.length) (vs:=vs) (c:=l.drop (off+vs.length)) (e:=e) (off:=off) (by rw[List.length_take];omega) (by rw[List.length_take,List.length_drop];omega)
 have h2:l.take off++((l.drop off).take vs.length++l.drop (off+vs.length))=l:=by
  rw[←List.drop_drop,List.take_append_drop,List.take_append_drop]
 rwa [h2]at h1
theorem ret4 {B:Nat}{w0:World}{G:List Hp}{fn:Func}{R:Value→List Hp→Prop}{r s t q:ResultVar}{v u x y:Value}(hr:fn.results=#[r,s,t,q])(hv:ResV P (St B w0 G) E r v)(hu:ResV P (St B w0 G) E s u)(hx:ResV P (St B w0 G) E t x)(hy:ResV P (St B w0 G) E q y)(h:R (.tuple #[v,u,x,y]) G):XW (RetQ P fn B w0 R) B w0 N G E .ret:=fun a w ha hw=>by
 refine⟨ha.defers,.tuple #[v,u,x,y],?_,_,_,rfl,h,hw⟩
 rw[results_eq fn _ [r,s,t,q] hr]
 simp[hv.run' ha hw,hu.run' ha hw,hx.run' ha hw,hy.run' ha hw,Sem.run_bind]
theorem v_shlP {x y:Operand}{j:IntKind}{m n p:Int}(hx:Env.ev E x=some (.int .u64 m))(hy:Env.ev E y=some (.int j n))(hn:0≤n)(hb:n.toNat≤64)(hp:(2:Int) ^ n.toNat=p)(h0:0≤m*p)(h1:m*p≤18446744073709551615):OpV P S N E (.binOp .shl T x y U) ty (.int .u64 (m*p)):=by
 subst hp
 refine v_shl hx hy hn ?_
 rw[show min n.toNat IntKind.u64.bits=n.toNat from Nat.min_eq_left hb]
 exact nw_u64 h0 h1
theorem ofInt_nat {x:Int}(h:0≤x∧x≤18446744073709551615):(BitVec.ofInt 64 x).toNat=x.toNat:=by
 rw[BitVec.toNat_ofInt]
 omega
theorem and1 {x:Int}(h:0≤x∧x≤18446744073709551615):bitsOf .and .u64 x 1=x%2:=by
 have h1:(BitVec.ofInt 64 x&&& BitVec.ofInt 64 1).toNat=x.toNat%2:=by
  rw[BitVec.toNat_and,ofInt_nat h,ofInt_nat (by decide)]
  exact Nat.and_one_is_mod _
 have h3:bitsOf .and .u64 x 1=((BitVec.ofInt 64 x&&& BitVec.ofInt 64 1).toNat:Int):=by
  show IntKind.wrap .u64 ((BitVec.ofInt 64 x&&& BitVec.ofInt 64 1).toNat:Int)=_
  exact nw_u64 (by omega) (by rw[h1];omega)
 rw[h3,h1]
 omega
theorem orP {x y:Int}(i:Nat)(hx:0≤x∧x≤18446744073709551615)(hy:0≤y)(hd:x%(2 ^ i:Nat)=0)(hl:y<(2 ^ i:Nat))(hs:x+y≤18446744073709551615):bitsOf .or .u64 x y=x+y:=by
 have h1:(BitVec.ofInt 64 x|||BitVec.ofInt 64 y).toNat=x.toNat+y.toNat:=by
  rw[BitVec.toNat_or,ofInt_nat hx,ofInt_nat (by omega)]
  obtain⟨a,ha⟩:∃a:Nat,x.toNat=2 ^ i*a:=by
   refine⟨x.toNat/2 ^ i,?_⟩
   have h2:x.toNat%2 ^ i=0:=by
    have h3:((x.toNat%2 ^ i:Nat):Int)=0:=by
     rw[Int.natCast_emod,Int.toNat_of_nonneg hx.1]
     exact hd
    omega
   have:=Nat.div_add_mod x.toNat (2 ^ i)
   omega
  rw[ha]
  exact(Nat.two_pow_add_eq_or_of_lt (by omega) a).symm
 have h3:bitsOf .or .u64 x y=((BitVec.ofInt 64 x|||BitVec.ofInt 64 y).toNat:Int):=by
  show IntKind.wrap .u64 ((BitVec.ofInt 64 x|||BitVec.ofInt 64 y).toNat:Int)=_
  exact nw_u64 (by omega) (by rw[h1];omega)
 rw[h3,h1]
 omega
end Go.Sl
