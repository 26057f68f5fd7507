/- StreamComes holds: whatever was done, if nothing is lost any more, and all is read, all that was written, of streams that weren't given up, is read, and their ends. Conditions: none. -/
import Derived.Test.YtnlaffkihohfkaaGreatStreamComesPk8
import Derived.Test.YtnlaffkihohfkaaGreatStreamComesPk9
import Derived.Test.YtnlaffkihohfkaaGreatStreamComesPk3
set_option maxRecDepth 20000
set_option linter.unusedVariables false
set_option linter.unusedSimpArgs false
namespace Go.Proofs.YtnlaffkihohfkaaGreat.lawStreamComes
open Go Go.Sl Go.Proofs Go.RowKit Go.ChangeShapes Go.WideShapes Go.ChangeAt Go.Proofs.YtnlaffkihohfkaaGreat
variable {B:Nat}{w0:World}{G:List Hp}{R:Hp→List Hp}
structure LwS where
 j:Nat
 P:PrM
 c:Hp
structure LwL where
 m:Nat
 Q:PrM
 c:Hp
theorem pump3_c {B n:Nat}{w0:World}{G:List Hp}{R:Hp→List Hp}{P:PrM}{p:PrP}{i:Bool}{b:Nat}{c:Hp}{D one many:Int}(hsel:Sel G c R)(hP:PrAt P p b c)(h:Gd P D one many n):
  Go.Sl.Fn Tryz.prog 9 #[.pointer (some ⟨b,0,none⟩),.int .i64 (iv i),.int .u8 0,.int .i64 3] B w0 G fun u G'=>∃y:PrM×Hp,u=.tuple #[]∧(Gd y.1 D one many n∧PumpR i 40 true 3 P y.1∧PrAt y.1 p b y.2)∧G'=R y.2:=
 (pump_c hsel hP h.h zom zom).mono fun u G' ⟨y,h1,⟨h2,_,h4,h3⟩,h5⟩=>⟨y,h1,⟨h.same h2 h4.same,h4,h3⟩,h5⟩
set_option maxHeartbeats 8000000 in
theorem law {acts:List ActO}{ao:Option Addr}{cap:Nat}{one many:Int}(ho:0≤one∧one≤255)(hm:0≤many∧many≤255)(hl:acts.length≤9223372036854775807)(hA:∀G,Vw (enAct B w0) (St B w0 G) (.slice ao acts.length cap) acts):
  FnC Tryz.prog 4 #[.int .u8 one,.int .u8 many,.slice ao acts.length cap] B w0 [] (R0 (.bool true)):=fun F=>by
 refine fn_enter Tryz.func4 rfl (by kernel_rfl) Tryz.ntmps4 (by simp) ?_
 refine qs ?_
 refine qa ?_
 refine qt ?_
 refine cw_seq ?_
 refine qs ?_
 refine qv (v_call rfl rfl (pairAwake_c)) ?_
 refine qv (v_not_true rfl) ?_
 refine qt ?_
 refine cw_false rfl ?_
 refine cw_skip ?_
 refine xw_then ?_
 refine cw_seq ?_
 refine qs ?_
 refine qm ?_
 refine qv (v_call rfl rfl (light_c (hA _) hl)) ?_
 refine qv (v_not_bool rfl) ?_
 refine qt ?_
 refine cw_bool rfl (fun hc22=>?_) (fun hc22=>?_)
 refine qs ?_
 refine qa ?_
 refine qt ?_
 refine cw_ret ?_
 refine xw_then_ret ?_
 refine ret1 rfl (res_tmp rfl) ?_
 rotate_left
 refine cw_skip ?_
 refine xw_then ?_
 rotate_left
 ·exact done0 rfl zcov
 have hall:∀a∈acts,a.data.length≤100:=fun a ha=>by
  have h1:(acts.all fun a=>decide (a.data.length≤100))=true:=by simpa using hc22
  exact of_decide_eq_true (List.all_eq_true.1 h1 a ha)
 have hm5:0≤many%5∧many%5≤4:=by omega
 refine qs ?_
 refine qm ?_
 refine qv (v_convert Tryz.underlying5 Tryz.underlying27 rfl (nw_u64 zom zom)) ?_
 refine qv (v_add rfl rfl (nw_u64 zom zom)) ?_
 refine qm ?_
 refine qv (v_convert Tryz.underlying5 Tryz.underlying27 rfl (nw_u64 zom zom)) ?_
 refine qv (v_add rfl rfl (nw_u64 zom zom)) ?_
 refine qm ?_
 refine qv (v_remP rfl rfl zom zom) ?_
 refine qv (v_convert Tryz.underlying5 Tryz.underlying27 rfl (nw_u64 zom zom)) ?_
 refine qv (v_add rfl rfl (nw_u64 zom zom)) ?_
 (refine ow_call rfl rfl rfl rfl (newPair_c zom zom zom) ?_;rintro _ _ ⟨x33,rfl,hq33,rfl⟩)
 refine qa ?_
 refine qt ?_
 refine cw_seq ?_
 refine qs ?_
 refine qm ?_
 refine qv (v_len rfl Tryz.underlying22 rfl) ?_
 refine qm ?_
 refine qt ?_
 refine cw_block ?_
 obtain⟨b,p,c0⟩:=x33
 dsimp only at hq33⊢
 have hg0:Gd (pr0 (400+one) (10+one) (1+many%5)) (400+one) (10+one) (1+many%5) 0:=⟨pr0_inv zom zom zom,(pr0_al zom zom).2.mono zom,(pr0_al zom zom).1⟩
 have hw00:=pr0_wt (D:=400+one) (one:=10+one) (many:=1+many%5) zom
 refine cw_loop2 (ι:=(LwS)) [(6,_),(7,_),(20,_),(34,_),(35,_)] ⟨rfl,rfl,rfl,rfl,rfl,trivial⟩ ((fun x=>[(36,.int .i64 x.j)])) ((fun x=>x.j≤acts.length∧Gd x.P (400+one) (10+one) (1+many%5) (min x.j 40)∧x.P.wt≤100*(min x.j 40:Nat)∧PrAt x.P p b x.c)) ((fun x=>acts.length-x.j)) ((fun x=>x.c::F)) ((⟨0,pr0 (400+one) (10+one) (1+many%5),c0⟩:LwS)) zenv zcov ?_ ?_
 ·exact⟨Nat.zero_le _,hg0,by dsimp only;omega,hq33⟩
 clear hg0 hw00 hq33
 rintro⟨j,P,c⟩ ⟨hj,hG,hW,hP⟩
 dsimp only at hj hG hW hP⊢
 refine qs ?_
 refine qv (v_lss rfl rfl) ?_
 refine qt ?_
 refine cw_seq ?_
 refine cw_dec rfl (fun hc37=>?_) (fun hc37=>?_)
 refine cw_skip ?_
 refine xw_then ?_
 rotate_left
 refine cw_exit ?_
 refine xw_then_exit ?_
 refine xw_round_exit ?_
 refine xw_block_exit ?_
 refine xw_then ?_
 rotate_left
 ·have hj2:j<acts.length:=by omega
  have hok:=(hA []).ok _ (List.getElem_mem hj2)
  have hok':(acts[j]).Ok B w0:=hok
  have h7:((enAct B w0).f acts[j]).length=7:=rfl
  have h1:∀u∈(enAct B w0).f acts[j],u.oneCell'=true:=(acts[j]).one
  have ho1:=(acts[j]).one
  have h71:(acts[j]).cells.length=7:=rfl
  have hlo:=hok'.lose
  refine cw_seq ?_
  refine cw_block ?_
  refine qs ?_
  refine qm ?_
  refine ow_val rfl rfl (v_indexAddr_vw Tryz.underlying22 (acTy) rfl rfl (hA []) rfl zom) ?_
  refine ql (Go.Sl.Vw.var (acTy) (hA _) zom) ?_
  refine ow_alloc rfl rfl Ty.ze30 fun b9=>?_
  refine qa ?_
  refine ow_storeE rfl (acTy) rfl rfl .here zra zas ?_
  refine qt ?_
  have hle:=hall _ (List.getElem_mem hj2)
  refine cw_cov ([(b9,.cells (acts[j]).cells.toArray 30 (0,0))]::c::F) zcov ?_
  generalize acts[j]=a at *
  refine qs ?_
  refine qm ?_
  refine qv (v_lss rfl rfl) ?_
  refine qt ?_
  refine cw_dec rfl (fun hc42=>?_) (fun hc42=>?_)
  rotate_left
  refine cw_skip ?_
  refine xw_block ?_
  refine xw_then ?_
  refine cw_region ?_
  refine qv (v_add rfl rfl (nw_i64 zom zom)) ?_
  refine qm ?_
  refine ow_nil ?_
  rotate_left
  ·have hmn:min j 40=j:=by omega
   rw[hmn]at hG hW
   have hGI:=hG.h
   refine qs ?_
   refine qm ?_
   refine ql (Var.atN Ty.ag30 .here GetN.all zra) ?_
   (refine ow_call rfl rfl rfl rfl (do_c zsel hP hGI hok' hle zom) ?_;rintro _ _ ⟨x45,rfl,hq45,rfl⟩)
   refine qt ?_
   refine cw_region ?_
   refine qm ?_
   refine qm ?_
   refine qv (v_remP rfl rfl zom zom) ?_
   refine qf Ty.fd30_6 ?_
   refine ql (Var.at1 Ty.sc5 .here (GetN.lit rfl)) ?_
   obtain⟨P2,c2⟩:=x45
   obtain⟨hI2,hP2,hN2⟩:=hq45
   dsimp only at hI2 hP2 hN2⊢
   have hG2:=hG.act hI2 hN2
   have hW2:=hN2.wt
   clear hP hGI hN2
   obtain⟨i,hi⟩:∃i:Bool,(j:Int)%2=iv i:=by
    have:(j:Int)%2=0∨(j:Int)%2=1:=by omega
    rcases this with e|e
    ·exact⟨false,e⟩
    ·exact⟨true,e⟩
   have hp:∀{G:List Hp} {R:Hp→List Hp},Sel G c2 R→Go.Sl.Fn Tryz.prog 9 #[.pointer (some ⟨b,0,none⟩),.int .i64 ((j:Int)%2),.int .u8 a.lose,.int .i64 1] B w0 G fun u G'=>∃y:PrM×Hp,u=.tuple #[]∧(Inv y.1 (400+one) (10+one) (1+many%5) (j+1)∧SameN P2 y.1∧PrAt y.1 p b y.2)∧G'=R y.2:=fun hs=>by
    rw[hi]
    exact(pump_c hs hP2 hI2 hlo zom).mono fun u G' ⟨y,h1,⟨h2,_,h4,h3⟩,h5⟩=>⟨y,h1,⟨h2,h4.same,h3⟩,h5⟩
   (refine ow_call rfl rfl rfl rfl (hp zsel) ?_;rintro _ _ ⟨x51,rfl,hq51,rfl⟩)
   refine ow_nil ?_
   refine xw_block ?_
   refine xw_then ?_
   refine cw_region ?_
   refine qv (v_add rfl rfl (nw_i64 zom zom)) ?_
   refine qm ?_
   refine ow_nil ?_
   obtain⟨P3,c3⟩:=x51
   obtain⟨hI3,hN3,hP3⟩:=hq51
   dsimp only at hI3 hN3 hP3⊢
   have hG3:=hG2.same hI3 hN3
   have hW3:=hN3.wt
   have hmn2:min (j+1) 40=j+1:=by omega
   skip
   exact xw_round (⟨j+1,P3,c3⟩:LwS) ⟨by dsimp only;omega,by dsimp only;rw[hmn2];exact hG3,by dsimp only;rw[hmn2];omega,hP3⟩ zdo zcov zenv
  ·have hmn2:min (j+1) 40=min j 40:=by omega
   exact xw_round (⟨j+1,P,c⟩:LwS) ⟨by dsimp only;omega,by dsimp only;rw[hmn2];exact hG,by dsimp only;rw[hmn2];exact hW,hP⟩ zdo zcov zenv
 have hjl:j=acts.length:=by omega
 have hR0:RInv P (400+one) 0:=.inl ⟨rfl,hG.h.phi_le hP.new zom⟩
 generalize hN:min j 40=N at hG
 clear hW hj hjl hc37
 refine cw_seq ?_
 refine qs ?_
 refine qm ?_
 refine qt ?_
 refine cw_block ?_
 refine cw_loop2 (ι:=(LwS)) [(6,_),(7,_),(20,_)] ⟨rfl,rfl,rfl,trivial⟩ ((fun x=>[(53,.int .i64 x.j)])) ((fun x=>x.j≤3000∧Gd x.P (400+one) (10+one) (1+many%5) N∧RInv x.P (400+one) x.j∧PrAt x.P p b x.c)) ((fun x=>3000-x.j)) ((fun x=>x.c::F)) ((⟨0,P,c⟩:LwS)) zenv zcov ?_ ?_
 ·exact⟨Nat.zero_le _,hG,hR0,hP⟩
 clear hG hR0 hP c P hN
 rintro⟨m,S0,c⟩ ⟨hm3,hG0,hR0,hP0⟩
 dsimp only at hm3 hG0 hR0 hP0⊢
 refine qs ?_
 refine qv (v_lss rfl rfl) ?_
 refine qt ?_
 refine cw_seq ?_
 refine cw_dec rfl (fun hc54=>?_) (fun hc54=>?_)
 refine cw_skip ?_
 refine xw_then ?_
 rotate_left
 refine cw_exit ?_
 refine xw_then_exit ?_
 refine xw_round_exit ?_
 refine xw_block_exit ?_
 refine xw_then ?_
 rotate_left
 ·have hA0:=hP0.new.away false
  have hN0:=hP0.nm hG0.h false
  refine cw_seq ?_
  refine cw_block ?_
  refine cw_seq ?_
  refine qs ?_
  refine qm ?_
  refine qt ?_
  refine cw_block ?_
  refine cw_loop2 (ι:=(LwS)) [(6,_),(7,_),(20,_),(53,_)] ⟨rfl,rfl,rfl,rfl,trivial⟩ ((fun x=>[(55,.int .i64 x.j)])) ((fun x=>x.j≤2∧Gd x.P (400+one) (10+one) (1+many%5) N∧Rnd S0 x.j x.P∧PrAt x.P p b x.c)) ((fun x=>2-x.j)) ((fun x=>x.c::F)) ((⟨0,S0,c⟩:LwS)) zenv zcov ?_ ?_
  ·exact⟨Nat.zero_le _,hG0,rfl,hP0⟩
  clear hP0 c
  rintro⟨j,P,c⟩ ⟨hj,hG,hR,hP⟩
  dsimp only at hj hG hR hP⊢
  refine qs ?_
  refine qv (v_lss rfl rfl) ?_
  refine qt ?_
  refine cw_seq ?_
  refine cw_dec rfl (fun hc56=>?_) (fun hc56=>?_)
  refine cw_skip ?_
  refine xw_then ?_
  rotate_left
  refine cw_exit ?_
  refine xw_then_exit ?_
  refine xw_round_exit ?_
  refine xw_block_exit ?_
  refine xw_then ?_
  rotate_left
  ·obtain⟨i,hi⟩:∃i:Bool,(j:Int)=iv i:=by
    have:j=0∨j=1:=by omega
    rcases this with rfl|rfl
    ·exact⟨false,rfl⟩
    ·exact⟨true,rfl⟩
   have hiv:=iv_b i
   rw[hi]
   have hN1:=hP.nm hG.h true
   have hA1:=hP.new.away true
   refine cw_seq ?_
   refine cw_block ?_
   refine qs ?_
   refine qm ?_
   refine qa ?_
   refine qt ?_
   refine qs ?_
   refine qm ?_
   refine qm ?_
   (refine ow_call rfl rfl rfl rfl (pump3_c zsel hP hG) ?_;rintro _ _ ⟨x60,rfl,hq60,rfl⟩)
   refine qt ?_
   obtain⟨P2,c2⟩:=x60
   obtain⟨hG2,hPu,hP2⟩:=hq60
   dsimp only at hG2 hPu hP2⊢
   obtain⟨cs,hAs,hss⟩:=hP2.side (G:=c2::F) Sub.here i
   have hbt:=hP2.top (G:=c2::F) Sub.here
   refine qs ?_
   refine qm ?_
   refine qm ?_
   refine qn ?_
   refine qf Ty.fd42_0 ?_
   refine qv (v_indexAddrA Tryz.underlying36 Ty.el36 rfl rfl (Int.toNat_of_nonneg zom).symm zom) ?_
   refine ql (Var.sub1 Ty.sc35 zthr (.head _) (PrP.gs)) ?_
   (refine ow_call rfl rfl rfl rfl (asList_c hAs zhas (hG2.h.kn_b i)) ?_;rintro _ _ ⟨x67,rfl,hq67,rfl⟩)
   refine qv (v_len rfl Tryz.underlying34 rfl) ?_
   refine qm ?_
   refine qt ?_
   refine cw_block ?_
   obtain⟨l,lo,lc,cl⟩:=x67
   obtain⟨hPm,hL⟩:=hq67
   dsimp only at hPm hL⊢
   clear hss hbt hAs
   have hll:l.length≤4000:=by
    have h0:=hG2.h.kn_b i 0 (.inl rfl)
    have h1:=hG2.h.kn_b i 1 (.inr rfl)
    rw[hPm.length_eq]
    unfold SdM.ids SdM.idsOf
    simp only[List.length_append,idsK_len]
    omega
   refine cw_loop2 (ι:=(LwL)) [(6,_),(7,_),(10,_),(20,_),(53,_),(55,_),(67,_),(68,_)] ⟨rfl,rfl,rfl,rfl,rfl,rfl,rfl,rfl,trivial⟩ ((fun x=>[(69,.int .i64 x.m)])) ((fun x=>x.m≤l.length∧Gd x.Q (400+one) (10+one) (1+many%5) N∧Tks i 50 P2 (l.take x.m) x.Q∧PrAt x.Q p b x.c)) ((fun x=>l.length-x.m)) ((fun x=>cl::x.c::F)) ((⟨0,P2,c2⟩:LwL)) zenv zcov ?_ ?_
   ·exact⟨Nat.zero_le _,hG2,by rw[List.take_zero];exact Tks.nil _,hP2⟩
   rintro⟨k,Q,c3⟩ ⟨hk,hG3,hT,hP3⟩
   dsimp only at hk hG3 hT hP3⊢
   refine qs ?_
   refine qv (v_lss rfl rfl) ?_
   refine qt ?_
   refine cw_seq ?_
   refine cw_dec rfl (fun hc70=>?_) (fun hc70=>?_)
   refine cw_skip ?_
   refine xw_then ?_
   rotate_left
   refine cw_exit ?_
   refine xw_then_exit ?_
   refine xw_round_exit ?_
   refine xw_block_exit ?_
   refine xw_block ?_
   refine xw_then ?_
   refine cw_region ?_
   refine qv (v_add rfl rfl (nw_i64 zom zom)) ?_
   refine qm ?_
   refine ow_nil ?_
   rotate_left
   ·have hk2:k<l.length:=by omega
    have hhas2:(P2.s i).has l[k]:=SdM.ids_has.1 (hPm.mem_iff.1 (List.getElem_mem hk2))
    have hhas:(Q.s i).has l[k]:=hT.keep.1.has.2 hhas2
    obtain⟨i0,i1⟩:=hG2.h.has_lt hhas2
    have hNS:(NS:Int)=400:=rfl
    have hokm:enQ.ok l[k]:=⟨i0,by omega⟩
    have hte:enQ.val l[k]=.int .u64 l[k]:=rfl
    refine cw_seq ?_
    refine cw_block ?_
    refine qs ?_
    refine ow_val rfl rfl (v_indexAddr_ls Tryz.underlying34 (qTy) rfl rfl zas rfl zom) ?_
    refine ql (Go.Sl.Vw.var (qTy) ((Go.Sl.Ls.vw hL zhas)) zom) ?_
    refine qa ?_
    refine qt ?_
    refine cw_region ?_
    refine qm ?_
    refine qm ?_
    refine qm ?_
    (refine ow_call rfl rfl rfl rfl (take_c zsel hP3 hG3.h hhas ⟨by omega,by omega⟩) ?_;rintro _ _ ⟨x76,rfl,hq76,rfl⟩)
    refine ow_nil ?_
    refine xw_block ?_
    refine xw_then ?_
    refine cw_region ?_
    refine qv (v_add rfl rfl (nw_i64 zom zom)) ?_
    refine qm ?_
    refine ow_nil ?_
    exact xw_round (⟨k+1,Q.take i l[k] 50,x76⟩:LwL) ⟨by dsimp only;omega,hG3.same (hG3.h.take hhas (by decide)) wt_take,by dsimp only;rw[List.take_succ_eq_append_getElem hk2];exact Tks.snoc _ hT,hq76⟩ zdo zcov zenv
   ·have hk3:k=l.length:=by omega
    rw[hk3,List.take_length]at hT
    have hH:HalfR P Q i:=⟨⟨P2,l,hPu,hT,⟨hPm.nodup_iff.2 ids_nd,fun id=>hPm.mem_iff.trans SdM.ids_has⟩,hP2.new.away⟩⟩
    rw[←hi]
    exact xw_round (⟨j+1,Q,c3⟩:LwS) ⟨by dsimp only;omega,hG3,hR.next hi hH hN1 hA1,hP3⟩ zdo zcov zenv
  ·have hj2:j=2:=by omega
   subst hj2
   obtain⟨v0,hv0,hf0⟩:=hP.wait false
   obtain⟨v1,hv1,hf1⟩:=hP.wait true
   have hbt:=hP.top (G:=c::F) Sub.here
   refine qs ?_
   refine qm ?_
   refine qn ?_
   refine qf Ty.fd42_0 ?_
   refine ow_val rfl rfl (v_indexAddrA (i:=0) Tryz.underlying36 Ty.el36 rfl rfl rfl zom) ?_
   refine ql (Var.sub1 Ty.sc35 zthr (.head _) (GetN.lit rfl)) ?_
   refine qv (v_call rfl rfl (hf0 zhas)) ?_
   refine qv (v_not_bool rfl) ?_
   refine qm ?_
   refine ow_bool 86 rfl (fun hc86=>?_) (fun hc86=>?_)
   refine qm ?_
   refine qn ?_
   refine qf Ty.fd42_0 ?_
   refine ow_val rfl rfl (v_indexAddrA (i:=1) Tryz.underlying36 Ty.el36 rfl rfl rfl zom) ?_
   refine ql (Var.sub1 Ty.sc35 zthr (.head _) (GetN.lit rfl)) ?_
   refine qv (v_call rfl rfl (hf1 zhas)) ?_
   refine qv (v_not_bool rfl) ?_
   refine qv (v_pick_true rfl rfl) ?_
   refine qt ?_
   refine cw_bool rfl (fun hc94=>?_) (fun hc94=>?_)
   refine cw_exit ?_
   refine xw_block_other rfl ?_
   refine xw_then_exit ?_
   refine xw_round_exit ?_
   refine xw_block_exit ?_
   refine xw_then ?_
   rotate_left
   refine cw_skip ?_
   refine xw_block ?_
   refine xw_then ?_
   refine cw_region ?_
   refine qv (v_add rfl rfl (nw_i64 zom zom)) ?_
   refine qm ?_
   refine ow_nil ?_
   rotate_left
   refine qk ?_
   refine qk ?_
   refine qk ?_
   refine qk ?_
   refine qk ?_
   refine qk ?_
   refine qk ?_
   refine qv (v_pick_false rfl rfl) ?_
   refine qt ?_
   refine cw_false rfl ?_
   refine cw_skip ?_
   refine xw_block ?_
   refine xw_then ?_
   refine cw_region ?_
   refine qv (v_add rfl rfl (nw_i64 zom zom)) ?_
   refine qm ?_
   refine ow_nil ?_
   rotate_left
   ·have hE:End P (400+one) (10+one) (1+many%5) N:=hG.stop (bool_two false (hv0.1 (by simpa using hc86)) (hv1.1 (by simpa using hc94)))
    clear hf0 hf1 hbt hv0 hv1 hR hR0 hA0 hN0 hG0 hc86 hc94 hG
    refine cw_seq ?_
    refine qs ?_
    refine qm ?_
    (refine ow_call rfl rfl rfl rfl (right_c zsel hP hE.h) ?_;rintro _ _ ⟨x97,rfl,hq97,rfl⟩)
    refine qv (v_not_true rfl) ?_
    refine qm ?_
    refine qm ?_
    refine qn ?_
    refine qf Ty.fd42_0 ?_
    refine ow_val rfl rfl (v_indexAddrA (i:=0) Tryz.underlying36 Ty.el36 rfl rfl rfl zom) ?_
    obtain⟨v2,hv2,hf2⟩:=hq97.wait false
    obtain⟨v3,hv3,hf3⟩:=hq97.wait true
    obtain rfl:v2=false:=hv2.2 (hE.idle false)
    obtain rfl:v3=false:=hv3.2 (hE.idle true)
    have hbt:=hq97.top (G:=x97::F) Sub.here
    refine ql (Var.sub1 Ty.sc35 zthr (.head _) (GetN.lit rfl)) ?_
    refine qv (v_call rfl rfl (hf2 zhas)) ?_
    refine qv (v_pick_false rfl rfl) ?_
    refine qm ?_
    refine qm ?_
    refine qn ?_
    refine qf Ty.fd42_0 ?_
    refine ow_val rfl rfl (v_indexAddrA (i:=1) Tryz.underlying36 Ty.el36 rfl rfl rfl zom) ?_
    refine ql (Var.sub1 Ty.sc35 zthr (.head _) (GetN.lit rfl)) ?_
    refine qv (v_call rfl rfl (hf3 zhas)) ?_
    refine qv (v_pick_false rfl rfl) ?_
    refine qt ?_
    refine cw_false rfl ?_
    refine cw_skip ?_
    refine xw_then ?_
    refine cw_seq ?_
    refine qs ?_
    refine qm ?_
    refine qt ?_
    refine cw_block ?_
    refine cw_loop2 (ι:=(LwS)) [(7,_),(20,_)] ⟨rfl,rfl,trivial⟩ ((fun x=>[(115,.int .i64 x.j)])) ((fun x=>x.j≤2∧End x.P (400+one) (10+one) (1+many%5) N∧PrAt x.P p b x.c)) ((fun x=>2-x.j)) ((fun x=>x.c::F)) ((⟨0,P,x97⟩:LwS)) zenv zcov ?_ ?_
    ·exact⟨Nat.zero_le _,hE,hq97⟩
    clear hf2 hf3 hv2 hv3 hbt hE hP hq97 P c
    rintro⟨j,P,c⟩ ⟨hj,hE,hP⟩
    dsimp only at hj hE hP⊢
    refine qs ?_
    refine qv (v_lss rfl rfl) ?_
    refine qt ?_
    refine cw_seq ?_
    refine cw_dec rfl (fun hc116=>?_) (fun hc116=>?_)
    refine cw_skip ?_
    refine xw_then ?_
    rotate_left
    refine cw_exit ?_
    refine xw_then_exit ?_
    refine xw_round_exit ?_
    refine xw_block_exit ?_
    refine xw_then ?_
    rotate_left
    ·obtain⟨i,hi⟩:∃i:Bool,(j:Int)=iv i:=by
      have:j=0∨j=1:=by omega
      rcases this with rfl|rfl
      ·exact⟨false,rfl⟩
      ·exact⟨true,rfl⟩
     have hiv:=iv_b i
     rw[hi]
     obtain⟨cs,hAs,hss⟩:=hP.side (G:=c::F) Sub.here i
     have hbt:=hP.top (G:=c::F) Sub.here
     refine cw_seq ?_
     refine cw_block ?_
     refine qs ?_
     refine qm ?_
     refine qa ?_
     refine qt ?_
     refine qs ?_
     refine qm ?_
     refine qm ?_
     refine qn ?_
     refine qf Ty.fd42_0 ?_
     refine qv (v_indexAddrA Tryz.underlying36 Ty.el36 rfl rfl (Int.toNat_of_nonneg zom).symm zom) ?_
     refine ql (Var.sub1 Ty.sc35 zthr (.head _) (PrP.gs)) ?_
     (refine ow_call rfl rfl rfl rfl (asList_c hAs zhas (hE.h.kn_b i)) ?_;rintro _ _ ⟨x124,rfl,hq124,rfl⟩)
     refine qv (v_len rfl Tryz.underlying34 rfl) ?_
     refine qm ?_
     refine qt ?_
     refine cw_block ?_
     obtain⟨l,lo,lc,cl⟩:=x124
     obtain⟨hPm,hL⟩:=hq124
     dsimp only at hPm hL⊢
     clear hss hbt hAs
     have hll:l.length≤4000:=by
      have h0:=hE.h.kn_b i 0 (.inl rfl)
      have h1:=hE.h.kn_b i 1 (.inr rfl)
      rw[hPm.length_eq]
      unfold SdM.ids SdM.idsOf
      simp only[List.length_append,idsK_len]
      omega
     refine cw_loop2 (ι:=(LwL)) [(7,_),(13,_),(20,_),(115,_),(124,_),(125,_)] ⟨rfl,rfl,rfl,rfl,rfl,rfl,trivial⟩ ((fun x=>[(126,.int .i64 x.m)])) ((fun x=>x.m≤l.length∧End x.Q (400+one) (10+one) (1+many%5) N∧x.Q.s i=P.s i∧PrAt x.Q p b x.c)) ((fun x=>l.length-x.m)) ((fun x=>cl::x.c::F)) ((⟨0,P,c⟩:LwL)) zenv zcov ?_ ?_
     ·exact⟨Nat.zero_le _,hE,rfl,hP⟩
     rintro⟨k,Q,c3⟩ ⟨hk,hE2,hQ,hP3⟩
     dsimp only at hk hE2 hQ hP3⊢
     refine qs ?_
     refine qv (v_lss rfl rfl) ?_
     refine qt ?_
     refine cw_seq ?_
     refine cw_dec rfl (fun hc127=>?_) (fun hc127=>?_)
     refine cw_skip ?_
     refine xw_then ?_
     rotate_left
     refine cw_exit ?_
     refine xw_then_exit ?_
     refine xw_round_exit ?_
     refine xw_block_exit ?_
     refine xw_block ?_
     refine xw_then ?_
     refine cw_region ?_
     refine qv (v_add rfl rfl (nw_i64 zom zom)) ?_
     refine qm ?_
     refine ow_nil ?_
     rotate_left
     ·have hk2:k<l.length:=by omega
      have hhas:(Q.s i).has l[k]:=by rw[hQ];exact SdM.ids_has.1 (hPm.mem_iff.1 (List.getElem_mem hk2))
      obtain⟨i0,i1⟩:=hE2.h.has_lt hhas
      have hNS:(NS:Int)=400:=rfl
      have hidb:0≤l[k]∧l[k]≤18446744073709551615:=⟨i0,by omega⟩
      have hokm:enQ.ok l[k]:=hidb
      have hte:enQ.val l[k]=.int .u64 l[k]:=rfl
      obtain⟨C,hC,rfl⟩:=hP3
      have hcn:=PrC.cnt_ (C:=C) (p:=p) (b:=b) i
      refine cw_seq ?_
      refine cw_block ?_
      refine qs ?_
      refine ow_val rfl rfl (v_indexAddr_ls Tryz.underlying34 (qTy) rfl rfl zas rfl zom) ?_
      refine ql (Go.Sl.Vw.var (qTy) ((Go.Sl.Ls.vw hL zhas)) zom) ?_
      refine qa ?_
      refine qt ?_
      rw[hte]
      generalize l[k]=id at *
      refine cw_cov ([(b,.cells p.cells.toArray 42 (0,0))]::C.s i::C.s (!i)::C.w i::C.w (!i)::C.r i::C.r (!i)::C.e i::C.e (!i)::cl::F) (zcv1 hcn) ?_
      refine qs ?_
      refine qm ?_
      refine qm ?_
      refine qn ?_
      refine qf Ty.fd42_0 ?_
      refine qv (v_indexAddrA Tryz.underlying36 Ty.el36 rfl rfl (Int.toNat_of_nonneg zom).symm zom) ?_
      refine ql (Var.at1 Ty.sc35 .here (PrP.gs)) ?_
      refine qm ?_
      (refine ow_call rfl rfl rfl rfl (asGet_c zsel (hC.s i) hidb hhas) ?_;rintro _ _ ⟨x137,rfl,hq137,rfl⟩)
      refine qa ?_
      refine qt ?_
      obtain⟨q,a5⟩:=x137
      have hxw:=(hC.s i).wf_x hidb
      dsimp only at hq137⊢
      by_cases hh2:(Q.s (!i)).has id
      ·refine cw_seq ?_
       refine cw_region ?_
       refine qm ?_
       refine qm ?_
       refine qv (v_sub rfl rfl (nw_i64 zom zom)) ?_
       refine qn ?_
       refine qf Ty.fd42_0 ?_
       refine qv (v_indexAddrA Tryz.underlying36 Ty.el36 rfl rfl (Int.toNat_of_nonneg zom).symm zom) ?_
       refine ql (Var.at1 Ty.sc35 .here (PrP.gn)) ?_
       refine qm ?_
       (refine ow_call rfl rfl rfl rfl (asGet_c zsel (hC.s (!i)) hidb hh2) ?_;rintro _ _ ⟨x146,rfl,hq146,rfl⟩)
       refine qa ?_
       refine qt ?_
       obtain⟨q2,a6⟩:=x146
       dsimp only at hq146⊢
       have hC2:PrC.Ok {C with s:=upB (upB C.s i a5) (!i) a6} Q p:=by
        have:=hC.set2 hq137.as hq146.as
        rwa [PrM.set2_same]at this
       have hcn2:=PrC.cnt_ (C:={C with s:=upB (upB C.s i a5) (!i) a6}) (p:=p) (b:=b) i
       have hsi:upB (upB C.s i a5) (!i) a6 i=a5:=(if_neg (Ne.symm (not_ne i))).trans upB_i
       simp only[upB_i,upB_n,hsi]at hcn2
       generalize hC2e:({C with s:=upB (upB C.s i a5) (!i) a6}:PrC)=C2 at hC2 hcn2
       have hs5:C2.s i=a5:=by rw[←hC2e];exact hsi
       refine cw_cut2 (ι:=(Bool)) [(7,_),(13,_),(15,_),(16,_),(17,_),(20,_),(115,_),(124,_),(125,_),(126,_)] ⟨rfl,rfl,rfl,rfl,rfl,rfl,rfl,rfl,rfl,rfl,trivial⟩ ((fun v=>[(165,.bool v)])) ((fun v=>v=true→((Q.s i).x id).send=1∨((Q.s i).x id).send=2∨((Q.s i).x id).send=3)) ((fun _=>[(b,.cells p.cells.toArray 42 (0,0))]::a5::a6::C.w i::C.w (!i)::C.r i::C.r (!i)::C.e i::C.e (!i)::cl::F)) ?_ ?_
       ·obtain⟨cx,hsx,hSm⟩:=hq137.streamR (G:=[(b,.cells p.cells.toArray 42 (0,0))]::a5::a6::C.w i::C.w (!i)::C.r i::C.r (!i)::C.e i::C.e (!i)::cl::F) zhas
        obtain⟨xp,ci2,co,rfl,hin,hout⟩:=hSm
        have hx1:=hsx.left
        refine cw_region ?_
        refine qm ?_
        refine qn ?_
        refine qf Ty.fd55_1 ?_
        refine ql (Var.sub1 Ty.sc47 zthr (.head _) (GetN.lit rfl)) ?_
        refine qv (v_eql rfl rfl) ?_
        refine qm ?_
        refine ow_dec 152 rfl (fun hc152=>?_) (fun hc152=>?_)
        refine qk ?_
        refine qk ?_
        refine qk ?_
        refine qk ?_
        refine qk ?_
        refine qv (v_pick_true rfl rfl) ?_
        refine qm ?_
        refine qk ?_
        refine qk ?_
        refine qk ?_
        refine qk ?_
        refine qk ?_
        refine qv (v_pick_true rfl rfl) ?_
        refine ow_nil ?_
        rotate_left
        refine qm ?_
        refine qn ?_
        refine qf Ty.fd55_1 ?_
        refine ql (Var.sub1 Ty.sc47 zthr (.head _) (GetN.lit rfl)) ?_
        refine qv (v_eql rfl rfl) ?_
        refine qv (v_pick_false rfl rfl) ?_
        refine qm ?_
        refine ow_dec 159 rfl (fun hc159=>?_) (fun hc159=>?_)
        refine qk ?_
        refine qk ?_
        refine qk ?_
        refine qk ?_
        refine qk ?_
        refine qv (v_pick_true rfl rfl) ?_
        refine ow_nil ?_
        rotate_left
        refine qm ?_
        refine qn ?_
        refine qf Ty.fd55_1 ?_
        refine ql (Var.sub1 Ty.sc47 zthr (.head _) (GetN.lit rfl)) ?_
        refine qv (v_eql rfl rfl) ?_
        refine qv (v_pick_false rfl rfl) ?_
        refine ow_nil ?_
        rotate_left
        ·exact xw_joint true (fun _=>.inl hc152) zcov zenv
        ·exact xw_joint true (fun _=>.inr (.inl hc159)) zcov zenv
        ·exact xw_joint (decide (((Q.s i).x id).send=3)) (fun e=>.inr (.inr (of_decide_eq_true e))) zcov zenv
       rintro v hv
       refine cw_bool rfl (fun hc165=>?_) (fun hc165=>?_)
       refine cw_seq ?_
       refine qs ?_
       refine qm ?_
       refine qv (v_eql_nil_some Tryz.underlying45 rfl) ?_
       refine qt ?_
       refine cw_false rfl ?_
       refine cw_skip ?_
       refine xw_then ?_
       rotate_left
       refine cw_skip ?_
       refine xw_block ?_
       refine xw_then ?_
       refine cw_region ?_
       refine qv (v_add rfl rfl (nw_i64 zom zom)) ?_
       refine qm ?_
       refine ow_nil ?_
       rotate_left
       ·have hsd:=hv hc165
        have ht:∀{G:List Hp} {R:Hp→List Hp},Sel G (C2.all p b) R→Go.Sl.Fn Tryz.prog 12 #[.pointer (some ⟨b,0,none⟩),.int .i64 (1-iv i),.int .u64 id,.int .i64 1000] B w0 G fun u G'=>∃C':PrC,u=.tuple #[]∧(C'.Ok (Q.take (!i) id 1000) p∧C'.s (!(!i))=C2.s (!(!i)))∧G'=R (C'.all p b):=fun hs=>by
         rw[iv_not]
         exact takeC_c hs hC2 hE2.h hh2 ⟨by decide,by decide⟩
        refine cw_cov (C2.all p b::cl::F) (zcv1 hcn2) ?_
        refine qs ?_
        refine qm ?_
        refine qm ?_
        refine qv (v_sub rfl rfl (nw_i64 zom zom)) ?_
        refine qm ?_
        (refine ow_call rfl rfl rfl rfl (ht zsel) ?_;rintro _ _ ⟨x189,rfl,hq189,rfl⟩)
        refine qt ?_
        obtain⟨hE3,_,hn3,hw3⟩:=hE2.take (mn:=1000) hh2 (by decide)
        obtain⟨hC3,hs3⟩:=hq189
        obtain⟨hrd,hen⟩:=hE2.h.read_all (a:=!i) hh2 hE2.al (by rw[not_not_];exact hE2.idle i id hhas) (by rw[not_not_];exact hsd)
        rw[not_not_]at hs3 hn3 hrd hen
        rw[hs5]at hs3
        clear ht hs5 hC2e hsi hC2
        generalize Q.take (!i) id 1000=Q3 at *
        generalize x189=C3 at *
        have hcn3:=PrC.cnt_ (C:=C3) (p:=p) (b:=b) i
        rw[hs3]at hcn3
        refine cw_cov ([(b,.cells p.cells.toArray 42 (0,0))]::a5::C3.s (!i)::C3.w i::C3.w (!i)::C3.r i::C3.r (!i)::C3.e i::C3.e (!i)::cl::F) (zcv1 hcn3) ?_
        obtain⟨g,cw,ckw,aow,capw,hsw,hskw,hMw,hgw,hLw⟩:=(hC3.w i).look (G:=[(b,.cells p.cells.toArray 42 (0,0))]::a5::C3.s (!i)::C3.w i::C3.w (!i)::C3.r i::C3.r (!i)::C3.e i::C3.e (!i)::cl::F) zhas id i0
        obtain⟨gr,cr,ckr,aor,capr,hsr,hskr,hMr,hgr,hLr⟩:=(hC3.r (!i)).look (G:=[(b,.cells p.cells.toArray 42 (0,0))]::a5::C3.s (!i)::C3.w i::C3.w (!i)::C3.r i::C3.r (!i)::C3.e i::C3.e (!i)::cl::F) zhas id i0
        obtain⟨cx,hsx,hSm⟩:=hq137.streamR (G:=[(b,.cells p.cells.toArray 42 (0,0))]::a5::C3.s (!i)::C3.w i::C3.w (!i)::C3.r i::C3.r (!i)::C3.e i::C3.e (!i)::cl::F) zhas
        obtain⟨xp,ci2,co,rfl,hin,hout⟩:=hSm
        have hx1:=hsx.left
        have hLr':Vw enB (St B w0 ([(b,.cells p.cells.toArray 42 (0,0))]::a5::C3.s (!i)::C3.w i::C3.w (!i)::C3.r i::C3.r (!i)::C3.e i::C3.e (!i)::cl::F)) (.slice aor (Q3.rd (!i) id).length capr) (Q3.rd (!i) id):=hLr.vw hskr
        have hLw':Vw enB (St B w0 ([(b,.cells p.cells.toArray 42 (0,0))]::a5::C3.s (!i)::C3.w i::C3.w (!i)::C3.r i::C3.r (!i)::C3.e i::C3.e (!i)::cl::F)) (.slice aow (Q3.wr i id).length capw) (Q3.wr i id):=hLw.vw hskw
        have hge:=hC3.e (!i)
        rw[hw3,←hrd]at hLw' hgw
        refine cw_seq ?_
        refine cw_quiet Ty.mixed zdk ?_
        refine kmv ?_
        refine kmv ?_
        refine kv (v_sub rfl rfl (nw_i64 zom zom)) ?_
        refine kv (v_nilCheck rfl) ?_
        refine kv (v_fieldAddr0 Ty.fd42_2 rfl) ?_
        refine kv (v_indexAddrA Tryz.underlying38 Ty.el38 rfl rfl (Int.toNat_of_nonneg zom).symm zom) ?_
        refine kv (v_load rfl (Var.at1 Ty.sc37 .here (PrP.grn))) ?_
        refine kmv ?_
        refine kv ((v_bytes rfl rfl hsr hMr hgr)) ?_
        refine kw_val rfl rfl (v_str Tryz.underlying9 Tryz.underlying28 Tryz.underlying5 rfl (hLr')) ?_
        refine kmv ?_
        refine kmv ?_
        refine kv (v_nilCheck rfl) ?_
        refine kv (v_fieldAddr0 Ty.fd42_1 rfl) ?_
        refine kv (v_indexAddrA Tryz.underlying38 Ty.el38 rfl rfl (Int.toNat_of_nonneg zom).symm zom) ?_
        refine kv (v_load rfl (Var.at1 Ty.sc37 .here (PrP.gw))) ?_
        refine kmv ?_
        refine kv ((v_bytes rfl rfl hsw hMw hgw)) ?_
        refine kw_val rfl rfl (v_str Tryz.underlying9 Tryz.underlying28 Tryz.underlying5 rfl (hLw')) ?_
        refine kv (v_neqS rfl rfl) ?_
        refine kmv ?_
        refine kw_dec 210 rfl (fun hc210=>?_) (fun hc210=>?_)
        refine kk ?_
        refine kk ?_
        refine kk ?_
        refine kk ?_
        refine kk ?_
        refine kk ?_
        refine kk ?_
        refine kk ?_
        refine kk ?_
        refine kk ?_
        refine kk ?_
        refine kk ?_
        refine kk ?_
        refine kk ?_
        refine kk ?_
        refine kv (v_pick_true rfl rfl) ?_
        refine kw_nil ?_
        refine xw_then ?_
        refine cw_true rfl ?_
        rotate_left
        refine kmv ?_
        refine kv (v_nilCheck rfl) ?_
        refine kv (v_fieldAddr0 Ty.fd55_1 rfl) ?_
        refine kv (v_load rfl (Var.sub1 Ty.sc47 zthr (.head _) (GetN.lit rfl))) ?_
        refine kv (v_neq rfl rfl) ?_
        refine kmv ?_
        refine kmv ?_
        refine kv (v_sub rfl rfl (nw_i64 zom zom)) ?_
        refine kv (v_nilCheck rfl) ?_
        refine kv (v_fieldAddr0 Ty.fd42_3 rfl) ?_
        refine kv (v_indexAddrA Tryz.underlying40 Ty.el40 rfl rfl (Int.toNat_of_nonneg zom).symm zom) ?_
        refine kv (v_load rfl (Var.at1 Ty.sc39 .here (PrP.gen))) ?_
        refine kmv ?_
        refine kv ((v_bools rfl rfl zhas hge)) ?_
        refine kv (v_neqB Tryz.underlying4 rfl rfl) ?_
        refine kv (v_pick_false rfl rfl) ?_
        refine kw_nil ?_
        refine xw_then ?_
        refine cw_dec rfl (fun hc226=>?_) (fun hc226=>?_)
        rotate_left
        refine cw_skip ?_
        refine xw_block ?_
        refine xw_then ?_
        refine cw_region ?_
        refine qv (v_add rfl rfl (nw_i64 zom zom)) ?_
        refine qm ?_
        refine ow_nil ?_
        rotate_left
        ·exact absurd rfl hc210
        ·exact absurd hen.symm hc226
        ·have hC4:PrAt Q3 p b (C3.all p b):=⟨_,hC3,rfl⟩
         exact xw_round (⟨k+1,Q3,C3.all p b⟩:LwL) ⟨by dsimp only;omega,hE3,hn3.trans hQ,hC4⟩ zdo (zcv1 hcn3) zenv
       ·exact xw_round (⟨k+1,Q,C2.all p b⟩:LwL) ⟨by dsimp only;omega,hE2,hQ,⟨_,hC2,rfl⟩⟩ zdo (zcv1 hcn2) zenv
      ·obtain⟨c2,hP4,hcn2⟩:∃c2,PrAt Q p b c2∧∀z:Nat×Obj,cnt z c2=cnt z [(b,.cells p.cells.toArray 42 (0,0))]+(cnt z a5+(cnt z (C.s (!i))+(cnt z (C.w i)+(cnt z (C.w (!i))+(cnt z (C.r i)+(cnt z (C.r (!i))+(cnt z (C.e i)+cnt z (C.e (!i))))))))):=by
        have hC2:PrC.Ok {C with s:=upB C.s i a5} Q p:=by
         have:=hC.setS hq137.as
         rwa [PrM.set2_same]at this
        have hcn3:=PrC.cnt_ (C:={C with s:=upB C.s i a5}) (p:=p) (b:=b) i
        simp only[upB_i,upB_n]at hcn3
        exact⟨_,⟨_,hC2,rfl⟩,hcn3⟩
       have hnw:=(hC.s (!i)).new1 hh2
       have hdir:=hE2.h.dir i id i0
       refine qs ?_
       refine qm ?_
       refine qm ?_
       refine qv (v_sub rfl rfl (nw_i64 zom zom)) ?_
       refine qn ?_
       refine qf Ty.fd42_0 ?_
       refine qv (v_indexAddrA Tryz.underlying36 Ty.el36 rfl rfl (Int.toNat_of_nonneg zom).symm zom) ?_
       refine ql (Var.at1 Ty.sc35 .here (PrP.gn)) ?_
       refine qm ?_
       refine ow_val rfl rfl (v_call rfl rfl (asGetNo_c zhas (hC.s (!i)) hidb hh2)) ?_
       refine qa ?_
       refine qt ?_
       refine cw_cut2 (ι:=(Bool)) [(7,_),(13,_),(15,_),(16,_),(17,_),(20,_),(115,_),(124,_),(125,_),(126,_)] ⟨rfl,rfl,rfl,rfl,rfl,rfl,rfl,rfl,rfl,rfl,trivial⟩ ((fun v=>[(165,.bool v)])) ((fun v=>v=true→((Q.s i).x id).send=1∨((Q.s i).x id).send=2∨((Q.s i).x id).send=3)) ((fun _=>[(b,.cells p.cells.toArray 42 (0,0))]::a5::C.s (!i)::C.w i::C.w (!i)::C.r i::C.r (!i)::C.e i::C.e (!i)::cl::F)) ?_ ?_
       ·obtain⟨cx,hsx,hSm⟩:=hq137.streamR (G:=[(b,.cells p.cells.toArray 42 (0,0))]::a5::C.s (!i)::C.w i::C.w (!i)::C.r i::C.r (!i)::C.e i::C.e (!i)::cl::F) zhas
        obtain⟨xp,ci2,co,rfl,hin,hout⟩:=hSm
        have hx1:=hsx.left
        refine cw_region ?_
        refine qm ?_
        refine qn ?_
        refine qf Ty.fd55_1 ?_
        refine ql (Var.sub1 Ty.sc47 zthr (.head _) (GetN.lit rfl)) ?_
        refine qv (v_eql rfl rfl) ?_
        refine qm ?_
        refine ow_dec 152 rfl (fun hc152=>?_) (fun hc152=>?_)
        refine qk ?_
        refine qk ?_
        refine qk ?_
        refine qk ?_
        refine qk ?_
        refine qv (v_pick_true rfl rfl) ?_
        refine qm ?_
        refine qk ?_
        refine qk ?_
        refine qk ?_
        refine qk ?_
        refine qk ?_
        refine qv (v_pick_true rfl rfl) ?_
        refine ow_nil ?_
        rotate_left
        refine qm ?_
        refine qn ?_
        refine qf Ty.fd55_1 ?_
        refine ql (Var.sub1 Ty.sc47 zthr (.head _) (GetN.lit rfl)) ?_
        refine qv (v_eql rfl rfl) ?_
        refine qv (v_pick_false rfl rfl) ?_
        refine qm ?_
        refine ow_dec 159 rfl (fun hc159=>?_) (fun hc159=>?_)
        refine qk ?_
        refine qk ?_
        refine qk ?_
        refine qk ?_
        refine qk ?_
        refine qv (v_pick_true rfl rfl) ?_
        refine ow_nil ?_
        rotate_left
        refine qm ?_
        refine qn ?_
        refine qf Ty.fd55_1 ?_
        refine ql (Var.sub1 Ty.sc47 zthr (.head _) (GetN.lit rfl)) ?_
        refine qv (v_eql rfl rfl) ?_
        refine qv (v_pick_false rfl rfl) ?_
        refine ow_nil ?_
        rotate_left
        ·exact xw_joint true (fun _=>.inl hc152) zcov zenv
        ·exact xw_joint true (fun _=>.inr (.inl hc159)) zcov zenv
        ·exact xw_joint (decide (((Q.s i).x id).send=3)) (fun e=>.inr (.inr (of_decide_eq_true e))) zcov zenv
       rintro v hv
       refine cw_bool rfl (fun hc165=>?_) (fun hc165=>?_)
       rotate_left
       refine cw_skip ?_
       refine xw_block ?_
       refine xw_then ?_
       refine cw_region ?_
       refine qv (v_add rfl rfl (nw_i64 zom zom)) ?_
       refine qm ?_
       refine ow_nil ?_
       rotate_left
       ·obtain⟨hW0,hs1⟩:=idle_none hdir (hE2.idle i id hhas) (hv hc165) hnw
        obtain⟨g,cw,ckw,aow,capw,hsw,hskw,hMw,hgw,hLw⟩:=(hC.w i).look (G:=[(b,.cells p.cells.toArray 42 (0,0))]::a5::C.s (!i)::C.w i::C.w (!i)::C.r i::C.r (!i)::C.e i::C.e (!i)::cl::F) zhas id i0
        obtain⟨cx,hsx,hSm⟩:=hq137.streamR (G:=[(b,.cells p.cells.toArray 42 (0,0))]::a5::C.s (!i)::C.w i::C.w (!i)::C.r i::C.r (!i)::C.e i::C.e (!i)::cl::F) zhas
        obtain⟨xp,ci2,co,rfl,hin,hout⟩:=hSm
        have hx1:=hsx.left
        refine cw_seq ?_
        refine qs ?_
        refine qm ?_
        refine qv (v_eql_nil_none Tryz.underlying45 rfl) ?_
        refine qt ?_
        refine cw_true rfl ?_
        refine cw_seq ?_
        refine qs ?_
        refine qm ?_
        refine qm ?_
        refine qn ?_
        refine qf Ty.fd42_1 ?_
        refine qv (v_indexAddrA Tryz.underlying38 Ty.el38 rfl rfl (Int.toNat_of_nonneg zom).symm zom) ?_
        refine ql (Var.at1 Ty.sc37 .here (PrP.gw)) ?_
        refine qm ?_
        refine qv ((v_bytes rfl rfl hsw hMw hgw)) ?_
        refine qv (v_len rfl Tryz.underlying28 rfl) ?_
        refine qv (v_gtr rfl rfl) ?_
        refine qm ?_
        refine ow_dec 178 rfl (fun hc178=>?_) (fun hc178=>?_)
        (exfalso;omega)
        refine qm ?_
        refine qn ?_
        refine qf Ty.fd55_1 ?_
        refine ql (Var.sub1 Ty.sc47 zthr (.head _) (GetN.lit rfl)) ?_
        refine qv (v_neq rfl rfl) ?_
        refine qv (v_pick_false rfl rfl) ?_
        refine qt ?_
        refine cw_dec rfl (fun hc184=>?_) (fun hc184=>?_)
        (exfalso;omega)
        refine cw_skip ?_
        refine xw_then ?_
        refine cw_exit ?_
        refine xw_then_exit ?_
        refine xw_block_exit ?_
        refine xw_then ?_
        refine cw_region ?_
        refine qv (v_add rfl rfl (nw_i64 zom zom)) ?_
        refine qm ?_
        refine ow_nil ?_
        all_goals exact xw_round (⟨k+1,Q,c2⟩:LwL) ⟨by dsimp only;omega,hE2,hQ,hP4⟩ zdo (zcv1 hcn2) zenv
       ·exact xw_round (⟨k+1,Q,c2⟩:LwL) ⟨by dsimp only;omega,hE2,hQ,hP4⟩ zdo (zcv1 hcn2) zenv
     ·rw[←hi]
      exact xw_round (⟨j+1,Q,c3⟩:LwS) ⟨by dsimp only;omega,hE2,hP3⟩ zdo zcov zenv
    ·refine cw_seq ?_
     refine cw_region ?_
     refine qa ?_
     refine qt ?_
     refine cw_ret ?_
     refine ret1 rfl (res_tmp rfl) ?_
     exact done0 rfl zcov
   ·exact xw_round (⟨m+1,P,c⟩:LwS) ⟨by dsimp only;omega,hG,hR0.next hR hG0 hN0 hA0 zom (fun e=>by
     have:=hv1.2 (e true)
     rw[this]at hc94
     cases hc94),hP⟩ zdo zcov zenv
   ·exact xw_round (⟨m+1,P,c⟩:LwS) ⟨by dsimp only;omega,hG,hR0.next hR hG0 hN0 hA0 zom (fun e=>by
     have:=hv0.2 (e false)
     rw[this]at hc86
     cases hc86),hP⟩ zdo zcov zenv
 ·exact(hR0.no hG0.h zom).elim
theorem form_act {H:Type}{enc:TypeId×Value→H}{w:World}{fuel:Nat}{cs:List Value}{y:DataW H×List MemPlace}(h:DataW.trod enc Tryz.prog w 0 (fun _=>true) true fuel 30 cs=some y):∃a:ActO,cs=(enAct w.heap.size w).f a∧(enAct w.heap.size w).ok a:=by
 obtain⟨hl,fuel',hf⟩:=form_struct Tryz.underlying30 h
 have hc:Tryz.prog.cellsOf 30=7:=by kernel_rfl
 rw[hc]at hl
 have g0:∃z,DataW.trod enc Tryz.prog w 0 (fun _=>true) true fuel' 5 ((cs.drop 0).take (Tryz.prog.cellsOf 5))=some z:=hf 0 _ rfl
 obtain⟨_,h0⟩:=g0
 rw[show Tryz.prog.cellsOf 5=1 by kernel_rfl]at h0
 have g1:∃z,DataW.trod enc Tryz.prog w 0 (fun _=>true) true fuel' 5 ((cs.drop 1).take (Tryz.prog.cellsOf 5))=some z:=hf 1 _ rfl
 obtain⟨_,h1⟩:=g1
 rw[show Tryz.prog.cellsOf 5=1 by kernel_rfl]at h1
 have g2:∃z,DataW.trod enc Tryz.prog w 0 (fun _=>true) true fuel' 28 ((cs.drop 2).take (Tryz.prog.cellsOf 28))=some z:=hf 2 _ rfl
 obtain⟨_,h2⟩:=g2
 rw[show Tryz.prog.cellsOf 28=1 by kernel_rfl]at h2
 have g3:∃z,DataW.trod enc Tryz.prog w 0 (fun _=>true) true fuel' 5 ((cs.drop 3).take (Tryz.prog.cellsOf 5))=some z:=hf 3 _ rfl
 obtain⟨_,h3⟩:=g3
 rw[show Tryz.prog.cellsOf 5=1 by kernel_rfl]at h3
 have g4:∃z,DataW.trod enc Tryz.prog w 0 (fun _=>true) true fuel' 4 ((cs.drop 4).take (Tryz.prog.cellsOf 4))=some z:=hf 4 _ rfl
 obtain⟨_,h4⟩:=g4
 rw[show Tryz.prog.cellsOf 4=1 by kernel_rfl]at h4
 have g5:∃z,DataW.trod enc Tryz.prog w 0 (fun _=>true) true fuel' 4 ((cs.drop 5).take (Tryz.prog.cellsOf 4))=some z:=hf 5 _ rfl
 obtain⟨_,h5⟩:=g5
 rw[show Tryz.prog.cellsOf 4=1 by kernel_rfl]at h5
 have g6:∃z,DataW.trod enc Tryz.prog w 0 (fun _=>true) true fuel' 5 ((cs.drop 6).take (Tryz.prog.cellsOf 5))=some z:=hf 6 _ rfl
 obtain⟨_,h6⟩:=g6
 rw[show Tryz.prog.cellsOf 5=1 by kernel_rfl]at h6
 obtain⟨n0,e0,w0⟩:=form_int Tryz.underlying5 h0
 obtain⟨n1,e1,w1⟩:=form_int Tryz.underlying5 h1
 obtain⟨n3,e3,w3⟩:=form_int Tryz.underlying5 h3
 obtain⟨n4,e4⟩:=form_bool Tryz.underlying4 h4
 obtain⟨n5,e5⟩:=form_bool Tryz.underlying4 h5
 obtain⟨n6,e6,w6⟩:=form_int Tryz.underlying5 h6
 have e2:∃ao len cap,(cs.drop 2).take 1=[.slice ao len cap]:=by
  rcases DataW.trod_slice Tryz.underlying28 h2 with⟨e,_⟩|⟨a,len,cap,_,_,_,_,e,_⟩
  ·exact⟨_,_,_,e⟩
  ·exact⟨_,_,_,e⟩
 obtain⟨ao,len,cap,e2⟩:=e2
 rw[e2]at h2
 obtain⟨hlc,hm,F,hF,o⟩:=oldSl (size:=1) Tryz.underlying28 (by kernel_rfl) (by decide) h2 enI.f enI.ok (fun fuel cs y h=>form_u8 h)
 unfold maxLen at hm
 refine⟨⟨n0,n1,ao,len,cap,((List.range len).map F).map toB,n3,n4,n5,n6⟩,?_,⟨bounds_u8 w0,bounds_u8 w1,bounds_u8 w3,bounds_u8 w6,by simp,hlc,by dsimp only;omega,fun G=>?_⟩⟩
 ·have p:cs=(cs.drop 0).take 1++((cs.drop 1).take 1++((cs.drop 2).take 1++((cs.drop 3).take 1++((cs.drop 4).take 1++((cs.drop 5).take 1++((cs.drop 6).take 1++(cs.drop 7))))))):=by
   conv=>lhs;rw[show cs=cs.drop 0 from rfl]
   rw[←drop_take_drop cs 6 1,←drop_take_drop cs 5 1,←drop_take_drop cs 4 1,←drop_take_drop cs 3 1,←drop_take_drop cs 2 1,←drop_take_drop cs 1 1,←drop_take_drop cs 0 1]
  rw[p,e0,e1,e2,e3,e4,e5,e6,List.drop_eq_nil_of_le zom]
  rfl
 ·have hv2:=Vw.bytes (oldVw iTy o hF hlc G)
  have h4:((List.range len).map F).length=len:=by simp
  rw[h4]at hv2
  exact hv2
theorem walk {H:Type}{enc:TypeId×Value→H}(W:World)(base:Nat)(args:Array Value)(ds:List (DataW H))(p:List MemPlace)
  (hval:∀(j:Nat) t v,Tryz.f4.params[j]?=some t→args[j]?=some v→Value.okWide Tryz.prog W .any base t v)
  (hA:DataW.TrodAll enc Tryz.prog W 0 (fun _=>true) true Tryz.f4.params.toList args.toList ds p):
  Calls Tryz.prog 4 args W fun e w'=>e=.returned (.bool true)∧Below W.heap.size W w':=by
 rw[Tryz.params4]at hA hval
 obtain⟨v0,vs0,d0,ds0,p0,q0,hargs,rfl,rfl,h0,r0⟩:=trodAll_cons hA
 obtain⟨v1,vs1,d1,ds1,p1,q1,rfl,rfl,rfl,h1,r1⟩:=trodAll_cons r0
 obtain⟨v2,vs2,d2,ds2,p2,q2,rfl,rfl,rfl,h2,r2⟩:=trodAll_cons r1
 obtain⟨rfl,rfl,rfl⟩:=trodAll_nil r2
 obtain rfl:args=#[v0,v1,v2]:=by cases args;simp_all
 obtain⟨n0,rfl,b0⟩:=open_u8 (hval 0 5 v0 rfl rfl) h0
 obtain⟨n1,rfl,b1⟩:=open_u8 (hval 1 5 v1 rfl rfl) h1
 obtain⟨ao,len,cap,rfl⟩:=okWide_slice Tryz.underlying22 (hval 2 22 v2 rfl rfl)
 obtain⟨fu,h2⟩:=h2
 obtain⟨hlc,hm,f,hf,o⟩:=oldSl (size:=7) Tryz.underlying22 (by kernel_rfl) (by decide) h2 (enAct W.heap.size W).f (enAct W.heap.size W).ok (fun fuel cs y h=>form_act h)
 unfold maxLen at hm
 have hv:=oldVw acTy o hf hlc
 have hlen:((List.range len).map f).length=len:=by simp
 have key:=(law b0 b1 (by rw[hlen];omega) hv []).call
 rw[hlen]at key
 exact key
theorem own:ownKnob Tryz.prog.godebug=none:=by kernel_rfl
theorem laidOut:laidOutB Tryz.prog=true:=by kernel_rfl
theorem reads:∀t∈Tryz.f4.params.toList,Tryz.prog.readableRec t=true∧t<Tryz.prog.types.size:=by
 rw[Tryz.params4]
 intro t ht
 simp only[List.mem_cons,List.not_mem_nil,or_false]at ht
 rcases ht with rfl|rfl|rfl
 ·exact⟨by kernel_rfl,of_decide_eq_true (by kernel_rfl)⟩
 ·exact⟨by kernel_rfl,of_decide_eq_true (by kernel_rfl)⟩
 ·exact⟨by kernel_rfl,of_decide_eq_true (by kernel_rfl)⟩
set_option maxRecDepth 100000 in
theorem lifted (os:Os)(started:os.Started)(H:Type)(enc:TypeId×Value→H):
  ReturnsInHanded {} Tryz.checked os 4 .any (Rows.streamComesSpec.pre6 enc Tryz.prog Tryz.f4 Rows.streamComesRow.domain false) (Rows.streamComesSpec.post enc Tryz.prog Tryz.f4 false true false false):=by
 refine returnsInHanded_of_change (C:=Tryz.checked) own started (by kernel_rfl) Tryz.func4
  (ChangeSpec.witness6 (enc:=enc) (C:=Tryz.checked) false ⟨#[],#[.int .u8 0,.int .u8 0,.slice none 0 0],[]⟩ 8 (by kernel_rfl) (by kernel_rfl) (by kernel_rfl) (by kernel_rfl)) ?_
 intro W base args ds gs before hval hW _ _
 have hW':=hW
 obtain⟨p,q,hA0,hV,rfl,_,_⟩:=hW
 obtain⟨rfl,rfl⟩:=trodVars_none hV
 have hA:DataW.TrodAll enc Tryz.prog W 0 (fun _=>true) true Tryz.f4.params.toList args.toList ds p:=hA0
 have hlen:=trodAll_len hA
 refine(walk W base args ds p hval hA).mono fun e W' ⟨he,bel⟩=>?_
 subst he
 rw[Tryz.params4]at hlen
 match ds,hlen.2,hA,hW' with
 |[d0,d1,d2],_,hA,hW'=>exact⟨_,rfl,_,_,_,[],_,[],hW',trodAll_mk1 (shut_bool Tryz.underlying4 _),trodAll_stays laidOut bel reads hA,rfl,bel.frame _,fun h=>by cases h⟩
theorem over:Rows.streamComesRow.holds Tryz.pinned (OpenSpec.ofChange Rows.streamComesSpec):=
 OpenClaim.holds_of_wide 4 Tryz.f4 rfl rfl rfl rfl rfl rfl rfl ⟨rfl,rfl,rfl,rfl,rfl⟩ rfl rfl rfl rfl rfl (by kernel_rfl) Tryz.func4 (by kernel_rfl)
  (of_decide_eq_true (by kernel_rfl)) (by unfold Func.isWrapper;first|(rw[if_pos zdk];kernel_rfl)|(rw[if_neg zdk];exact⟨rfl,rfl⟩))
  (fun os started H enc _=>lifted os started H enc)
theorem proved:Rows.StreamComesSaid:=over
end Go.Proofs.YtnlaffkihohfkaaGreat.lawStreamComes
