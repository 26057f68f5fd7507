/- The library's sort at lists of small numbers: part of the insertion. Conditions: lists are short. The library's sort at lists of small numbers: bits, the pseudo-random numbers, the choice of a pivot. Conditions: lists are short. The library's sort at lists of small numbers: the whole. Conditions: lists are short. Streams: the list of all their numbers. Conditions: there are not too many. Streams: what is read. Conditions: numbers fit. All streams of an endpoint as they look from without: a stream for each number, made or not. Conditions: none; no program is spoken of. All streams of an endpoint: what each call makes of how they look from without. Conditions: none; no program is spoken of. Two buffers of one direction of a stream, as they stand when nothing is under way. Conditions: none; no program is spoken of. Two sets of streams that send each other what they have to: what holds of both when nothing is under way. Conditions: none; no program is spoken of. Two sets of streams that send each other what they have to: what each step keeps. Conditions: none; no program is spoken of. Two sets of streams: a frame of each kind is sent, and comes, or is lost. Conditions: none; no program is spoken of. Two sets of streams: bytes are sent, and come, or are lost. Conditions: none; no program is spoken of. -/
import Derived.Test.YtnlaffkihohfkaaGreatStreamComesPk5
import Derived.Test.YtnlaffkihohfkaaGreatStreamComesPk3
set_option maxRecDepth 20000
set_option linter.unusedVariables false
set_option linter.unusedSimpArgs false
namespace Go.Proofs.YtnlaffkihohfkaaGreat
open Go Go.Sl Go.Proofs
variable {B:Nat}{w0:World}{G:List Hp}{R:Hp→List Hp}
set_option maxHeartbeats 8000000 in
theorem pinsQ_c {ao:Option Addr}{n cap a b:Nat}{c:Hp}{d:Array Int}(hsel:Sel G c R)(hL:Ls enQ 27 (.slice ao n cap) c d.toList)(hab:a<b)(hb:b≤d.size)(hn:d.size≤1000000):
  Go.Sl.Fn Tryz.prog 99 #[.slice ao n cap,.int .i64 a,.int .i64 b] B w0 G fun u G'=>∃c':Hp,u=.bool (Sort.partialInsertionSort Sort.ltInt d a b).2∧Ls enQ 27 (.slice ao n cap) c' (Sort.partialInsertionSort Sort.ltInt d a b).1.toList∧G'=R c':=by
 refine Fn.sel0 hsel fun F hR hF=>?_
 have hl:=hL.len
 rw[Array.length_toList]at hl
 subst hl
 unfold Sort.partialInsertionSort
 refine fn_enter Tryz.func99 rfl (by kernel_rfl) Tryz.ntmps99 (by simp) ?_
 refine qs<|qa<|qt<|qs<|qm ?_
 refine qv (v_add rfl rfl (nw_i64 zom zom))<|qa<|qt<|cw_seq<|qs<|qa<|qt ?_
 refine cw_block ?_
 refine cw_loop2 (ι:=((Nat×Nat×Array Int×Hp))) [(0,_),(1,_),(2,_)] ⟨rfl,rfl,rfl,trivial⟩ ((fun x=>[(8,.int .i64 x.1),(7,.int .i64 x.2.1)])) ((fun x=>x.1≤5∧a+1≤x.2.1∧x.2.1≤b∧x.2.2.1.size=d.size∧Sort.partialIns Sort.ltInt a b (5-x.1) x.2.1 x.2.2.1=Sort.partialIns Sort.ltInt a b 5 (a+1) d∧Ls enQ 27 (.slice ao d.size cap) x.2.2.2 x.2.2.1.toList)) ((fun x=>5-x.1)) ((fun x=>x.2.2.2::F)) (((0,a+1,d,c):Nat×Nat×Array Int×Hp)) zenv zcov ?_ ?_
 ·exact⟨Nat.zero_le _,Nat.le_refl _,hab,rfl,rfl,hL⟩
 rintro⟨t,i,d1,c1⟩ ⟨ht,hi1,hi2,hsz,he,hL1⟩
 dsimp only at ht hi1 hi2 hsz he hL1⊢
 have hl1:d1.toList.length=d.size:=by rw[Array.length_toList];exact hsz
 refine cw_seq<|qs<|qm ?_
 refine qv (v_lss rfl rfl)<|qt ?_
 refine cw_dec rfl (fun hc14=>?_) (fun hc14=>?_)
 refine cw_skip<|xw_then ?_
 rotate_left
 refine cw_exit ?_
 refine xw_then_exit ?_
 refine xw_round_exit ?_
 refine xw_block_exit<|xw_then ?_
 rotate_left
 ·obtain⟨t',ht'⟩:∃t',5-t=t'+1:=⟨5-t-1,by omega⟩
  have hq:=fun k e1 e2=>pIns_eq (d:=d1) (d1:=e1) (d2:=e2) (a:=a) (b:=b) (s:=t') (i:=i) (k:=k)
  rw[←ht',he]at hq
  refine cw_seq ?_
  refine cw_block ?_
  refine cw_cut2 (ι:=(Nat)) [(0,_),(1,_),(2,_),(8,_)] ⟨rfl,rfl,rfl,rfl,trivial⟩ ((fun k=>[(7,.int .i64 k)])) ((fun k=>i≤k∧k≤b∧Sort.scanSorted Sort.ltInt d1 b i=k)) ((fun _=>c1::F)) ?_ ?_
  ·refine cw_block ?_
   refine cw_loop2 (ι:=(Nat)) [(0,_),(1,_),(2,_),(8,_)] ⟨rfl,rfl,rfl,rfl,trivial⟩ ((fun k=>[(7,.int .i64 k)])) ((fun k=>i≤k∧k≤b∧Sort.scanSorted Sort.ltInt d1 b k=Sort.scanSorted Sort.ltInt d1 b i)) ((fun k=>b-k)) ((fun _=>c1::F)) ((i:Nat)) zenv zcov ?_ ?_
   ·exact⟨Nat.le_refl _,hi2,rfl⟩
   rintro k ⟨hk1,hk2,hk3⟩
   refine cw_seq<|cw_seq ?_
   refine cw_quiet Ty.mixed zdk ?_
   refine kmv ?_
   refine kmv ?_
   refine kv (v_lss rfl rfl) ?_
   refine kmv ?_
   refine kw_dec 20 rfl (fun hc20=>?_) (fun hc20=>?_)
   refine kmv ?_
   refine kmv ?_
   refine kw_val rfl rfl (v_indexAddr_ls Tryz.underlying34 (qTy) rfl rfl zas rfl zom) ?_
   refine kv (v_load rfl (Go.Sl.Vw.var (qTy) ((hL1.vw zhas)) zom)) ?_
   refine kmv ?_
   refine kmv ?_
   refine kv (v_sub rfl rfl (nw_i64 zom zom)) ?_
   refine kw_val rfl rfl (v_indexAddr_ls Tryz.underlying34 (qTy) rfl rfl zas (Int.toNat_of_nonneg zom).symm zom) ?_
   refine kv (v_load rfl (Go.Sl.Vw.var (qTy) ((hL1.vw zhas)) zom)) ?_
   refine kv (v_call rfl rfl (lessQ_c)) ?_
   refine kv (v_not rfl) ?_
   refine kv (v_pick_true rfl rfl) ?_
   refine kw_nil<|xw_then ?_
   refine cw_dec rfl (fun hc32=>?_) (fun hc32=>?_)
   refine cw_skip<|xw_then ?_
   refine cw_block<|cw_region<|qm ?_
   refine qv (v_add rfl rfl (nw_i64 zom zom))<|qa<|ow_nil ?_
   refine xw_block ?_
   rotate_left
   refine cw_exit ?_
   refine xw_then_exit ?_
   refine xw_round_exit ?_
   refine xw_block_exit ?_
   rotate_left
   refine kk ?_
   refine kk ?_
   refine kk ?_
   refine kk ?_
   refine kk ?_
   refine kk ?_
   refine kk ?_
   refine kk ?_
   refine kk ?_
   refine kk ?_
   refine kk ?_
   refine kv (v_pick_false rfl rfl) ?_
   refine kw_nil<|xw_then ?_
   refine cw_false rfl ?_
   refine cw_exit ?_
   refine xw_then_exit ?_
   refine xw_round_exit ?_
   refine xw_block_exit ?_
   rotate_left
   ·rw[bangD (i:=k) _ rfl,bangD (i:=k-1) _ zom]at hc32
    exact xw_round (k+1) ⟨by omega,by omega,by rw[←hk3];exact(scanSorted_go zom (by simpa using hc32)).symm⟩ zom zcov zenv
   ·rw[bangD (i:=k) _ rfl,bangD (i:=k-1) _ zom]at hc32
    exact xw_joint k ⟨hk1,hk2,by rw[←hk3];exact scanSorted_stop (fun h=>hc32 (by simpa using h.2))⟩ zcov zenv
   ·exact xw_joint k ⟨hk1,hk2,by rw[←hk3];exact scanSorted_stop (fun h=>by have:=h.1;omega)⟩ zcov zenv
  rintro k ⟨hk1,hk2,hk3⟩
  have hq2:=fun e1 e2=>hq k e1 e2 hk3
  refine cw_seq<|qs<|qm<|qm ?_
  refine qv (v_eql rfl rfl)<|qt ?_
  refine cw_dec rfl (fun hc37=>?_) (fun hc37=>?_)
  refine qs<|qa<|qt ?_
  refine cw_ret ?_
  refine xw_then_ret ?_
  refine xw_block_ret ?_
  refine xw_then_ret ?_
  refine xw_round_ret ?_
  refine xw_block_ret ?_
  refine xw_then_ret ?_
  refine ret1 rfl (res_tmp rfl) ?_
  rotate_left
  refine cw_skip<|xw_then<|cw_seq<|qs<|qm<|qm ?_
  refine qv (v_sub rfl rfl (nw_i64 zom zom)) ?_
  refine qv (v_lss rfl rfl)<|qt ?_
  refine cw_dec rfl (fun hc41=>?_) (fun hc41=>?_)
  refine qs<|qa<|qt ?_
  refine cw_ret ?_
  refine xw_then_ret ?_
  refine xw_block_ret ?_
  refine xw_then_ret ?_
  refine xw_round_ret ?_
  refine xw_block_ret ?_
  refine xw_then_ret ?_
  refine ret1 rfl (res_tmp rfl) ?_
  rotate_left
  refine cw_skip<|xw_then ?_
  rotate_left
  ·rw[hq2 _ _ rfl rfl,if_pos zom]
   exact⟨c1,rfl,hL1,zcov⟩
  ·rw[hq2 _ _ rfl rfl,if_neg zom,if_pos zom]
   exact⟨c1,rfl,hL1,zcov⟩
  refine cw_seq ?_
  refine cw_mix [] [15,16,17] [0,1,2,3,4,5,6,7,8,9,10,11,12,13,14] Ty.mixed rfl rfl rfl rfl zdk ?_
  refine hmv ?_
  refine hmv ?_
  refine hmv ?_
  refine hmv ?_
  refine hw_pure rfl rfl (v_sub rfl rfl (nw_i64 zom zom)) rfl ?_
  refine hmv ?_
  refine hmv ?_
  refine hw_pure rfl rfl (v_sub rfl rfl (nw_i64 zom zom)) rfl ?_
  refine hw_pure rfl rfl (v_indexAddr_ls Tryz.underlying34 (qTy) rfl rfl zas (Int.toNat_of_nonneg zom).symm zom) rfl ?_
  refine hw_read rfl rfl rfl (v_load rfl (Go.Sl.Vw.var (qTy) ((hL1.vw zhas)) zom)) ?_
  refine hmv ?_
  refine hmv ?_
  refine hw_pure rfl rfl (v_indexAddr_ls Tryz.underlying34 (qTy) rfl rfl zas rfl zom) rfl ?_
  refine hw_read rfl rfl rfl (v_load rfl (Go.Sl.Vw.var (qTy) ((hL1.vw zhas)) zom)) ?_
  refine hw_pure rfl rfl (v_indexAddr_ls Tryz.underlying34 (qTy) rfl rfl zas rfl zom) rfl ?_
  refine hw_nil ?_
  refine sw_nil ?_
  refine ow_storeL (i:=k) (a:=d1.toList[((k:Int)-1).toNat]'zom) rfl rfl rfl qTy hL1 zsel zom (hL1.ok _ (List.getElem_mem _)) ?_
  intro csa hLsa
  have hlsa:(d1.toList.set k (d1.toList[((k:Int)-1).toNat]'zom)).length=d1.toList.length:=List.length_set
  refine ow_val rfl rfl (v_indexAddr_ls Tryz.underlying34 (qTy) rfl rfl zas (Int.toNat_of_nonneg zom).symm zom) ?_
  refine ow_storeL (i:=((k:Int)-1).toNat) (a:=d1.toList[k]'zom) rfl rfl rfl qTy hLsa zsel (by rw[List.length_set];omega) (hL1.ok _ (List.getElem_mem _)) ?_
  intro cs hLs
  rw[swpL (i':=k) (j':=k-1) (bangD _ zom) (bangD _ zom) zom zom]at hLs
  have hszs:(Sort.swp d1 k (k-1)).size=d.size:=by rw[swp_sz];exact hsz
  generalize Sort.swp d1 k (k-1)=ds at *
  refine ow_nil ?_
  refine xw_np<|xw_then ?_
  refine cw_cut2 (ι:=((Array Int×Hp))) [(0,_),(1,_),(2,_),(7,_),(8,_)] ⟨rfl,rfl,rfl,rfl,rfl,trivial⟩ ((fun _=>[])) ((fun x=>x.1.size=d.size∧x.1=(if k-a≥2 then Sort.shiftDown Sort.ltInt (k-1) ds else ds)∧Ls enQ 27 (.slice ao d.size cap) x.2 x.1.toList)) ((fun x=>x.2::F)) ?_ ?_
  ·refine cw_seq ?_
   refine cw_region<|qm<|qm ?_
   refine qv (v_sub rfl rfl (nw_i64 zom zom)) ?_
   refine qv (v_geq rfl rfl)<|qt ?_
   refine cw_dec rfl (fun hc61=>?_) (fun hc61=>?_)
   refine qs<|qm ?_
   refine qv (v_sub rfl rfl (nw_i64 zom zom))<|qa<|qt ?_
   refine cw_block ?_
   rotate_left
   refine cw_skip ?_
   rotate_left
   ·refine cw_env ((0,.slice ao d.size cap)::(1,.int .i64 a)::(2,.int .i64 b)::(7,.int .i64 k)::(8,.int .i64 t)::(9,.int .i64 ((k-1:Nat):Int))::[]) (by repeat (first|exact True.intro|refine And.intro rfl ?_|refine And.intro (congrArg (fun z:Int=>some (Value.int IntKind.i64 z)) (by (try dsimp only);omega)) ?_)) ?_
    refine cw_loop2 (ι:=((Nat×Array Int×Hp))) [(0,_),(1,_),(2,_),(7,_),(8,_)] ⟨rfl,rfl,rfl,rfl,rfl,trivial⟩ ((fun x=>[(9,.int .i64 x.1)])) ((fun x=>x.1≤k-1∧x.2.1.size=d.size∧Sort.shiftDown Sort.ltInt x.1 x.2.1=Sort.shiftDown Sort.ltInt (k-1) ds∧Ls enQ 27 (.slice ao d.size cap) x.2.2 x.2.1.toList)) ((fun x=>x.1)) ((fun x=>x.2.2::F)) (((k-1,ds,cs):Nat×Array Int×Hp)) zenv zcov ?_ ?_
    ·exact⟨Nat.le_refl _,hszs,rfl,hLs⟩
    rintro⟨j,d2,c2⟩ ⟨hj,hsz2,he2,hL2⟩
    dsimp only at hj hsz2 he2 hL2⊢
    have hl2:d2.toList.length=d.size:=by rw[Array.length_toList];exact hsz2
    refine cw_seq<|qs<|qm ?_
    refine qv (v_geq rfl rfl)<|qt ?_
    refine cw_dec rfl (fun hc65=>?_) (fun hc65=>?_)
    refine cw_skip<|xw_then<|cw_seq ?_
    refine cw_block<|cw_seq<|cw_seq ?_
    refine cw_quiet Ty.mixed zdk ?_
    refine kmv ?_
    refine kmv ?_
    refine kw_val rfl rfl (v_indexAddr_ls Tryz.underlying34 (qTy) rfl rfl zas rfl zom) ?_
    refine kv (v_load rfl (Go.Sl.Vw.var (qTy) ((hL2.vw zhas)) zom)) ?_
    refine kmv ?_
    refine kmv ?_
    refine kv (v_sub rfl rfl (nw_i64 zom zom)) ?_
    refine kw_val rfl rfl (v_indexAddr_ls Tryz.underlying34 (qTy) rfl rfl zas (Int.toNat_of_nonneg zom).symm zom) ?_
    refine kv (v_load rfl (Go.Sl.Vw.var (qTy) ((hL2.vw zhas)) zom)) ?_
    refine kv (v_call rfl rfl (lessQ_c)) ?_
    refine kv (v_not rfl) ?_
    refine kw_nil<|xw_then ?_
    refine cw_dec rfl (fun hc78=>?_) (fun hc78=>?_)
    refine cw_exit ?_
    refine xw_then_exit ?_
    refine xw_block_other rfl ?_
    refine xw_then_exit ?_
    refine xw_round_exit ?_
    refine xw_block_exit ?_
    rotate_left
    refine cw_skip<|xw_then ?_
    refine cw_mix [] [15,16,17] [0,1,2,3,4,5,6,7,8,9,10,11,12,13,14] Ty.mixed rfl rfl rfl rfl zdk ?_
    refine hmv ?_
    refine hmv ?_
    refine hmv ?_
    refine hmv ?_
    refine hw_pure rfl rfl (v_sub rfl rfl (nw_i64 zom zom)) rfl ?_
    refine hmv ?_
    refine hmv ?_
    refine hw_pure rfl rfl (v_sub rfl rfl (nw_i64 zom zom)) rfl ?_
    refine hw_pure rfl rfl (v_indexAddr_ls Tryz.underlying34 (qTy) rfl rfl zas (Int.toNat_of_nonneg zom).symm zom) rfl ?_
    refine hw_read rfl rfl rfl (v_load rfl (Go.Sl.Vw.var (qTy) ((hL2.vw zhas)) zom)) ?_
    refine hmv ?_
    refine hmv ?_
    refine hw_pure rfl rfl (v_indexAddr_ls Tryz.underlying34 (qTy) rfl rfl zas rfl zom) rfl ?_
    refine hw_read rfl rfl rfl (v_load rfl (Go.Sl.Vw.var (qTy) ((hL2.vw zhas)) zom)) ?_
    refine hw_pure rfl rfl (v_indexAddr_ls Tryz.underlying34 (qTy) rfl rfl zas rfl zom) rfl ?_
    refine hw_nil ?_
    refine sw_nil ?_
    rotate_left
    refine cw_exit ?_
    refine xw_then_exit ?_
    refine xw_round_exit ?_
    refine xw_block_exit ?_
    rotate_left
    ·rw[bangD (i:=j) _ rfl,bangD (i:=j-1) _ zom]at hc78
     rw[shiftDown_stop (fun h=>by simp[h.2]at hc78)]at he2
     exact xw_joint ((d2,c2):Array Int×Hp) ⟨hsz2,by dsimp only;rw[if_pos zom];exact he2,hL2⟩ zcov zenv
    ·rw[bangD (i:=j) _ rfl,bangD (i:=j-1) _ zom]at hc78
     rw[shiftDown_go zom (by simpa using hc78)]at he2
     skip
     refine ow_storeL (i:=j) (a:=d2.toList[((j:Int)-1).toNat]'zom) rfl rfl rfl qTy hL2 zsel zom (hL2.ok _ (List.getElem_mem _)) ?_
     intro cua hLua
     have hlua:(d2.toList.set j (d2.toList[((j:Int)-1).toNat]'zom)).length=d2.toList.length:=List.length_set
     refine ow_val rfl rfl (v_indexAddr_ls Tryz.underlying34 (qTy) rfl rfl zas (Int.toNat_of_nonneg zom).symm zom) ?_
     refine ow_storeL (i:=((j:Int)-1).toNat) (a:=d2.toList[j]'zom) rfl rfl rfl qTy hLua zsel (by rw[List.length_set];omega) (hL2.ok _ (List.getElem_mem _)) ?_
     intro cu hLu
     rw[swpL (i':=j) (j':=j-1) (bangD _ zom) (bangD _ zom) zom zom]at hLu
     refine ow_nil ?_
     refine xw_np ?_
     refine xw_block<|xw_then<|cw_region<|qm ?_
     refine qv (v_sub rfl rfl (nw_i64 zom zom))<|qa<|ow_nil ?_
     exact xw_round ((j-1,Sort.swp d2 j (j-1),cu):Nat×Array Int×Hp) ⟨by dsimp only;omega,by dsimp only;rw[swp_sz];exact hsz2,he2,hLu⟩ zdo zcov (by repeat (first|exact True.intro|refine And.intro rfl ?_|refine And.intro (congrArg (fun z:Int=>some (Value.int IntKind.i64 z)) (by (try dsimp only);omega)) ?_))
    ·rw[shiftDown_stop (fun h=>by have:=h.1;omega)]at he2
     exact xw_joint ((d2,c2):Array Int×Hp) ⟨hsz2,by dsimp only;rw[if_pos zom];exact he2,hL2⟩ zcov zenv
   ·exact xw_joint ((ds,cs):Array Int×Hp) ⟨hszs,by dsimp only;rw[if_neg zom],hLs⟩ zcov zenv
  rintro⟨d3,c3⟩ ⟨hsz3,he3,hL3⟩
  dsimp only at hsz3 he3 hL3⊢
  have hend:∀(d4:Array Int),d4=(if b-k≥2 then Sort.shiftUp Sort.ltInt b (k+1) d3 else d3)→Sort.partialIns Sort.ltInt a b (5-(t+1)) k d4=Sort.partialIns Sort.ltInt a b 5 (a+1) d:=fun d4 h4=>by
   have hq3:=hq2 d3 d4 he3 h4
   rw[if_neg zom,if_neg zom]at hq3
   rw[show 5-(t+1)=t' by omega]
   exact hq3.symm
  refine qs<|qm<|qm ?_
  refine qv (v_sub rfl rfl (nw_i64 zom zom)) ?_
  refine qv (v_geq rfl rfl)<|qt ?_
  refine cw_dec rfl (fun hc98=>?_) (fun hc98=>?_)
  refine qs<|qm ?_
  refine qv (v_add rfl rfl (nw_i64 zom zom))<|qa<|qt ?_
  refine cw_block ?_
  rotate_left
  refine cw_skip ?_
  refine xw_block<|xw_then<|cw_region<|qm ?_
  refine qv (v_add rfl rfl (nw_i64 zom zom))<|qa<|ow_nil ?_
  rotate_left
  ·refine cw_loop2 (ι:=((Nat×Array Int×Hp))) [(0,_),(1,_),(2,_),(7,_),(8,_)] ⟨rfl,rfl,rfl,rfl,rfl,trivial⟩ ((fun x=>[(10,.int .i64 x.1)])) ((fun x=>k+1≤x.1∧x.1≤b∧x.2.1.size=d.size∧Sort.shiftUp Sort.ltInt b x.1 x.2.1=Sort.shiftUp Sort.ltInt b (k+1) d3∧Ls enQ 27 (.slice ao d.size cap) x.2.2 x.2.1.toList)) ((fun x=>b-x.1)) ((fun x=>x.2.2::F)) (((k+1,d3,c3):Nat×Array Int×Hp)) zenv zcov ?_ ?_
   ·exact⟨Nat.le_refl _,by dsimp only;omega,hsz3,rfl,hL3⟩
   rintro⟨j,d2,c2⟩ ⟨hj,hj2,hsz2,he2,hL2⟩
   dsimp only at hj hj2 hsz2 he2 hL2⊢
   have hl2:d2.toList.length=d.size:=by rw[Array.length_toList];exact hsz2
   refine cw_seq<|qs<|qm<|qm ?_
   refine qv (v_lss rfl rfl)<|qt ?_
   refine cw_dec rfl (fun hc103=>?_) (fun hc103=>?_)
   refine cw_skip<|xw_then<|cw_seq ?_
   refine cw_block<|cw_seq<|cw_seq ?_
   refine cw_quiet Ty.mixed zdk ?_
   refine kmv ?_
   refine kmv ?_
   refine kw_val rfl rfl (v_indexAddr_ls Tryz.underlying34 (qTy) rfl rfl zas rfl zom) ?_
   refine kv (v_load rfl (Go.Sl.Vw.var (qTy) ((hL2.vw zhas)) zom)) ?_
   refine kmv ?_
   refine kmv ?_
   refine kv (v_sub rfl rfl (nw_i64 zom zom)) ?_
   refine kw_val rfl rfl (v_indexAddr_ls Tryz.underlying34 (qTy) rfl rfl zas (Int.toNat_of_nonneg zom).symm zom) ?_
   refine kv (v_load rfl (Go.Sl.Vw.var (qTy) ((hL2.vw zhas)) zom)) ?_
   refine kv (v_call rfl rfl (lessQ_c)) ?_
   refine kv (v_not rfl) ?_
   refine kw_nil<|xw_then ?_
   refine cw_dec rfl (fun hc116=>?_) (fun hc116=>?_)
   refine cw_exit ?_
   refine xw_then_exit ?_
   refine xw_block_other rfl ?_
   refine xw_then_exit ?_
   refine xw_round_exit ?_
   refine xw_block_exit ?_
   refine xw_block<|xw_then<|cw_region<|qm ?_
   refine qv (v_add rfl rfl (nw_i64 zom zom))<|qa ?_
   refine ow_nil ?_
   rotate_left
   refine cw_skip<|xw_then ?_
   refine cw_mix [] [15,16,17] [0,1,2,3,4,5,6,7,8,9,10,11,12,13,14] Ty.mixed rfl rfl rfl rfl zdk ?_
   refine hmv ?_
   refine hmv ?_
   refine hmv ?_
   refine hmv ?_
   refine hw_pure rfl rfl (v_sub rfl rfl (nw_i64 zom zom)) rfl ?_
   refine hmv ?_
   refine hmv ?_
   refine hw_pure rfl rfl (v_sub rfl rfl (nw_i64 zom zom)) rfl ?_
   refine hw_pure rfl rfl (v_indexAddr_ls Tryz.underlying34 (qTy) rfl rfl zas (Int.toNat_of_nonneg zom).symm zom) rfl ?_
   refine hw_read rfl rfl rfl (v_load rfl (Go.Sl.Vw.var (qTy) ((hL2.vw zhas)) zom)) ?_
   refine hmv ?_
   refine hmv ?_
   refine hw_pure rfl rfl (v_indexAddr_ls Tryz.underlying34 (qTy) rfl rfl zas rfl zom) rfl ?_
   refine hw_read rfl rfl rfl (v_load rfl (Go.Sl.Vw.var (qTy) ((hL2.vw zhas)) zom)) ?_
   refine hw_pure rfl rfl (v_indexAddr_ls Tryz.underlying34 (qTy) rfl rfl zas rfl zom) rfl ?_
   refine hw_nil ?_
   refine sw_nil ?_
   rotate_left
   refine cw_exit ?_
   refine xw_then_exit ?_
   refine xw_round_exit ?_
   refine xw_block_exit ?_
   refine xw_block<|xw_then<|cw_region<|qm ?_
   refine qv (v_add rfl rfl (nw_i64 zom zom))<|qa<|ow_nil ?_
   rotate_left
   ·rw[bangD (i:=j) _ rfl,bangD (i:=j-1) _ zom]at hc116
    rw[shiftUp_stop (fun h=>by simp[h.2]at hc116)]at he2
    exact xw_round ((t+1,k,d2,c2):Nat×Nat×Array Int×Hp) ⟨by dsimp only;omega,by dsimp only;omega,hk2,hsz2,hend d2 (by rw[if_pos zom];exact he2),hL2⟩ zdo zcov zenv
   ·rw[bangD (i:=j) _ rfl,bangD (i:=j-1) _ zom]at hc116
    rw[shiftUp_go zom (by simpa using hc116)]at he2
    skip
    refine ow_storeL (i:=j) (a:=d2.toList[((j:Int)-1).toNat]'zom) rfl rfl rfl qTy hL2 zsel zom (hL2.ok _ (List.getElem_mem _)) ?_
    intro cua hLua
    have hlua:(d2.toList.set j (d2.toList[((j:Int)-1).toNat]'zom)).length=d2.toList.length:=List.length_set
    refine ow_val rfl rfl (v_indexAddr_ls Tryz.underlying34 (qTy) rfl rfl zas (Int.toNat_of_nonneg zom).symm zom) ?_
    refine ow_storeL (i:=((j:Int)-1).toNat) (a:=d2.toList[j]'zom) rfl rfl rfl qTy hLua zsel (by rw[List.length_set];omega) (hL2.ok _ (List.getElem_mem _)) ?_
    intro cu hLu
    rw[swpL (i':=j) (j':=j-1) (bangD _ zom) (bangD _ zom) zom zom]at hLu
    refine ow_nil ?_
    refine xw_np ?_
    refine xw_block<|xw_then<|cw_region<|qm ?_
    refine qv (v_add rfl rfl (nw_i64 zom zom))<|qa<|ow_nil ?_
    exact xw_round ((j+1,Sort.swp d2 j (j-1),cu):Nat×Array Int×Hp) ⟨by dsimp only;omega,by dsimp only;omega,by dsimp only;rw[swp_sz];exact hsz2,he2,hLu⟩ zdo zcov zenv
   ·rw[shiftUp_stop (fun h=>by have:=h.1;omega)]at he2
    exact xw_round ((t+1,k,d2,c2):Nat×Nat×Array Int×Hp) ⟨by dsimp only;omega,by dsimp only;omega,hk2,hsz2,hend d2 (by rw[if_pos zom];exact he2),hL2⟩ zdo zcov zenv
  ·exact xw_round ((t+1,k,d3,c3):Nat×Nat×Array Int×Hp) ⟨by dsimp only;omega,by dsimp only;omega,hk2,hsz3,hend d3 (by rw[if_neg zom]),hL3⟩ zdo zcov zenv
 ·obtain rfl:t=5:=by omega
  rw[←he]
  refine qs<|qa<|qt ?_
  refine cw_ret ?_
  refine ret1 rfl (res_tmp rfl) ?_
  exact⟨c1,rfl,hL1,zcov⟩
end Go.Proofs.YtnlaffkihohfkaaGreat
namespace Go.Proofs.YtnlaffkihohfkaaGreat
open Go Go.Sl Go.Proofs
variable {B:Nat}{w0:World}{G:List Hp}{R:Hp→List Hp}
set_option maxHeartbeats 4000000 in
theorem len64_c {n:Nat}(hn2:n<65536):
  Go.Sl.Fn Tryz.prog 104 #[.int .u64 n] B w0 G fun u G'=>∃L:Nat,u=.int .i64 L∧BitLen n L∧G'=G:=by
 refine Fn.val ?_
 refine fn_enter Tryz.func104 rfl (by kernel_rfl) Tryz.ntmps104 (by simp) ?_
 refine qs<|qa<|qt<|cw_seq<|qs<|qm ?_
 refine qv (v_geq rfl rfl)<|qt ?_
 refine cw_dec rfl (fun hc4=>?_) (fun hc4=>?_)
 (exfalso;omega)
 refine cw_skip<|xw_then<|cw_seq<|qs<|qm ?_
 refine qv (v_geq rfl rfl)<|qt ?_
 refine cw_dec rfl (fun hc8=>?_) (fun hc8=>?_)
 (exfalso;omega)
 refine cw_skip<|xw_then<|cw_seq<|qs<|qm ?_
 refine qv (v_geq rfl rfl)<|qt ?_
 refine cw_dec rfl (fun hc14=>?_) (fun hc14=>?_)
 refine qs<|qm ?_
 refine ow_val rfl rfl (v_shrP (p:=256) rfl rfl zom (by decide) zom (by decide)) ?_
 refine qa<|qt<|cw_region<|qm ?_
 refine qv (v_add rfl rfl (nw_i64 zom zom))<|qa<|qt<|qs<|qm<|qm ?_
 refine qv (v_convert Tryz.underlying27 Tryz.underlying5 rfl (nw_u8 zom zom)) ?_
 rotate_left
 refine cw_skip<|xw_then<|qs<|qm<|qm ?_
 refine qv (v_convert Tryz.underlying27 Tryz.underlying5 rfl (nw_u8 zom zom)) ?_
 rotate_left
 ·refine ow_val rfl rfl (v_len8 Tryz.underlying9 (by kernel_rfl) rfl zom zom) ?_
  have hb:=bitLen_hi (n:=n) zom hn2
  have h3:=len8_spec (i:=n/256) zom
  have he:((n:Int)/256)=((n/256:Nat):Int):=by omega
  rw[he]
  generalize Lib.len8 ((n/256:Nat):Int)=l at *
  refine qv (v_convert Tryz.underlying5 Tryz.underlying3 rfl (nw_i64 zom zom)) ?_
  refine qv (v_add rfl rfl (nw_i64 zom zom))<|qa<|qt ?_
  refine cw_ret ?_
  refine ret1 rfl (res_tmp rfl) ?_
  exact⟨8+l.toNat,congrArg (Value.int .i64) zom,hb,zcov⟩
 ·refine ow_val rfl rfl (v_len8 Tryz.underlying9 (by kernel_rfl) rfl zom zom) ?_
  have hb:=bitLen_lo (n:=n) zom
  have h3:=len8_spec (i:=n) zom
  generalize Lib.len8 (n:Int)=l at *
  refine qv (v_convert Tryz.underlying5 Tryz.underlying3 rfl (nw_i64 zom zom)) ?_
  refine qv (v_add rfl rfl (nw_i64 zom zom))<|qa<|qt ?_
  refine cw_ret ?_
  refine ret1 rfl (res_tmp rfl) ?_
  exact⟨l.toNat,congrArg (Value.int .i64) zom,hb,zcov⟩
theorem len_c {n:Nat}{x:Int}(hx:x=n)(hn2:n<65536):
  Go.Sl.Fn Tryz.prog 68 #[.int .u64 x] B w0 G fun u G'=>∃L:Nat,u=.int .i64 L∧BitLen n L∧G'=G:=by
 subst hx
 refine Fn.val ?_
 refine fn_enter Tryz.func68 rfl (by kernel_rfl) Tryz.ntmps68 (by simp) ?_
 refine qs<|qa<|qt<|cw_seq<|cw_false rfl<|cw_skip<|xw_then<|qs<|qm ?_
 (refine ow_call rfl rfl rfl rfl (len64_c hn2) ?_;rintro _ _ ⟨x7,rfl,hq7,rfl⟩)
 refine qa<|qt<|cw_ret<|ret1 rfl (res_tmp rfl) ?_
 exact⟨x7,rfl,hq7,zcov⟩
theorem pow2_c {n:Nat}{x:Int}(hx:x=n)(hn:0<n)(hn2:n<65536):
  Go.Sl.Fn Tryz.prog 119 #[.int .i64 x] B w0 G fun u G'=>∃m:Nat,u=.int .u64 m∧(n<m∧m≤2*n)∧G'=G:=by
 subst hx
 refine Fn.val ?_
 refine fn_enter Tryz.func119 rfl (by kernel_rfl) Tryz.ntmps119 (by simp) ?_
 refine qs<|qa<|qt<|qs<|qm ?_
 refine qv (v_convert Tryz.underlying3 Tryz.underlying99 rfl (nw_u64 zom zom)) ?_
 (refine ow_call rfl rfl rfl rfl (len_c rfl hn2) ?_;rintro _ _ ⟨x5,rfl,hq5,rfl⟩)
 refine qv (v_shl rfl rfl zom rfl)<|qa<|qt ?_
 refine cw_ret ?_
 refine ret1 rfl (res_tmp rfl) ?_
 have h1:=hq5.1
 have h2:=hq5.2.1 hn
 have h3:=hq5.2.2
 refine⟨2 ^ x5,congrArg (Value.int .u64) ?_,⟨h1,h2⟩,zcov⟩
 have h4:min (Int.toNat (x5:Int)) IntKind.u64.bits=x5:=by
  show min (Int.toNat (x5:Int)) 64=x5
  omega
 have h5:(1:Int)*2 ^ min (Int.toNat (x5:Int)) IntKind.u64.bits=((2 ^ x5:Nat):Int):=by
  rw[h4,Int.one_mul]
  exact(Int.natCast_pow 2 x5).symm
 rw[h5]
 generalize 2 ^ x5=p at *
 exact nw_u64 zom zom
def xsCell (b:Nat)(r:Int):Hp:=[(b,.cells [Value.int .u64 r].toArray 178 (0,0))]
set_option maxHeartbeats 4000000 in
theorem pdqNext_c {b:Nat}{r:Int}(hsel:Sel G (xsCell b r) R):
  Go.Sl.Fn Tryz.prog 120 #[.pointer (some ⟨b,0,none⟩)] B w0 G fun u G'=>∃x:Int,u=.int .u64 x∧(0≤x∧x≤18446744073709551615)∧G'=R (xsCell b x):=by
 refine Fn.sel0 hsel fun F hR hF=>?_
 unfold xsCell
 refine fn_enter Tryz.func120 rfl (by kernel_rfl) Tryz.ntmps120 (by simp) ?_
 refine qs<|qa<|qt<|cw_seq ?_
 refine cw_mix [] [9] [0,1,2,3,4,5,6,7,8] Ty.mixed rfl rfl rfl rfl zdk ?_
 refine hmv ?_
 refine hw_pure rfl rfl (v_nilCheck rfl) rfl ?_
 refine hw_read rfl rfl rfl (v_load rfl (Var.at1 Ty.sc178 .here (GetN.lit rfl))) ?_
 refine hmv ?_
 refine hw_pure rfl rfl (v_nilCheck rfl) rfl ?_
 refine hw_read rfl rfl rfl (v_load rfl (Var.at1 Ty.sc178 .here (GetN.lit rfl))) ?_
 refine hw_pure rfl rfl (v_shl rfl rfl zom rfl) rfl ?_
 refine hw_pure rfl rfl (v_xor rfl rfl rfl) rfl ?_
 refine hw_pure rfl rfl (v_nilCheck rfl) rfl ?_
 refine hw_nil ?_
 refine sw_nil ?_
 refine ow_store1 rfl rfl rfl rfl Ty.sc178 .here (SetN.one zdn) ?_
 refine ow_nil ?_
 refine xw_np<|xw_then<|cw_seq ?_
 refine cw_mix [] [9] [0,1,2,3,4,5,6,7,8] Ty.mixed rfl rfl rfl rfl zdk ?_
 refine hmv ?_
 refine hw_pure rfl rfl (v_nilCheck rfl) rfl ?_
 refine hw_read rfl rfl rfl (v_load rfl (Var.at1 Ty.sc178 .here (GetN.lit rfl))) ?_
 refine hmv ?_
 refine hw_pure rfl rfl (v_nilCheck rfl) rfl ?_
 refine hw_read rfl rfl rfl (v_load rfl (Var.at1 Ty.sc178 .here (GetN.lit rfl))) ?_
 refine hw_pure rfl rfl (v_shr rfl rfl zom rfl) rfl ?_
 refine hw_pure rfl rfl (v_xor rfl rfl rfl) rfl ?_
 refine hw_pure rfl rfl (v_nilCheck rfl) rfl ?_
 refine hw_nil ?_
 refine sw_nil ?_
 refine ow_store1 rfl rfl rfl rfl Ty.sc178 .here (SetN.one zdn) ?_
 refine ow_nil ?_
 refine xw_np<|xw_then<|cw_seq ?_
 refine cw_mix [] [9] [0,1,2,3,4,5,6,7,8] Ty.mixed rfl rfl rfl rfl zdk ?_
 refine hmv ?_
 refine hw_pure rfl rfl (v_nilCheck rfl) rfl ?_
 refine hw_read rfl rfl rfl (v_load rfl (Var.at1 Ty.sc178 .here (GetN.lit rfl))) ?_
 refine hmv ?_
 refine hw_pure rfl rfl (v_nilCheck rfl) rfl ?_
 refine hw_read rfl rfl rfl (v_load rfl (Var.at1 Ty.sc178 .here (GetN.lit rfl))) ?_
 refine hw_pure rfl rfl (v_shl rfl rfl zom rfl) rfl ?_
 refine hw_pure rfl rfl (v_xor rfl rfl rfl) rfl ?_
 refine hw_pure rfl rfl (v_nilCheck rfl) rfl ?_
 refine hw_nil ?_
 refine sw_nil ?_
 refine ow_store1 rfl rfl rfl rfl Ty.sc178 .here (SetN.one zdn) ?_
 refine ow_nil ?_
 refine xw_np<|xw_then<|qs<|qm<|qn ?_
 refine ql (Var.at1 Ty.sc178 .here (GetN.lit rfl))<|qa<|qt ?_
 refine cw_ret ?_
 refine ret1 rfl (res_tmp rfl) ?_
 exact⟨_,rfl,bits_u64,zcov⟩
def swQCell (b:Nat)(s:Int):Hp:=[(b,.cells [Value.int .i64 s].toArray 3 (0,0))]
theorem order2Q_c {ao:Option Addr}{n cap a b p:Nat}{l:List Int}{s:Int}{xa xb:Int}(hxa:xa=a)(hxb:xb=b)(hVV:Vw enQ (St B w0 G) (.slice ao n cap) l)(ha:a<l.length)(hb:b<l.length)(hn:l.length≤1000000)(hsel:Sel G (swQCell p s) R):
  Go.Sl.Fn Tryz.prog 130 #[.slice ao n cap,.int .i64 xa,.int .i64 xb,.pointer (some ⟨p,0,none⟩)] B w0 G fun u G'=>∃x:Nat×Nat×Int,u=.tuple #[.int .i64 x.1,.int .i64 x.2.1]∧(x.1=a∧x.2.1=b∨x.1=b∧x.2.1=a)∧G'=R (swQCell p x.2.2):=by
 subst hxa hxb
 have hl:=hVV.len
 subst hl
 refine Fn.sel0 hsel fun F hR hF=>?_
 have hV2:Vw enQ (St B w0 (swQCell p s::F)) (.slice ao l.length cap) l:=hVV.mono hF
 unfold swQCell at hV2⊢
 refine fn_enter Tryz.func130 rfl (by kernel_rfl) Tryz.ntmps130 (by simp) ?_
 refine qs<|qa<|qa<|qt<|cw_seq<|cw_seq ?_
 refine cw_quiet Ty.mixed zdk ?_
 refine kmv ?_
 refine kmv ?_
 refine kw_val rfl rfl (v_indexAddr_vw Tryz.underlying34 (qTy) rfl rfl zas rfl zom) ?_
 refine kv (v_load rfl (Go.Sl.Vw.var (qTy) (hV2) zom)) ?_
 refine kmv ?_
 refine kmv ?_
 refine kw_val rfl rfl (v_indexAddr_vw Tryz.underlying34 (qTy) rfl rfl zas rfl zom) ?_
 refine kv (v_load rfl (Go.Sl.Vw.var (qTy) (hV2) zom)) ?_
 refine kv (v_call rfl rfl (lessQ_c)) ?_
 refine kw_nil<|xw_then ?_
 refine cw_dec rfl (fun hc18=>?_) (fun hc18=>?_)
 refine qs<|qm<|qn ?_
 refine ql (Var.at1 Ty.sc3 .here (GetN.lit rfl)) ?_
 refine qv (v_add rfl rfl rfl)<|qn ?_
 refine ow_store1 rfl rfl rfl rfl Ty.sc3 .here (SetN.one zdn)<|qt<|qs<|qm<|qm<|qa ?_
 refine qa<|qt ?_
 refine cw_ret ?_
 refine xw_then_ret ?_
 refine ret2 rfl (res_tmp rfl) (res_tmp rfl) ?_
 rotate_left
 refine cw_skip<|xw_then<|qs<|qm<|qm<|qa<|qa<|qt ?_
 refine cw_ret ?_
 refine ret2 rfl (res_tmp rfl) (res_tmp rfl) ?_
 rotate_left
 ·exact⟨(b,a,_),rfl,.inr ⟨rfl,rfl⟩,zcov⟩
 ·exact⟨(a,b,_),rfl,.inl ⟨rfl,rfl⟩,zcov⟩
set_option maxHeartbeats 4000000 in
theorem medianQ_c {ao:Option Addr}{n cap a b m p:Nat}{l:List Int}{s:Int}{xa xb xm:Int}(hxa:xa=a)(hxb:xb=b)(hxm:xm=m)(hVV:Vw enQ (St B w0 G) (.slice ao n cap) l)(ha:a<l.length)(hb:b<l.length)(hm:m<l.length)(hn:l.length≤1000000)(hsel:Sel G (swQCell p s) R)(hVR:∀s',Vw enQ (St B w0 (R (swQCell p s'))) (.slice ao n cap) l):
  Go.Sl.Fn Tryz.prog 122 #[.slice ao n cap,.int .i64 xa,.int .i64 xb,.int .i64 xm,.pointer (some ⟨p,0,none⟩)] B w0 G fun u G'=>∃x:Nat×Int,u=.int .i64 x.1∧(x.1=a∨x.1=b∨x.1=m)∧G'=R (swQCell p x.2):=by
 subst hxa hxb hxm
 have hl:=hVV.len
 subst hl
 refine Fn.sel0 hsel fun F hR hF=>?_
 have hV1:Vw enQ (St B w0 (swQCell p s::F)) (.slice ao l.length cap) l:=hVV.mono hF
 have hV2:∀s',Vw enQ (St B w0 (swQCell p s'::F)) (.slice ao l.length cap) l:=fun s'=>(hVR s').mono fun w hw=>hw.perm (hR _).symm
 refine fn_enter Tryz.func122 rfl (by kernel_rfl) Tryz.ntmps122 (by simp) ?_
 refine qs<|qa<|qt<|qs<|qm<|qm<|qm<|qm ?_
 (refine ow_call rfl rfl rfl rfl (order2Q_c rfl rfl hV1 ha hb hn .here) ?_;rintro _ _ ⟨x16,rfl,hq16,rfl⟩)
 refine qm<|qv (v_extract rfl rfl)<|qv (v_extract rfl rfl)<|qa<|qa<|qt<|qs<|qm<|qm<|qm<|qm ?_
 obtain⟨a1,b1,s1⟩:=x16
 dsimp only at hq16⊢
 (refine ow_call rfl rfl rfl rfl (order2Q_c (a:=b1) (b:=m) rfl rfl (hV2 _) zom zom hn .here) ?_;rintro _ _ ⟨x24,rfl,hq24,rfl⟩)
 refine qm<|qv (v_extract rfl rfl)<|qv (v_extract rfl rfl)<|qa<|qa<|qt<|qs<|qm<|qm<|qm<|qm ?_
 obtain⟨b2,m2,s2⟩:=x24
 dsimp only at hq24⊢
 (refine ow_call rfl rfl rfl rfl (order2Q_c (a:=a1) (b:=b2) rfl rfl (hV2 _) zom zom hn .here) ?_;rintro _ _ ⟨x32,rfl,hq32,rfl⟩)
 refine qm<|qv (v_extract rfl rfl)<|qv (v_extract rfl rfl)<|qa<|qa<|qt<|qs<|qm<|qa<|qt<|cw_ret<|ret1 rfl (res_tmp rfl) ?_
 obtain⟨a3,b3,s3⟩:=x32
 dsimp only at hq32⊢
 skip
 exact⟨(b3,s3),rfl,by dsimp only;omega,zcov⟩
theorem medAdjQ_c {ao:Option Addr}{n cap a p:Nat}{l:List Int}{s:Int}{xa:Int}(hxa:xa=a)(hVV:Vw enQ (St B w0 G) (.slice ao n cap) l)(ha0:0<a)(ha:a+1<l.length)(hn:l.length≤1000000)(hsel:Sel G (swQCell p s) R)(hVR:∀s',Vw enQ (St B w0 (R (swQCell p s'))) (.slice ao n cap) l):
  Go.Sl.Fn Tryz.prog 121 #[.slice ao n cap,.int .i64 xa,.pointer (some ⟨p,0,none⟩)] B w0 G fun u G'=>∃x:Nat×Int,u=.int .i64 x.1∧(a-1≤x.1∧x.1≤a+1)∧G'=R (swQCell p x.2):=by
 subst hxa
 have hl:=hVV.len
 subst hl
 refine Fn.sel0 hsel fun F hR hF=>?_
 have hV1:Vw enQ (St B w0 (swQCell p s::F)) (.slice ao l.length cap) l:=hVV.mono hF
 have hV2:∀s',Vw enQ (St B w0 (swQCell p s'::F)) (.slice ao l.length cap) l:=fun s'=>(hVR s').mono fun w hw=>hw.perm (hR _).symm
 refine fn_enter Tryz.func121 rfl (by kernel_rfl) Tryz.ntmps121 (by simp) ?_
 refine qs<|qa<|qt<|qs<|qm<|qm ?_
 refine qv (v_sub rfl rfl (nw_i64 zom zom))<|qm<|qm ?_
 refine qv (v_add rfl rfl (nw_i64 zom zom))<|qm ?_
 (refine ow_call rfl rfl rfl rfl (medianQ_c (a:=a-1) (b:=a) (m:=a+1) zom rfl zom hV1 zom zom zom hn .here hV2) ?_;rintro _ _ ⟨x14,rfl,hq14,rfl⟩)
 refine qa<|qt ?_
 refine cw_ret ?_
 refine ret1 rfl (res_tmp rfl) ?_
 exact⟨x14,rfl,by omega,zcov⟩
set_option maxHeartbeats 4000000 in
theorem pivotQ_c {ao:Option Addr}{n cap a b:Nat}{l:List Int}(hV:∀Y,Vw enQ (St B w0 (Y::G)) (.slice ao n cap) l)(hab:a+8≤b)(hb:b≤l.length)(hn:l.length≤1000000):
  Go.Sl.Fn Tryz.prog 97 #[.slice ao n cap,.int .i64 a,.int .i64 b] B w0 G fun u G'=>∃x:Nat×Int,u=.tuple #[.int .i64 x.1,.int .i64 x.2]∧((a≤x.1∧x.1<b)∧(x.2=0∨x.2=1∨x.2=2))∧G'=G:=by
 have hl:=(hV []).len
 subst hl
 refine Fn.val ?_
 refine fn_enter Tryz.func97 rfl (by kernel_rfl) Tryz.ntmps97 (by simp) ?_
 refine qs<|qa<|qa<|qt<|qs<|qm<|qm ?_
 refine qv (v_sub rfl rfl (nw_i64 zom zom))<|qa<|qt<|qs ?_
 refine ow_alloc rfl rfl Ty.ze3 fun b9=>?_
 refine qt<|qs<|qm<|qm ?_
 refine qv (v_quoP_i64 rfl rfl zom zom zom) ?_
 refine qv (v_mul rfl rfl (nw_i64 zom zom)) ?_
 refine qv (v_add rfl rfl (nw_i64 zom zom))<|qa<|qt<|qs<|qm<|qm ?_
 refine qv (v_quoP_i64 rfl rfl zom zom zom) ?_
 refine qv (v_mul rfl rfl (nw_i64 zom zom)) ?_
 refine qv (v_add rfl rfl (nw_i64 zom zom))<|qa<|qt<|qs<|qm<|qm ?_
 refine qv (v_quoP_i64 rfl rfl zom zom zom) ?_
 refine qv (v_mul rfl rfl (nw_i64 zom zom)) ?_
 refine qv (v_add rfl rfl (nw_i64 zom zom))<|qa ?_
 refine qt ?_
 obtain⟨q,hq⟩:∃q:Nat,((b:Int)-a)/4=(q:Int):=⟨(b-a)/4,by omega⟩
 rw[hq]
 have h1:4*q≤b-a∧b-a<4*q+4:=by omega
 have hVR:∀s',Vw enQ (St B w0 (swQCell b9 s'::G)) (.slice ao l.length cap) l:=fun s'=>hV _
 refine cw_cov (swQCell b9 0::G) (Cov.refl _) ?_
 refine cw_seq<|qs<|qm ?_
 refine qv (v_geq rfl rfl)<|qt ?_
 refine cw_dec rfl (fun hc32=>?_) (fun hc32=>?_)
 rotate_left;(exfalso;omega);rotate_right
 refine cw_cut2 (ι:=((Nat×Nat×Nat×Int))) [(0,_),(6,_),(7,_),(9,_)] ⟨rfl,rfl,rfl,rfl,trivial⟩ ((fun x=>[(10,.int .i64 x.1),(11,.int .i64 x.2.1),(12,.int .i64 x.2.2.1)])) ((fun x=>(a≤x.1∧x.1<b)∧(a≤x.2.1∧x.2.1<b)∧(a≤x.2.2.1∧x.2.2.1<b))) ((fun x=>swQCell b9 x.2.2.2::G)) ?_ ?_
 ·refine cw_seq ?_
  refine cw_region<|qm ?_
  refine qv (v_geq rfl rfl)<|qt ?_
  refine cw_dec rfl (fun hc34=>?_) (fun hc34=>?_)
  refine qs<|qm<|qm ?_
  (refine ow_call rfl rfl rfl rfl (medAdjQ_c (a:=a+q) zom (hVR _) zom zom hn .here hVR) ?_;rintro _ _ ⟨x37,rfl,hq37,rfl⟩)
  refine qa<|qt<|qs<|qm<|qm ?_
  rotate_left
  refine cw_skip ?_
  rotate_left
  ·(refine ow_call rfl rfl rfl rfl (medAdjQ_c (a:=a+q*2) zom (hVR _) zom zom hn .here hVR) ?_;rintro _ _ ⟨x40,rfl,hq40,rfl⟩)
   refine qa<|qt<|cw_region<|qm<|qm ?_
   (refine ow_call rfl rfl rfl rfl (medAdjQ_c (a:=a+q*3) zom (hVR _) zom zom hn .here hVR) ?_;rintro _ _ ⟨x43,rfl,hq43,rfl⟩)
   refine qa<|ow_nil ?_
   exact xw_joint ((x37.1,x40.1,x43.1,x43.2):Nat×Nat×Nat×Int) ⟨by dsimp only;omega,by dsimp only;omega,by dsimp only;omega⟩ zcov (by repeat (first|exact True.intro|refine And.intro rfl ?_|refine And.intro (congrArg (fun z:Int=>some (Value.int IntKind.i64 z)) (by (try dsimp only);omega)) ?_))
  ·exact xw_joint ((a+q,a+q*2,a+q*3,0):Nat×Nat×Nat×Int) ⟨by dsimp only;omega,by dsimp only;omega,by dsimp only;omega⟩ zcov (by repeat (first|exact True.intro|refine And.intro rfl ?_|refine And.intro (congrArg (fun z:Int=>some (Value.int IntKind.i64 z)) (by (try dsimp only);omega)) ?_))
 rintro⟨i,j,k,s⟩ ⟨hi,hj,hk⟩
 dsimp only at hi hj hk⊢
 refine cw_region<|qm<|qm<|qm<|qm ?_
 (refine ow_call rfl rfl rfl rfl (medianQ_c (a:=i) (b:=j) (m:=k) rfl rfl rfl (hVR _) zom zom zom hn .here hVR) ?_;rintro _ _ ⟨x48,rfl,hq48,rfl⟩)
 refine qa<|qt ?_
 obtain⟨v,s2⟩:=x48
 dsimp only at hq48⊢
 unfold swQCell
 refine qs ?_
 refine ql (Var.at1 Ty.sc3 .here (GetN.lit rfl))<|qt ?_
 refine cw_block<|qs ?_
 refine qv (v_eql rfl rfl)<|qa<|qt ?_
 refine cw_dec rfl (fun hc51=>?_) (fun hc51=>?_)
 refine qs<|qm<|qa<|qa<|qt ?_
 refine cw_ret ?_
 refine xw_block_ret ?_
 refine ret2 rfl (res_tmp rfl) (res_tmp rfl) ?_
 rotate_left
 refine qs ?_
 refine qv (v_eql rfl rfl)<|qa<|qt ?_
 refine cw_dec rfl (fun hc54=>?_) (fun hc54=>?_)
 refine qs<|qm<|qa<|qa<|qt ?_
 refine cw_ret ?_
 refine xw_block_ret ?_
 refine ret2 rfl (res_tmp rfl) (res_tmp rfl) ?_
 rotate_left
 refine qs<|qm<|qa<|qa<|qt ?_
 refine cw_ret ?_
 refine xw_block_ret ?_
 refine ret2 rfl (res_tmp rfl) (res_tmp rfl) ?_
 rotate_left
 ·exact⟨(v,1),rfl,⟨by dsimp only;omega,.inr (.inl rfl)⟩,zcov⟩
 ·exact⟨(v,2),rfl,⟨by dsimp only;omega,.inr (.inr rfl)⟩,zcov⟩
 ·exact⟨(v,0),rfl,⟨by dsimp only;omega,.inl rfl⟩,zcov⟩
set_option maxHeartbeats 4000000 in
theorem breakQ_c {ao:Option Addr}{n cap a b:Nat}{c:Hp}{d:Array Int}(hsel:Sel G c R)(hL:Ls enQ 27 (.slice ao n cap) c d.toList)(hab:a+8≤b)(hb:b≤d.size)(hn:d.size<60000):
  Go.Sl.Fn Tryz.prog 96 #[.slice ao n cap,.int .i64 a,.int .i64 b] B w0 G fun u G'=>∃x:Array Int×Hp,u=.tuple #[]∧(Sort.PermIn a b d x.1∧Ls enQ 27 (.slice ao n cap) x.2 x.1.toList)∧G'=R x.2:=by
 refine Fn.sel0 hsel fun F hR hF=>?_
 have hl:=hL.len
 rw[Array.length_toList]at hl
 subst hl
 refine fn_enter Tryz.func96 rfl (by kernel_rfl) Tryz.ntmps96 (by simp) ?_
 refine qs<|qm<|qm ?_
 refine qv (v_sub rfl rfl (nw_i64 zom zom))<|qa<|qt<|qs<|qm ?_
 refine qv (v_geq rfl rfl)<|qt ?_
 refine cw_dec rfl (fun hc15=>?_) (fun hc15=>?_)
 rotate_left;(exfalso;omega);rotate_right
 refine qs<|qm ?_
 refine qv (v_convert Tryz.underlying3 Tryz.underlying178 rfl (nw_u64 zom zom)) ?_
 refine ow_alloc rfl rfl Ty.ze178 fun b7=>?_
 refine ow_store1 rfl rfl rfl rfl Ty.sc178 .here (SetN.one zdn)<|qt<|qs<|qm ?_
 (refine ow_call rfl rfl rfl rfl (pow2_c (n:=b-a) zom zom zom) ?_;rintro _ _ ⟨x19,rfl,hq19,rfl⟩)
 refine qa<|qt ?_
 obtain⟨m,hm⟩:∃m,x19=m:=⟨_,rfl⟩
 rw[hm]at hq19⊢
 refine cw_cov (xsCell b7 ((b:Int)-a)::c::F) (Cov.refl _) ?_
 obtain⟨q,hq⟩:∃q:Nat,((b:Int)-a)/4=(q:Int):=⟨(b-a)/4,by omega⟩
 have h1:4*q≤b-a∧b-a<4*q+4:=by omega
 refine qs<|qm<|qm ?_
 refine qv (v_quoP_i64 rfl rfl zom zom zom) ?_
 refine qv (v_mul rfl rfl (nw_i64 zom zom)) ?_
 refine qv (v_add rfl rfl (nw_i64 zom zom)) ?_
 refine qv (v_sub rfl rfl (nw_i64 zom zom))<|qa<|qt ?_
 refine cw_block ?_
 rw[hq]
 refine cw_env ((0,.slice ao d.size cap)::(1,.int .i64 a)::(2,.int .i64 b)::(6,.int .i64 ((b:Int)-a))::(7,.pointer (some ⟨b7,0,none⟩))::(8,.int .u64 m)::(9,.int .i64 ((a+q*2-1:Nat):Int))::[]) (by repeat (first|exact True.intro|refine And.intro rfl ?_|refine And.intro (congrArg (fun z:Int=>some (Value.int IntKind.i64 z)) (by (try dsimp only);omega)) ?_)) ?_
 refine cw_loop2 (ι:=((Nat×Int×Array Int×Hp))) [(0,_),(1,_),(6,_),(7,_),(8,_)] ⟨rfl,rfl,rfl,rfl,rfl,trivial⟩ ((fun x=>[(9,.int .i64 x.1)])) ((fun x=>a≤x.1∧x.1≤a+q*2+2∧Sort.PermIn a b d x.2.2.1∧Ls enQ 27 (.slice ao d.size cap) x.2.2.2 x.2.2.1.toList)) ((fun x=>a+q*2+2-x.1)) ((fun x=>xsCell b7 x.2.1::x.2.2.2::F)) (((a+q*2-1,(b:Int)-a,d,c):Nat×Int×Array Int×Hp)) zenv zcov ?_ ?_
 ·exact⟨by dsimp only;omega,by dsimp only;omega,Sort.permIn_refl _ _ _,hL⟩
 rintro⟨i,r,d1,c1⟩ ⟨hi1,hi2,hP,hL1⟩
 dsimp only at hi1 hi2 hP hL1⊢
 have hl1:d1.toList.length=d.size:=by rw[Array.length_toList];exact hP.1
 refine cw_seq<|qs<|qm<|qm<|qm ?_
 refine qv (v_quoP_i64 rfl rfl zom zom zom) ?_
 refine qv (v_mul rfl rfl (nw_i64 zom zom)) ?_
 refine qv (v_add rfl rfl (nw_i64 zom zom)) ?_
 refine qv (v_add rfl rfl (nw_i64 zom zom)) ?_
 refine qv (v_leq rfl rfl)<|qt ?_
 refine cw_dec rfl (fun hc33=>?_) (fun hc33=>?_)
 refine cw_skip<|xw_then ?_
 rotate_left
 refine cw_exit ?_
 refine xw_then_exit ?_
 refine xw_round_exit ?_
 refine xw_block_exit ?_
 refine ret0n rfl ?_
 rotate_left
 ·rw[hq]at hc33
  refine cw_seq ?_
  refine cw_block<|qs ?_
  (refine ow_call rfl rfl rfl rfl (pdqNext_c .here) ?_;rintro _ _ ⟨x36,rfl,hq36,rfl⟩)
  refine qm ?_
  refine qv (v_sub rfl rfl (nw_u64 zom zom)) ?_
  refine qv (v_and rfl rfl rfl) ?_
  refine qv (v_convert Tryz.underlying99 Tryz.underlying3 rfl rfl)<|qa<|qt ?_
  have hand:=Go.Sl.and_le (k:=.u64) rfl (x:=x36) (y:=(m:Int)-1) zom
  generalize hz:Go.Sl.bitsOf .and .u64 x36 ((m:Int)-1)=z at *
  rw[show IntKind.i64.wrap z=z from nw_i64 zom zom]
  refine cw_cut2 (ι:=(Nat)) [(0,_),(1,_),(6,_),(7,_),(8,_),(9,_)] ⟨rfl,rfl,rfl,rfl,rfl,rfl,trivial⟩ ((fun o=>[(10,.int .i64 o)])) ((fun o=>o<b-a)) ((fun _=>xsCell b7 x36::c1::F)) ?_ ?_
  ·refine cw_seq ?_
   refine cw_region<|qm<|qm ?_
   refine qv (v_geq rfl rfl)<|qt ?_
   refine cw_dec rfl (fun hc43=>?_) (fun hc43=>?_)
   refine cw_region<|qm<|qm ?_
   refine qv (v_sub rfl rfl (nw_i64 zom zom))<|qa<|ow_nil ?_
   rotate_left
   refine cw_skip ?_
   rotate_left
   ·exact xw_joint (z-((b:Int)-a)).toNat zom zcov (by repeat (first|exact True.intro|refine And.intro rfl ?_|refine And.intro (congrArg (fun z:Int=>some (Value.int IntKind.i64 z)) (by (try dsimp only);omega)) ?_))
   ·exact xw_joint z.toNat zom zcov (by repeat (first|exact True.intro|refine And.intro rfl ?_|refine And.intro (congrArg (fun z:Int=>some (Value.int IntKind.i64 z)) (by (try dsimp only);omega)) ?_))
  rintro o ho
  refine cw_mix [] [17,18,19] [0,1,2,3,4,5,6,7,8,9,10,11,12,13,14,15,16] Ty.mixed rfl rfl rfl rfl zdk ?_
  refine hmv ?_
  refine hmv ?_
  refine hmv ?_
  refine hmv ?_
  refine hmv ?_
  refine hw_pure rfl rfl (v_add rfl rfl (nw_i64 zom zom)) rfl ?_
  refine hmv ?_
  refine hmv ?_
  refine hmv ?_
  refine hw_pure rfl rfl (v_add rfl rfl (nw_i64 zom zom)) rfl ?_
  refine hw_pure rfl rfl (v_indexAddr_ls Tryz.underlying34 (qTy) rfl rfl zas rfl zom) rfl ?_
  refine hw_read rfl rfl rfl (v_load rfl (Go.Sl.Vw.var (qTy) ((hL1.vw zhas)) zom)) ?_
  refine hmv ?_
  refine hmv ?_
  refine hw_pure rfl rfl (v_indexAddr_ls Tryz.underlying34 (qTy) rfl rfl zas rfl zom) rfl ?_
  refine hw_read rfl rfl rfl (v_load rfl (Go.Sl.Vw.var (qTy) ((hL1.vw zhas)) zom)) ?_
  refine hw_pure rfl rfl (v_indexAddr_ls Tryz.underlying34 (qTy) rfl rfl zas rfl zom) rfl ?_
  refine hw_nil ?_
  refine sw_nil ?_
  refine ow_storeL (i:=i) (a:=d1.toList[((a:Int)+(o:Int)).toNat]'zom) rfl rfl rfl qTy hL1 zsel zom (hL1.ok _ (List.getElem_mem _)) ?_
  intro csa hLsa
  have hlsa:(d1.toList.set i (d1.toList[((a:Int)+(o:Int)).toNat]'zom)).length=d1.toList.length:=List.length_set
  refine ow_val rfl rfl (v_indexAddr_ls Tryz.underlying34 (qTy) rfl rfl zas rfl zom) ?_
  refine ow_storeL (i:=((a:Int)+(o:Int)).toNat) (a:=d1.toList[i]'zom) rfl rfl rfl qTy hLsa zsel (by rw[List.length_set];omega) (hL1.ok _ (List.getElem_mem _)) ?_
  intro cs hLs
  rw[swpL (i':=i) (j':=a+o) (bangD _ zom) (bangD _ zom) zom zom]at hLs
  refine ow_nil ?_
  refine xw_np ?_
  refine xw_block<|xw_then<|cw_region<|qm ?_
  refine qv (v_add rfl rfl (nw_i64 zom zom))<|qa<|ow_nil ?_
  exact xw_round ((i+1,x36,Sort.swp d1 i (a+o),cs):Nat×Int×Array Int×Hp) ⟨by dsimp only;omega,by dsimp only;omega,Sort.permIn_trans _ _ _ _ _ hP (Sort.swp_permIn _ _ _ _ _ zom zom zom zom (by rw[hP.1];omega)),hLs⟩ zdo zcov zenv
 ·skip
  exact⟨(d1,c1),rfl,⟨hP,hL1⟩,zcov⟩
end Go.Proofs.YtnlaffkihohfkaaGreat
namespace Go.Proofs.YtnlaffkihohfkaaGreat
open Go Go.Sl Go.Proofs
variable {B:Nat}{w0:World}{G:List Hp}{R:Hp→List Hp}
structure PdG where
 a:Nat
 b:Nat
 l:Int
 wb:Bool
 wp:Bool
 d:Array Int
 c:Hp
set_option maxHeartbeats 16000000 in
theorem pdqQ_c:∀(M:Nat) {B:Nat} {w0:World} {G:List Hp} {R:Hp→List Hp} {ao:Option Addr} {n cap a b:Nat} {limit:Int} {xa xb:Int} {c:Hp} {d:Array Int} (hxa:xa=a) (hxb:xb=b) (hsel:Sel G c R) (hL:Ls enQ 27 (.slice ao n cap) c d.toList) (hM:b-a≤M) (hab:a≤b) (hb:b≤d.size) (hn:d.size<60000) (hB:Sort.Below Sort.ltInt a b d) (hlim:0≤limit∧limit≤1000),
  Go.Sl.Fn Tryz.prog 67 #[.slice ao n cap,.int .i64 xa,.int .i64 xb,.int .i64 limit] B w0 G fun u G'=>∃x:Array Int×Hp,u=.tuple #[]∧(Sort.PermIn a b d x.1∧Sort.SortedIn Sort.ltInt a b x.1∧Ls enQ 27 (.slice ao n cap) x.2 x.1.toList)∧G'=R x.2:=by
 intro M
 induction M using Nat.strongRecOn with
 |_ M ih=>
 intro B w0 G R ao n cap a b limit xa xb c d hxa hxb hsel hL hM hab hb hn hB hlim
 subst hxa hxb
 refine Fn.sel0 hsel fun F hR hF=>?_
 have hl:=hL.len
 rw[Array.length_toList]at hl
 subst hl
 refine fn_enter Tryz.func67 rfl (by kernel_rfl) Tryz.ntmps67 (by simp) ?_
 refine qs<|qa<|qt<|qs<|qa<|qt ?_
 refine cw_block ?_
 refine cw_loop2 (ι:=(PdG)) [(0,_)] ⟨rfl,trivial⟩ ((fun x=>[(1,.int .i64 x.a),(2,.int .i64 x.b),(3,.int .i64 x.l),(8,.bool x.wb),(9,.bool x.wp)])) ((fun x=>x.a≤x.b∧x.b≤d.size∧x.b-x.a≤M∧x.d.size=d.size∧Sort.Below Sort.ltInt x.a x.b x.d∧(0≤x.l∧x.l≤1000)∧(∀d',Sort.PermIn x.a x.b x.d d'→Sort.SortedIn Sort.ltInt x.a x.b d'→Sort.PermIn a b d d'∧Sort.SortedIn Sort.ltInt a b d')∧Ls enQ 27 (.slice ao d.size cap) x.c x.d.toList)) ((fun x=>x.b-x.a)) ((fun x=>x.c::F)) ((⟨a,b,limit,true,true,d,c⟩:PdG)) zenv zcov ?_ ?_
 ·exact⟨hab,hb,hM,rfl,hB,hlim,fun d' h1 h2=>⟨h1,h2⟩,hL⟩
 rintro⟨p,q,l,wb,wp,d1,c1⟩ ⟨hpq,hq,hM1,hsz,hB1,hl1,hQ,hL1⟩
 dsimp only at hpq hq hM1 hsz hB1 hl1 hQ hL1⊢
 have hlen:∀d':Array Int,d'.size=d.size→d'.toList.length=d.size:=fun d' h=>by rw[Array.length_toList];exact h
 refine cw_block<|qs<|qm<|qm ?_
 refine qv (v_sub rfl rfl (nw_i64 zom zom))<|qa<|qt<|cw_seq<|qs<|qm ?_
 refine qv (v_leq rfl rfl)<|qt ?_
 refine cw_dec rfl (fun hc23=>?_) (fun hc23=>?_)
 rotate_left
 refine cw_skip<|xw_then<|cw_seq<|qs<|qm ?_
 refine qv (v_eql rfl rfl)<|qt ?_
 refine cw_dec rfl (fun hc29=>?_) (fun hc29=>?_)
 rotate_left
 refine cw_skip<|xw_then ?_
 rotate_left
 ·refine cw_seq ?_
  refine cw_region<|qm<|qm<|qm ?_
  (refine ow_call rfl rfl rfl rfl (insertionQ_c (a:=p) (b:=q) .here hL1 hpq zom zom) ?_;rintro _ _ ⟨x27,rfl,hq27,rfl⟩)
  refine qt ?_
  refine cw_ret ?_
  refine xw_then_ret ?_
  refine xw_block_ret ?_
  refine xw_round_ret ?_
  refine xw_block_ret ?_
  refine ret0 rfl ?_
  have h:=Sort.insertionSort_holds Sort.swo_ltInt d1 p q hpq zom
  have h2:=hQ _ h.1 h.2
  exact⟨(_,x27),rfl,⟨h2.1,h2.2,hq27⟩,zcov⟩
 ·refine cw_seq ?_
  refine cw_region<|qm<|qm<|qm ?_
  (refine ow_call rfl rfl rfl rfl (heapQ_c (a:=p) (b:=q) .here hL1 zom zom zom) ?_;rintro _ _ ⟨x33,rfl,hq33,rfl⟩)
  refine qt ?_
  refine cw_ret ?_
  refine xw_then_ret ?_
  refine xw_block_ret ?_
  refine xw_round_ret ?_
  refine xw_block_ret ?_
  refine ret0 rfl ?_
  have h:=Sort.heapSort_holds Sort.swo_ltInt d1 p q hpq zom
  have h2:=hQ _ h.1 h.2
  exact⟨(_,x33),rfl,⟨h2.1,h2.2,hq33⟩,zcov⟩
 refine cw_cut2 (ι:=((Array Int×Int×Hp))) [(0,_),(1,_),(2,_),(8,_),(9,_),(10,_)] ⟨rfl,rfl,rfl,rfl,rfl,rfl,trivial⟩ ((fun x=>[(3,.int .i64 x.2.1)])) ((fun x=>Sort.PermIn p q d1 x.1∧(0≤x.2.1∧x.2.1≤1000)∧Ls enQ 27 (.slice ao d.size cap) x.2.2 x.1.toList)) ((fun x=>x.2.2::F)) ?_ ?_
 ·refine cw_seq ?_
  refine cw_region<|qm ?_
  refine qv (v_not_bool rfl)<|qt ?_
  refine cw_bool rfl (fun hc35=>?_) (fun hc35=>?_)
  refine qs<|qm<|qm<|qm ?_
  (refine ow_call rfl rfl rfl rfl (breakQ_c (a:=p) (b:=q) .here hL1 zom zom zom) ?_;rintro _ _ ⟨x39,rfl,hq39,rfl⟩)
  refine qt<|cw_region<|qm ?_
  refine qv (v_sub rfl rfl (nw_i64 zom zom))<|qa<|ow_nil ?_
  rotate_left
  refine cw_skip ?_
  rotate_left
  ·exact xw_joint ((x39.1,l-1,x39.2):Array Int×Int×Hp) ⟨hq39.1,by dsimp only;omega,hq39.2⟩ zcov zenv
  ·exact xw_joint ((d1,l,c1):Array Int×Int×Hp) ⟨Sort.permIn_refl _ _ _,hl1,hL1⟩ zcov zenv
 rintro⟨d2,l2,c2⟩ ⟨hP2,hl2,hL2⟩
 dsimp only at hP2 hl2 hL2⊢
 have hs2:=hP2.1.trans hsz
 have hn2:=hlen d2 hs2
 refine qs<|qm<|qm<|qm ?_
 (refine ow_call rfl rfl rfl rfl (pivotQ_c (a:=p) (b:=q) (fun Y=>hL2.vw zhas) zom zom zom) ?_;rintro _ _ ⟨x46,rfl,hq46,rfl⟩)
 refine qm ?_
 refine qv (v_extract rfl rfl) ?_
 refine qv (v_extract rfl rfl)<|qa<|qa<|qt ?_
 obtain⟨pv,hint⟩:=x46
 obtain⟨hpv,hhint⟩:=hq46
 dsimp only at hpv hhint⊢
 refine cw_cut2 (ι:=((Nat×Int×Array Int×Hp))) [(0,_),(1,_),(2,_),(3,_),(8,_),(9,_),(10,_)] ⟨rfl,rfl,rfl,rfl,rfl,rfl,rfl,trivial⟩ ((fun x=>[(11,.int .i64 x.1),(12,.int .i64 x.2.1)])) ((fun x=>Sort.PermIn p q d1 x.2.2.1∧(p≤x.1∧x.1<q)∧(x.2.1=0∨x.2.1=1)∧Ls enQ 27 (.slice ao d.size cap) x.2.2.2 x.2.2.1.toList)) ((fun x=>x.2.2.2::F)) ?_ ?_
 ·refine cw_seq ?_
  refine cw_region<|qm ?_
  refine qv (v_eql rfl rfl)<|qt ?_
  refine cw_dec rfl (fun hc50=>?_) (fun hc50=>?_)
  refine qs<|qm<|qm<|qm ?_
  (refine ow_call rfl rfl rfl rfl (revRQ_c (a:=p) (b:=q) .here hL2 zom zom zom) ?_;rintro _ _ ⟨x54,rfl,hq54,rfl⟩)
  refine qt<|qs<|qm ?_
  refine qv (v_sub rfl rfl (nw_i64 zom zom))<|qm<|qm ?_
  refine qv (v_sub rfl rfl (nw_i64 zom zom)) ?_
  refine qv (v_sub rfl rfl (nw_i64 zom zom))<|qa<|qt<|cw_region<|qa ?_
  refine ow_nil ?_
  rotate_left
  refine cw_skip ?_
  rotate_left
  ·have h:=Sort.reverseRange_holds d2 p q hpq zom
   exact xw_joint ((q-1-(pv-p),1,Sort.reverseRange d2 p q,x54):Nat×Int×Array Int×Hp) ⟨Sort.permIn_trans _ _ _ _ _ hP2 h,by dsimp only;omega,.inr rfl,hq54⟩ zcov (by repeat (first|exact True.intro|refine And.intro rfl ?_|refine And.intro (congrArg (fun z:Int=>some (Value.int IntKind.i64 z)) (by (try dsimp only);omega)) ?_))
  ·exact xw_joint ((pv,hint,d2,c2):Nat×Int×Array Int×Hp) ⟨hP2,hpv,by dsimp only;omega,hL2⟩ zcov zenv
 rintro⟨pv,hint,d3,c3⟩ ⟨hP3,hpv,hhint,hL3⟩
 dsimp only at hP3 hpv hhint hL3⊢
 have hs3:=hP3.1.trans hsz
 have hn3:=hlen d3 hs3
 have hB3:=hB1.perm zom hP3
 skip
 refine cw_cut2 (ι:=((Array Int×Hp))) [(0,_),(1,_),(2,_),(3,_),(8,_),(9,_),(10,_),(11,_)] ⟨rfl,rfl,rfl,rfl,rfl,rfl,rfl,rfl,trivial⟩ ((fun _=>[])) ((fun x=>Sort.PermIn p q d1 x.1∧Ls enQ 27 (.slice ao d.size cap) x.2 x.1.toList)) ((fun x=>x.2::F)) ?_ ?_
 ·have h:=Sort.partialInsertionSort_holds Sort.swo_ltInt d3 p q zom zom hB3
  have h2:=Sort.permIn_trans _ _ _ _ _ hP3 h.1
  refine qs<|qm<|qm ?_
  refine ow_bool 62 rfl (fun hc62=>?_) (fun hc62=>?_)
  refine qm ?_
  refine qv (v_pick_true rfl rfl)<|qm ?_
  refine ow_bool 65 rfl (fun hc65=>?_) (fun hc65=>?_)
  refine qm ?_
  refine qv (v_eql rfl rfl) ?_
  refine qv (v_pick_true rfl rfl)<|qt ?_
  refine cw_dec rfl (fun hc68=>?_) (fun hc68=>?_)
  refine qs<|qm<|qm<|qm ?_
  (refine ow_call rfl rfl rfl rfl (pinsQ_c (a:=p) (b:=q) .here hL3 zom zom zom) ?_;rintro _ _ ⟨x72,rfl,hq72,rfl⟩)
  refine qt ?_
  refine cw_bool rfl (fun hc72=>?_) (fun hc72=>?_)
  refine cw_ret ?_
  refine xw_joint_ret ?_
  refine xw_block_ret ?_
  refine xw_round_ret ?_
  refine xw_block_ret ?_
  refine ret0 rfl ?_
  rotate_left
  refine cw_skip ?_
  rotate_left
  refine cw_skip ?_
  rotate_left
  refine qk ?_
  refine qk ?_
  refine qv (v_pick_false rfl rfl)<|qt ?_
  refine cw_false rfl<|cw_skip ?_
  rotate_left
  refine qk ?_
  refine qv (v_pick_false rfl rfl)<|qm ?_
  refine qk ?_
  refine qk ?_
  refine qv (v_pick_false rfl rfl)<|qt ?_
  refine cw_false rfl<|cw_skip ?_
  rotate_left
  ·have h3:=hQ _ h2 (h.2 hc72)
   exact⟨(_,x72),rfl,⟨h3.1,h3.2,hq72⟩,zcov⟩
  ·exact xw_joint ((_,x72):Array Int×Hp) ⟨h2,hq72⟩ zcov zenv
  ·exact xw_joint ((d3,c3):Array Int×Hp) ⟨hP3,hL3⟩ zcov zenv
  ·exact xw_joint ((d3,c3):Array Int×Hp) ⟨hP3,hL3⟩ zcov zenv
  ·exact xw_joint ((d3,c3):Array Int×Hp) ⟨hP3,hL3⟩ zcov zenv
 clear hP3 hL3 hn3 hB3 hs3 d3 c3 hP2 hL2 hn2 hs2 d2 c2
 rintro⟨d4,c4⟩ ⟨hP4,hL4⟩
 dsimp only at hP4 hL4⊢
 have hs4:=hP4.1.trans hsz
 have hn4:=hlen d4 hs4
 have hB4:=hB1.perm zom hP4
 have hQ4:∀d',Sort.PermIn p q d4 d'→Sort.SortedIn Sort.ltInt p q d'→Sort.PermIn a b d d'∧Sort.SortedIn Sort.ltInt a b d':=fun d' h1 h2=>hQ d' (Sort.permIn_trans _ _ _ _ _ hP4 h1) h2
 skip
 refine cw_cut2 (ι:=(Unit)) [(0,_),(2,_),(3,_),(8,_),(9,_),(10,_),(11,_)] ⟨rfl,rfl,rfl,rfl,rfl,rfl,rfl,trivial⟩ ((fun _=>[(1,.int .i64 p)])) ((fun _:Unit=>True)) ((fun _=>c4::F)) ?_ ?_
 ·rcases hpe:Sort.partitionEqual Sort.ltInt d4 p q pv with⟨mid,d5⟩
  have hE:=partEQ_c (B:=B) (w0:=w0) (a:=p) (b:=q) (pv:=pv) (G:=c4::F) .here hL4 hpv.1 hpv.2 zom zom
  rw[hpe]at hE
  dsimp only at hE
  refine cw_seq ?_
  refine cw_quiet Ty.mixed zdk ?_
  refine kmv ?_
  refine kv (v_gtr rfl rfl) ?_
  refine kmv ?_
  refine kw_dec 75 rfl (fun hc75=>?_) (fun hc75=>?_)
  refine kmv ?_
  refine kmv ?_
  refine kv (v_sub rfl rfl (nw_i64 zom zom)) ?_
  refine kw_val rfl rfl (v_indexAddr_ls Tryz.underlying34 (qTy) rfl rfl zas (Int.toNat_of_nonneg zom).symm zom) ?_
  refine kv (v_load rfl (Go.Sl.Vw.var (qTy) ((hL4.vw zhas)) zom)) ?_
  refine kmv ?_
  refine kmv ?_
  refine kw_val rfl rfl (v_indexAddr_ls Tryz.underlying34 (qTy) rfl rfl zas rfl zom) ?_
  refine kv (v_load rfl (Go.Sl.Vw.var (qTy) ((hL4.vw zhas)) zom)) ?_
  refine kv (v_call rfl rfl (lessQ_c)) ?_
  refine kv (v_not rfl) ?_
  refine kv (v_pick_true rfl rfl) ?_
  refine kw_nil<|xw_then ?_
  refine cw_dec rfl (fun hc87=>?_) (fun hc87=>?_)
  rotate_left
  refine cw_skip ?_
  rotate_left
  refine kk ?_
  refine kk ?_
  refine kk ?_
  refine kk ?_
  refine kk ?_
  refine kk ?_
  refine kk ?_
  refine kk ?_
  refine kk ?_
  refine kk ?_
  refine kk ?_
  refine kv (v_pick_false rfl rfl) ?_
  refine kw_nil<|xw_then ?_
  refine cw_false rfl<|cw_skip ?_
  rotate_left
  ·rw[bangD (i:=p-1) _ zom,bangD (i:=pv) _ rfl]at hc87
   obtain⟨r1,r2,r3,r4,r5⟩:=Sort.round_eq Sort.swo_ltInt (Sort.partitionEqual_holds Sort.ltInt) zom hpv.1 hpv.2 zom hB4 (by simpa [Sort.ltInt] using hc87) hpe
   refine qs<|qm<|qm<|qm<|qm ?_
   (refine ow_call rfl rfl rfl rfl (hE) ?_;rintro _ _ ⟨x92,rfl,hq92,rfl⟩)
   refine qa<|qt<|qs<|qm<|qa<|qt ?_
   refine cw_exit ?_
   refine xw_joint_exit ?_
   refine xw_block_exit ?_
   exact xw_round (⟨mid,q,l2,wb,wp,d5,x92⟩:PdG) ⟨r2,hq,by dsimp only;omega,r3.trans hs4,r4,hl2,fun d' h1 h2=>by have h3:=r5 d' h1 h2;exact hQ4 d' h3.1 h3.2,hq92⟩ zdo zcov zenv
  ·exact xw_joint () trivial zcov zenv
  ·exact xw_joint () trivial zcov zenv
 rintro⟨⟩ -
 rcases hpt:Sort.partition Sort.ltInt d4 p q pv with⟨mid,ap,d5⟩
 have hE:=partQ_c (B:=B) (w0:=w0) (a:=p) (b:=q) (pv:=pv) (G:=c4::F) .here hL4 hpv.1 hpv.2 zom zom
 rw[hpt]at hE
 dsimp only at hE
 obtain⟨r1,r2,r3,r4,r5,r6,r7⟩:=Sort.round_part Sort.swo_ltInt (Sort.partition_holds Sort.ltInt) hpv.1 hpv.2 zom hB4 hpt
 have hs5:d5.size=d.size:=r3.trans hs4
 refine qs<|qm<|qm<|qm<|qm ?_
 (refine ow_call rfl rfl rfl rfl (hE) ?_;rintro _ _ ⟨x99,rfl,hq99,rfl⟩)
 refine qm ?_
 refine qv (v_extract rfl rfl) ?_
 refine qv (v_extract rfl rfl)<|qa<|qa<|qt<|qs<|qm<|qa<|qt<|qs<|qm ?_
 refine qm ?_
 refine qv (v_sub rfl rfl (nw_i64 zom zom))<|qm<|qm ?_
 refine qv (v_sub rfl rfl (nw_i64 zom zom))<|qa<|qa<|qt<|qs<|qm ?_
 refine qv (v_quoP_i64 rfl rfl zom zom zom)<|qa ?_
 refine qt<|qs<|qm<|qm ?_
 refine qv (v_lss rfl rfl)<|qt ?_
 refine cw_dec rfl (fun hc113=>?_) (fun hc113=>?_)
 refine qs<|qm<|qm ?_
 refine qv (v_geq rfl rfl)<|qa<|qt<|qs<|qm<|qm<|qm<|qm ?_
 rotate_left
 refine qs<|qm<|qm ?_
 refine qv (v_geq rfl rfl)<|qa<|qt<|qs<|qm<|qm ?_
 refine qv (v_add rfl rfl (nw_i64 zom zom))<|qm<|qm ?_
 rotate_left
 ·(refine ow_call rfl rfl rfl rfl (ih (mid-p) zom (a:=p) (b:=mid) rfl rfl .here hq99 (Nat.le_refl _) r1 zom zom r4 hl2) ?_;rintro _ _ ⟨x121,rfl,hq121,rfl⟩)
  refine qt<|cw_region<|qm ?_
  refine qv (v_add rfl rfl (nw_i64 zom zom))<|qa<|ow_nil ?_
  refine xw_block ?_
  obtain⟨d6,c6⟩:=x121
  obtain⟨hP6,hS6,hL6⟩:=hq121
  obtain⟨s1,s2⟩:=r6 d6 hP6 hS6
  exact xw_round (⟨mid+1,q,l2,decide (((q:Int)-p)/8≤(mid:Int)-p),ap,d6,c6⟩:PdG) ⟨by dsimp only;omega,hq,by dsimp only;omega,hP6.1.trans hs5,s1,hl2,fun d' h1 h2=>by have h3:=s2 d' h1 h2;exact hQ4 d' h3.1 h3.2,hL6⟩ zdo zcov zenv
 ·(refine ow_call rfl rfl rfl rfl (ih (q-(mid+1)) zom (a:=mid+1) (b:=q) rfl rfl .here hq99 (Nat.le_refl _) zom zom zom r5 hl2) ?_;rintro _ _ ⟨x132,rfl,hq132,rfl⟩)
  refine qt<|cw_region<|qm<|qa<|ow_nil ?_
  refine xw_block ?_
  obtain⟨d6,c6⟩:=x132
  obtain⟨hP6,hS6,hL6⟩:=hq132
  obtain⟨s1,s2⟩:=r7 d6 hP6 hS6
  exact xw_round (⟨p,mid,l2,decide (((q:Int)-p)/8≤(q:Int)-mid),ap,d6,c6⟩:PdG) ⟨r1,by dsimp only;omega,by dsimp only;omega,hP6.1.trans hs5,s1,hl2,fun d' h1 h2=>by have h3:=s2 d' h1 h2;exact hQ4 d' h3.1 h3.2,hL6⟩ zdo zcov zenv
theorem sortQ_c {ao:Option Addr}{n cap:Nat}{c:Hp}{l:List Int}(hsel:Sel G c R)(hL:Ls enQ 27 (.slice ao n cap) c l)(hn:l.length<60000):
  Go.Sl.Fn Tryz.prog 36 #[.slice ao n cap] B w0 G fun u G'=>∃x:List Int×Hp,u=.tuple #[]∧(x.1.Perm l∧x.1.Pairwise (· ≤·)∧Ls enQ 27 (.slice ao n cap) x.2 x.1)∧G'=R x.2:=by
 refine Fn.sel0 hsel fun F hR hF=>?_
 have hl:=hL.len
 subst hl
 refine fn_enter Tryz.func36 rfl (by kernel_rfl) Tryz.ntmps36 (by simp) ?_
 refine qs<|qm ?_
 refine qv (v_len rfl Tryz.underlying34 rfl)<|qa<|qt<|cw_region<|qm<|qm<|qm ?_
 refine qv (v_convert Tryz.underlying3 Tryz.underlying99 rfl (nw_u64 zom zom)) ?_
 (refine ow_call rfl rfl rfl rfl (len_c (n:=l.length) rfl zom) ?_;rintro _ _ ⟨x9,rfl,hq9,rfl⟩)
 have h16:=hq9.2.2
 (refine ow_call rfl rfl rfl rfl (pdqQ_c l.length (a:=0) (b:=l.length) (d:=l.toArray) rfl rfl .here (by exact hL) (Nat.le_refl _) (Nat.zero_le _) (by simp) (by simpa using hn) (.inl rfl) zom) ?_;rintro _ _ ⟨x10,rfl,hq10,rfl⟩)
 refine ow_nil ?_
 refine ret0n rfl ?_
 obtain⟨d2,c2⟩:=x10
 obtain⟨hP,hS,hL2⟩:=hq10
 exact⟨(d2.toList,c2),rfl,⟨perm_all hP,sorted_all hP.1 hS,hL2⟩,zcov⟩
end Go.Proofs.YtnlaffkihohfkaaGreat
namespace Go.Proofs.YtnlaffkihohfkaaGreat
open Go Go.Sl Go.Proofs
variable {B:Nat}{w0:World}{G:List Hp}{R:Hp→List Hp}
def idsK (cl mine:Bool)(k:Int)(n:Nat):List Int:=(List.range n).map fun i:Nat=>idOf cl mine k i
theorem idsK_succ {cl mine:Bool}{k:Int}{n:Nat}:idsK cl mine k (n+1)=idsK cl mine k n++[idOf cl mine k n]:=by
 unfold idsK
 rw[List.range_succ,List.map_append]
 rfl
theorem idsK_len {cl mine:Bool}{k:Int}{n:Nat}:(idsK cl mine k n).length=n:=by simp[idsK]
def SsM.idsOf (M:SsM)(k:Int):List Int:=idsK M.cl true k (M.kn k).op.toNat++idsK M.cl false k (M.kn k).came.toNat
def SsM.idsTo (M:SsM):Nat→List Int
 |0=>[]
 |j+1=>M.idsTo j++M.idsOf j
def SsM.ids (M:SsM):List Int:=M.idsTo 2
structure LQ where
 j:Nat
 l:List Int
 ao:Option Addr
 cap:Nat
 c:Hp
theorem SsM.g18 {M:SsM}{p:SsP}{j:Nat}(h:j<2):GetN (.cells (M.cells p).toArray 73 (0,0)) (18+Int.toNat (j:Int)*1) [.int .u64 (M.kn j).op]:=by
 have:j=0∨j=1:=by omega
 rcases this with rfl|rfl<;>exact GetN.lit rfl
theorem SsM.g22 {M:SsM}{p:SsP}{j:Nat}(h:j<2):GetN (.cells (M.cells p).toArray 73 (0,0)) (22+Int.toNat (j:Int)*1) [.int .u64 (M.kn j).came]:=by
 have:j=0∨j=1:=by omega
 rcases this with rfl|rfl<;>exact GetN.lit rfl
set_option maxHeartbeats 4000000 in
theorem list_c {M:SsM}{ps:List Nat}{b:Nat}{c:Hp}(hM:SsAt M ps b c)(hs:Sub c G)(hb:∀j:Nat,j<2→(0≤(M.kn j).op∧(M.kn j).op≤1000)∧(0≤(M.kn j).came∧(M.kn j).came≤1000)):
  Go.Sl.Fn Tryz.prog 11 #[.pointer (some ⟨b,0,none⟩)] B w0 G fun u G'=>∃y:List Int×Option Addr×Nat×Hp,u=.slice y.2.1 y.1.length y.2.2.1∧(y.1.Perm M.ids∧Ls enQ 27 (.slice y.2.1 y.1.length y.2.2.1) y.2.2.2 y.1)∧G'=[y.2.2.2]++G:=by
 refine Fn.new ?_
 have hM':=hM
 obtain⟨p,cm,cr0,cr1,cs,rfl,hMp,hR0,hR1,hS⟩:=hM
 have hs1:=hs.left
 refine fn_enter Tryz.func11 rfl (by kernel_rfl) Tryz.ntmps11 (by simp) ?_
 refine qs<|qa<|qt<|cw_seq<|qs<|qm<|qv (v_eql_nil_some Tryz.underlying35 rfl)<|qt<|cw_false rfl<|cw_skip<|xw_then<|qs ?_
 refine qa<|qt<|cw_seq<|qs<|qm<|qt<|cw_block ?_
 refine cw_loop2 (ι:=(LQ)) [(0,_),(2,_)] ⟨rfl,rfl,trivial⟩ ((fun x=>[(3,.slice x.ao x.l.length x.cap),(9,.int .i64 x.j)])) ((fun x=>x.j≤2∧x.l=M.idsTo x.j∧x.l.length≤2000*x.j∧Ls enQ 27 (.slice x.ao x.l.length x.cap) x.c x.l)) ((fun x=>2-x.j)) ((fun x=>x.c::G)) ((⟨0,[],none,0,[]⟩:LQ)) zenv zcov ?_ ?_
 ·exact⟨by decide,rfl,by decide,Ls.nil⟩
 rintro⟨j,l,ao,cap,cl⟩ ⟨hj,he,hl,hL⟩
 dsimp only at hj he hl hL⊢
 refine qs<|qv (v_lss rfl rfl)<|qt<|cw_seq ?_
 refine cw_dec rfl (fun hc10=>?_) (fun hc10=>?_)
 refine cw_skip<|xw_then<|cw_seq<|cw_block<|qs<|qm<|qa<|qt ?_
 rotate_left
 refine cw_exit<|xw_then_exit<|xw_round_exit<|xw_block_exit<|xw_then<|qs<|qm ?_
 rotate_left
 ·have hj2:j<2:=by omega
  have hk2:(j:Int)=0∨(j:Int)=1:=by omega
  obtain⟨⟨ho0,ho1⟩,hc0,hc1⟩:=hb j hj2
  refine cw_seq<|qs<|qm<|qm<|qn<|qf Ty.fd73_7<|qv (v_indexAddrA Tryz.underlying71 Ty.el71 rfl rfl rfl zom)<|ql (Var.sub1 Ty.sc27 zthr (.head _) (SsM.g18 hj2))<|qm<|qt<|cw_block ?_
  refine cw_loop2 (ι:=(LQ)) [(0,_),(2,_),(4,_),(9,_),(17,_)] ⟨rfl,rfl,rfl,rfl,rfl,trivial⟩ ((fun x=>[(3,.slice x.ao x.l.length x.cap),(18,.int .u64 x.j)])) ((fun x=>x.j≤(M.kn j).op.toNat∧x.l=l++idsK M.cl true j x.j∧x.l.length=l.length+x.j∧Ls enQ 27 (.slice x.ao x.l.length x.cap) x.c x.l)) ((fun x=>(M.kn j).op.toNat-x.j)) ((fun x=>x.c::G)) ((⟨0,l,ao,cap,cl⟩:LQ)) zenv zcov ?_ ?_
  ·exact⟨Nat.zero_le _,(List.append_nil l).symm,rfl,hL⟩
  rintro⟨j1,l1,ao1,cap1,cl1⟩ ⟨hj1,he1,hl1,hL1⟩
  dsimp only at hj1 he1 hl1 hL1⊢
  have ok1:∀m:Bool,enQ.ok (idOf M.cl m j j1):=fun m=>by
   show 0≤idOf M.cl m j j1∧idOf M.cl m j j1≤18446744073709551615
   unfold idOf
   split<;>omega
  have ok2:=ok1 true
  refine qs<|qv (v_lss rfl rfl)<|qt<|cw_seq ?_
  refine cw_dec rfl (fun hc19=>?_) (fun hc19=>?_)
  refine cw_skip<|xw_then<|cw_seq<|cw_block<|qs<|qm<|qa<|qt<|cw_region<|qm<|qm<|qm ?_
  refine qm ?_
  refine ow_val rfl rfl (v_call rfl rfl (number_c (m:=true) hM' zhas hk2 zom)) ?_
  (refine ow_buildL (es:=[(idOf M.cl true j j1)]) rfl rfl Tryz.underlying34 Ty.em34 (qTy) rfl rfl (by first|(simp[*];done)|(repeat (first|exact List.forall_mem_nil _|refine List.forall_mem_cons.2 ⟨?_,?_⟩|assumption|(show _∧_;omega)))) (by simp only[List.length_cons,List.length_nil];decide) ?_;intro ao26 c26 hL26)
  (refine ow_appendL rfl rfl Tryz.underlying34 Tryz.underlying34 Ty.em34 (qTy) rfl rfl zas zsel (Go.Sl.Ls.vw zas zhas) zlo zlo ?_;intro ao27 cap27 c27 hL27)
  refine qa<|ow_nil<|xw_block<|xw_then<|cw_region<|qv (v_add rfl rfl (nw_u64 zom zom))<|qm<|ow_nil ?_
  rotate_left
  refine cw_exit<|xw_then_exit<|xw_round_exit<|xw_block_exit<|xw_then ?_
  rotate_left
  ·have e3:(l1++[idOf M.cl true j j1]).length=l1.length+1:=by simp
   try rw[←e3]at hL27
   exact xw_round (⟨j1+1,l1++[idOf M.cl true j j1],ao27,cap27,c27⟩:LQ) ⟨by dsimp only;omega,by dsimp only;rw[he1,idsK_succ,List.append_assoc],by dsimp only;omega,hL27⟩ zdo zcov zenv
  refine qs<|qm<|qm<|qn<|qf Ty.fd73_9<|qv (v_indexAddrA Tryz.underlying71 Ty.el71 rfl rfl rfl zom)<|ql (Var.sub1 Ty.sc27 zthr (.head _) (SsM.g22 hj2))<|qm<|qt<|cw_block ?_
  refine cw_loop2 (ι:=(LQ)) [(0,_),(2,_),(4,_),(9,_),(34,_)] ⟨rfl,rfl,rfl,rfl,rfl,trivial⟩ ((fun x=>[(3,.slice x.ao x.l.length x.cap),(35,.int .u64 x.j)])) ((fun x=>x.j≤(M.kn j).came.toNat∧x.l=l1++idsK M.cl false j x.j∧x.l.length=l1.length+x.j∧Ls enQ 27 (.slice x.ao x.l.length x.cap) x.c x.l)) ((fun x=>(M.kn j).came.toNat-x.j)) ((fun x=>x.c::G)) ((⟨0,l1,ao1,cap1,cl1⟩:LQ)) zenv zcov ?_ ?_
  ·exact⟨Nat.zero_le _,(List.append_nil l1).symm,rfl,hL1⟩
  rintro⟨j2,l2,ao2,cap2,cl2⟩ ⟨hj2,he2,hl2,hL2⟩
  dsimp only at hj2 he2 hl2 hL2⊢
  have ok3:∀m:Bool,enQ.ok (idOf M.cl m j j2):=fun m=>by
   show 0≤idOf M.cl m j j2∧idOf M.cl m j j2≤18446744073709551615
   unfold idOf
   split<;>omega
  have ok4:=ok3 false
  refine qs<|qv (v_lss rfl rfl)<|qt<|cw_seq ?_
  refine cw_dec rfl (fun hc36=>?_) (fun hc36=>?_)
  refine cw_skip<|xw_then<|cw_seq<|cw_block<|qs<|qm<|qa<|qt<|cw_region<|qm<|qm<|qm ?_
  refine qm ?_
  refine ow_val rfl rfl (v_call rfl rfl (number_c (m:=false) hM' zhas hk2 zom)) ?_
  (refine ow_buildL (es:=[(idOf M.cl false j j2)]) rfl rfl Tryz.underlying34 Ty.em34 (qTy) rfl rfl (by first|(simp[*];done)|(repeat (first|exact List.forall_mem_nil _|refine List.forall_mem_cons.2 ⟨?_,?_⟩|assumption|(show _∧_;omega)))) (by simp only[List.length_cons,List.length_nil];decide) ?_;intro ao43 c43 hL43)
  (refine ow_appendL rfl rfl Tryz.underlying34 Tryz.underlying34 Ty.em34 (qTy) rfl rfl zas zsel (Go.Sl.Ls.vw zas zhas) zlo zlo ?_;intro ao44 cap44 c44 hL44)
  refine qa<|ow_nil<|xw_block<|xw_then<|cw_region<|qv (v_add rfl rfl (nw_u64 zom zom))<|qm<|ow_nil ?_
  rotate_left
  refine cw_exit<|xw_then_exit<|xw_round_exit<|xw_block_exit<|xw_block<|xw_then<|cw_region<|qv (v_add rfl rfl (nw_i64 zom zom))<|qm<|ow_nil ?_
  rotate_left
  ·have e3:(l2++[idOf M.cl false j j2]).length=l2.length+1:=by simp
   try rw[←e3]at hL44
   exact xw_round (⟨j2+1,l2++[idOf M.cl false j j2],ao44,cap44,c44⟩:LQ) ⟨by dsimp only;omega,by dsimp only;rw[he2,idsK_succ,List.append_assoc],by dsimp only;omega,hL44⟩ zdo zcov zenv
  ·have e4:j1=(M.kn j).op.toNat:=by omega
   have e5:j2=(M.kn j).came.toNat:=by omega
   refine xw_round (⟨j+1,l2,ao2,cap2,cl2⟩:LQ) ⟨by dsimp only;omega,?_,by dsimp only;omega,hL2⟩ zdo zcov zenv
   dsimp only
   rw[he2,he1,he,e4,e5,List.append_assoc]
   rfl
 ·(refine ow_call rfl rfl rfl rfl (sortQ_c zsel hL zom) ?_;rintro _ _ ⟨x48,rfl,hq48,rfl⟩)
  refine qt<|qs<|qm<|qa<|qt<|cw_ret<|ret1 rfl (res_tmp rfl) ?_
  have hjj:j=2:=by omega
  subst hjj
  obtain⟨q1,q2,q3⟩:=hq48
  have hll:x48.1.length=l.length:=q1.length_eq
  rw[←hll]at q3⊢
  exact⟨(x48.1,ao,cap,x48.2),rfl,⟨by rw[he]at q1;exact q1,q3⟩,zcov⟩
end Go.Proofs.YtnlaffkihohfkaaGreat
namespace Go.Proofs.YtnlaffkihohfkaaGreat
open Go Go.Sl Go.Proofs
variable {B:Nat}{w0:World}{G:List Hp}{R:Hp→List Hp}
theorem readNo_c {M:SsM}{ps:List Nat}{b:Nat}{c:Hp}{id many:Int}{x:SmM}(hsel:Sel G c R)(hM:SsAt M ps b c)(hw:M.WF)(hid:0≤id∧id≤18446744073709551615)(hh:M.has id)(hx:∀i,idxS (M.touch id).str id=some i→(M.touch id).str[i]?=some x)(hf:finalS x.recv=true):
  Go.Sl.Fn Tryz.prog 37 #[.pointer (some ⟨b,0,none⟩),.int .u64 id,.int .i64 many] B w0 G fun u G'=>∃y:List Nat×Hp,u=.tuple #[.slice none 0 0,.bool false,.int .u64 0,.int .i64 16]∧SsAt (M.touch id) y.1 b y.2∧G'=R y.2:=by
 refine Fn.sel0 hsel fun F hR hF=>?_
 refine fn_enter Tryz.func37 rfl (by kernel_rfl) Tryz.ntmps37 (by simp) ?_
 refine qs<|qa<|qa<|qa<|qa<|qt<|qs<|qm<|qm ?_
 (refine ow_call rfl rfl rfl rfl (get_has_c zsel hM hw hid hh) ?_;rintro _ _ ⟨x15,rfl,hq15,rfl⟩)
 refine qa<|qt ?_
 obtain⟨hi,hM1⟩:=hq15
 have hxi:=hx _ hi
 obtain⟨p,q,ci,co,cr,hc,hI,hO,back⟩:=hM1.open hxi
 generalize x15.2.1.getD x15.1 0=b1 at hc back⊢
 refine cw_cov ([(b,.cells ((M.touch id).cells p).toArray 73 (0,0))]::[(b1,.cells (x.cells q).toArray 55 (0,0))]::ci::co::cr::F) (zcv1 hc) ?_
 refine cw_seq<|qs<|qm<|qv (v_eql_nil_some Tryz.underlying45 rfl)<|qt<|cw_false rfl<|cw_skip<|xw_then<|cw_seq<|qs<|qm<|qn ?_
 refine qf Ty.fd55_2<|ql (Var.at1 Ty.sc47 (.there .here) (GetN.lit rfl))<|qv (v_call rfl rfl (final_c))<|qt ?_
 refine cw_bool rfl (fun hc22=>?_) (fun hc22=>?_)
 refine qs<|qa<|qa<|qa<|qa<|qt<|cw_ret<|xw_then_ret<|ret4 rfl (res_tmp rfl) (res_tmp rfl) (res_tmp rfl) (res_tmp rfl) ?_
 rotate_left
 refine cw_skip<|xw_then ?_
 rotate_left
 ·exact⟨x15.2,rfl,hM1,(zcv1 hc)⟩
 ·exact Bool.noConfusion (hf.symm.trans hc22)
def SmM.settled' (x:SmM)(M:SsM):SmM:=if x.isDone (M.mine x.id) then {x with counted:=true} else x
theorem SmM.settled_code {x:SmM}{M:SsM}:(x.settled' M).code=x.code:=by unfold SmM.settled';split<;>rfl
theorem SsM.settle_str {M:SsM}{i:Nat}{x:SmM}(h:i<M.str.length):(((M.setS i x)).settle i x).str[i]?=some (x.settled' M):=by
 unfold SsM.settle SmM.settled'
 have e1:(M.setS i x).mine x.id=M.mine x.id:=rfl
 rw[e1]
 split
 ·unfold SsM.setK
  split
  ·exact List.getElem?_set_self (by simpa [SsM.setS] using h)
  ·exact List.getElem?_set_self (by simpa [SsM.setS] using h)
 ·exact List.getElem?_set_self (by simpa [SsM.setS] using h)
def SmM.heard (x:SmM):SmM:={x with recv:=5}
theorem readBroken_c {M:SsM}{ps:List Nat}{b:Nat}{c:Hp}{id many:Int}{x:SmM}(hsel:Sel G c R)(hM:SsAt M ps b c)(hw:M.WF)(hid:0≤id∧id≤18446744073709551615)(hh:M.has id)(hx:∀i,idxS (M.touch id).str id=some i→(M.touch id).str[i]?=some x)(hr:x.recv=4)(hxid:0≤x.id∧x.id≤18446744073709551615)(hg:0≤((M.touch id).kd x.id).giv∧((M.touch id).kd x.id).giv≤4611686018427387903):
  Go.Sl.Fn Tryz.prog 37 #[.pointer (some ⟨b,0,none⟩),.int .u64 id,.int .i64 many] B w0 G fun u G'=>∃y:Nat×List Nat×Hp,u=.tuple #[.slice none 0 0,.bool false,.int .u64 x.code,.int .i64 19]∧(idxS (M.touch id).str id=some y.1∧SsAt (((M.touch id).setS y.1 x.heard).settle y.1 x.heard) y.2.1 b y.2.2)∧G'=R y.2.2:=by
 refine Fn.sel0 hsel fun F hR hF=>?_
 have hf:finalS x.recv=false:=by rw[hr];rfl
 refine fn_enter Tryz.func37 rfl (by kernel_rfl) Tryz.ntmps37 (by simp) ?_
 refine qs<|qa<|qa<|qa<|qa<|qt<|qs<|qm<|qm ?_
 (refine ow_call rfl rfl rfl rfl (get_has_c zsel hM hw hid hh) ?_;rintro _ _ ⟨x15,rfl,hq15,rfl⟩)
 refine qa<|qt ?_
 obtain⟨hi,hM1⟩:=hq15
 have hxi:=hx _ hi
 obtain⟨p,q,ci,co,cr,hc,hI,hO,back⟩:=hM1.open hxi
 generalize hb1:x15.2.1.getD x15.1 0=b1 at hc back⊢
 refine cw_cov ([(b,.cells ((M.touch id).cells p).toArray 73 (0,0))]::[(b1,.cells (x.cells q).toArray 55 (0,0))]::ci::co::cr::F) (zcv1 hc) ?_
 refine cw_seq<|qs<|qm<|qv (v_eql_nil_some Tryz.underlying45 rfl)<|qt<|cw_false rfl<|cw_skip<|xw_then<|cw_seq<|qs<|qm<|qn ?_
 refine qf Ty.fd55_2<|ql (Var.at1 Ty.sc47 (.there .here) (GetN.lit rfl))<|qv (v_call rfl rfl (final_c))<|qt ?_
 refine cw_bool rfl (fun hc22=>?_) (fun hc22=>?_)
 refine qs<|qa<|qa<|qa<|qa<|qt<|cw_ret<|xw_then_ret<|ret4 rfl (res_tmp rfl) (res_tmp rfl) (res_tmp rfl) (res_tmp rfl) ?_
 rotate_left
 refine cw_skip<|xw_then<|cw_seq<|qs<|qm<|qn<|qf Ty.fd55_2<|ql (Var.at1 Ty.sc47 (.there .here) (GetN.lit rfl))<|qv (v_eql rfl rfl)<|qt ?_
 refine cw_dec rfl (fun hc27=>?_) (fun hc27=>?_)
 rotate_left;(exfalso;omega);rotate_right
 refine qs<|qm<|qn<|qf Ty.fd55_2<|ow_store1 rfl rfl rfl rfl Ty.sc47 (.there .here) (SetN.one zdn)<|qt ?_
 rotate_left
 ·exact Bool.noConfusion (hf.symm.trans hc22)
 ·obtain⟨c2,hM2,hc2⟩:=back ((M.touch id).setS x15.1 x.heard) x.heard q ci co rfl rfl rfl rfl hI hO
  have e2:SsM.cells ((M.touch id).setS x15.1 x.heard) p=(M.touch id).cells p:=rfl
  have e3:SmM.cells x.heard q=(x.cells q).set 2 (.int .u8 5):=rfl
  rw[e2,e3]at hc2
  clear hc
  refine cw_cov (c2::F) (zcv1 hc2) ?_
  subst hb1
  obtain⟨hil,hie⟩:=List.getElem?_eq_some_iff.1 hxi
  have hx2:((M.touch id).setS x15.1 x.heard).str[x15.1]?=some x.heard:=List.getElem?_set_self hil
  refine qs<|qm<|qm ?_
  (refine ow_call rfl rfl rfl rfl (settle_c zsel hM2 hx2 hxid hg) ?_;rintro _ _ ⟨x33,rfl,hq33,rfl⟩)
  refine qt ?_
  obtain⟨p3,q3,ci3,co3,hI3,hO3,hsub⟩:=hq33.look (SsM.settle_str (x:=x.heard) hil)
  obtain⟨hs1,hs2,hs3,hs4⟩:=hsub (x33::F) .here
  have e5:(x.heard.settled' (M.touch id)).code=x.code:=SmM.settled_code
  refine cw_seq<|cw_quiet Ty.mixed zdk<|kmv<|kv (v_nilCheck rfl)<|kv (v_fieldAddr0 Ty.fd55_7 rfl)<|kv (v_load rfl (Var.sub1 Ty.sc27 zthr (.head _) (GetN.lit rfl)))<|kv (v_assign rfl)<|kv (v_assign rfl)<|kv (v_assign rfl)<|kv (v_assign rfl)<|kw_nil<|xw_then ?_
  refine cw_ret<|xw_then_ret<|ret4 rfl (res_tmp rfl) (res_tmp rfl) (res_tmp rfl) (res_tmp rfl) ?_
  rw[e5]
  exact⟨(x15.1,x15.2.1,x33),rfl,⟨hi,hq33⟩,zcov⟩
def SmM.offI (x:SmM)(m:InM)(n:Nat):SmM:={x with inn:=some (m.off n)}
def SmM.offG (x:SmM)(m:InM)(n:Nat):SmM:=if x.recv=1 then {x with inn:=some (m.off n),giv:=x.giv.take n} else {x with inn:=some (m.off n)}
def SmM.over (x:SmM):SmM:={x with recv:=3,stops:=false}
def SsM.takeG (M:SsM)(n:Nat):SsM:={M with giv:=M.giv.take n}
def InM.allAt (m:InM)(n:Nat):Bool:=m.known&&decide (m.read+(n:Int)=m.final)
def SsM.readN (M:SsM)(i:Nat)(x:SmM)(m:InM)(n:Nat):SsM:=
 if m.allAt n=true then (((M.takeG n).setS i (x.offG m n).over).settle i (x.offG m n).over) else (M.takeG n).setS i (x.offG m n)
theorem SsM.readN_yes {M:SsM}{i:Nat}{x:SmM}{m:InM}{n:Nat}(h:m.allAt n=true):M.readN i x m n=(((M.takeG n).setS i (x.offG m n).over).settle i (x.offG m n).over):=if_pos h
theorem SsM.readN_no {M:SsM}{i:Nat}{x:SmM}{m:InM}{n:Nat}(h:m.allAt n=false):M.readN i x m n=(M.takeG n).setS i (x.offG m n):=if_neg (by rw[h];simp)
theorem SmM.offG_1 {x:SmM}{m:InM}{n:Nat}(h:x.recv=1):x.offG m n={x with inn:=some (m.off n),giv:=x.giv.take n}:=if_pos h
theorem SmM.offG_2 {x:SmM}{m:InM}{n:Nat}(h:¬x.recv=1):x.offG m n=x.offI m n:=if_neg h
set_option maxHeartbeats 4000000 in
theorem read_c {M:SsM}{ps:List Nat}{b:Nat}{c:Hp}{id many:Int}{x:SmM}{m:InM}(hsel:Sel G c R)(hM:SsAt M ps b c)(hw:M.WF)(hid:0≤id∧id≤18446744073709551615)(hh:M.has id)(hx:∀i,idxS (M.touch id).str id=some i→(M.touch id).str[i]?=some x)(hr:x.recv=1∨x.recv=2)(hm:x.inn=some m)(hxw:x.WF)(hgw:(M.touch id).giv.WF)(hg:0≤((M.touch id).kd x.id).giv∧((M.touch id).kd x.id).giv≤4611686018427387903)(hmany:0≤many∧many≤1000000):
  Go.Sl.Fn Tryz.prog 37 #[.pointer (some ⟨b,0,none⟩),.int .u64 id,.int .i64 many] B w0 G fun u G'=>∃y:Option Addr×Nat×Hp×Nat×List Nat×Hp,u=.tuple #[.slice y.1 (m.bytes (m.many many)).length y.2.1,.bool (m.allAt (m.many many)),.int .u64 0,.int .i64 0]∧(Ls enB 5 (.slice y.1 (m.bytes (m.many many)).length y.2.1) y.2.2.1 (m.bytes (m.many many))∧idxS (M.touch id).str id=some y.2.2.2.1∧SsAt ((M.touch id).readN y.2.2.2.1 x m (m.many many)) y.2.2.2.2.1 b y.2.2.2.2.2)∧G'=[y.2.2.1]++R y.2.2.2.2.2:=by
 refine Fn.sel hsel fun F hR hF=>?_
 have hf:finalS x.recv=false:=by rcases hr with h|h<;>(rw[h];rfl)
 have hmw:=hxw.inn m hm
 have hmm:(m.many many:Int)≤1000000:=by unfold InM.many;omega
 have hbl:(m.bytes (m.many many)).length=m.many many:=InM.bytes_len
 refine fn_enter Tryz.func37 rfl (by kernel_rfl) Tryz.ntmps37 (by simp) ?_
 refine qs<|qa<|qa<|qa<|qa<|qt<|qs<|qm<|qm ?_
 (refine ow_call rfl rfl rfl rfl (get_has_c zsel hM hw hid hh) ?_;rintro _ _ ⟨x15,rfl,hq15,rfl⟩)
 refine qa<|qt ?_
 obtain⟨hi,hM1⟩:=hq15
 have hxi:=hx _ hi
 generalize M.touch id=M1 at hi hxi hM1 hgw hg⊢
 obtain⟨p,q,ci,co,cr,hc,hI,hO,back⟩:=hM1.open hxi
 generalize hb1:x15.2.1.getD x15.1 0=b1 at hc back⊢
 rw[hm]at hI
 obtain⟨bi,hqi,hI⟩:=hI
 obtain⟨qi,qo⟩:=q
 dsimp only at hqi
 subst hqi
 refine cw_cov ([(b,.cells (M1.cells p).toArray 73 (0,0))]::[(b1,.cells (x.cells ⟨some ⟨bi,0,none⟩,qo⟩).toArray 55 (0,0))]::ci::co::cr::F) (zcv1 hc) ?_
 have o1:=(M1.giv.take (m.many many)).one
 have o2:=(x.giv.take (m.many many)).one
 have hgx:=hxw.giv
 obtain⟨hil,hie⟩:=List.getElem?_eq_some_iff.1 hxi
 refine cw_seq<|qs<|qm ?_
 refine qv (v_eql_nil_some Tryz.underlying45 rfl)<|qt ?_
 refine cw_false rfl<|cw_skip<|xw_then<|cw_seq<|qs<|qm<|qn ?_
 refine qf Ty.fd55_2 ?_
 refine ql (Var.at1 Ty.sc47 (.there .here) (GetN.lit rfl)) ?_
 refine qv (v_call rfl rfl (final_c))<|qt ?_
 refine cw_bool rfl (fun hc22=>?_) (fun hc22=>?_)
 refine qs<|qa<|qa<|qa<|qa<|qt ?_
 refine cw_ret ?_
 refine xw_then_ret ?_
 refine ret4 rfl (res_tmp rfl) (res_tmp rfl) (res_tmp rfl) (res_tmp rfl) ?_
 rotate_left
 refine cw_skip<|xw_then<|cw_seq<|qs<|qm<|qn ?_
 refine qf Ty.fd55_2 ?_
 refine ql (Var.at1 Ty.sc47 (.there .here) (GetN.lit rfl)) ?_
 refine qv (v_eql rfl rfl)<|qt ?_
 refine cw_dec rfl (fun hc27=>?_) (fun hc27=>?_)
 (exfalso;omega)
 refine cw_skip<|xw_then<|qs<|qm<|qn ?_
 refine qf Ty.fd55_3 ?_
 refine ql (Var.at1 Ty.sc48 (.there .here) (GetN.lit rfl))<|qm ?_
 (refine ow_call rfl rfl rfl rfl (inRead_c zsel hI hmw zom) ?_;rintro _ _ ⟨x44,rfl,hq44,rfl⟩)
 refine qm ?_
 refine qv (v_extract rfl rfl) ?_
 refine qv (v_extract rfl rfl)<|qa<|qa<|qt ?_
 rotate_left
 ·exact Bool.noConfusion (hf.symm.trans hc22)
 obtain⟨hLb,hIn⟩:=hq44
 refine qs<|qm<|qm<|qn ?_
 refine qf Ty.fd73_0 ?_
 refine ow_val rfl rfl (v_load rfl (Var.atN Ty.ag51 (.there .here) ((GetN.mid (vs:=M1.giv.cells) rfl)) zra)) ?_
 refine qm ?_
 refine qv (v_len rfl Tryz.underlying28 rfl) ?_
 refine qv (v_convert Tryz.underlying3 Tryz.underlying27 rfl (nw_u64 zom zom)) ?_
 refine qv (v_call rfl rfl (givTake_c hgw zom))<|qn ?_
 refine qf Ty.fd73_0 ?_
 refine ow_storeN rfl rfl rfl Ty.ag51 zra zao (.there .here) ((SetN.mid (l':=SsM.cells (M1.takeG (m.bytes (m.many many)).length) p) (Nat.le_of_ble_eq_true rfl) rfl)) ?_
 refine qt ?_
 rw[hbl]at *
 have eo:(x.offG m (m.many many)).out=x.out:=by unfold SmM.offG;split<;>rfl
 have ei:(x.offG m (m.many many)).inn=some (m.off (m.many many)):=by unfold SmM.offG;split<;>rfl
 have eid:(x.offG m (m.many many)).id=x.id:=by unfold SmM.offG;split<;>rfl
 have hI2:InO (x.offG m (m.many many)).over.inn (some ⟨bi,0,none⟩) x44.2.2.2:=by
  show InO (x.offG m (m.many many)).inn _ _
  rw[ei]
  exact⟨bi,rfl,hIn⟩
 have hO2:OutO (x.offG m (m.many many)).over.out qo co:=by
  show OutO (x.offG m (m.many many)).out _ _
  rw[eo]
  exact hO
 have hx2:((M1.takeG (m.many many)).setS x15.1 (x.offG m (m.many many)).over).str[x15.1]?=some (x.offG m (m.many many)).over:=List.getElem?_set_self hil
 have hid2:0≤(x.offG m (m.many many)).over.id∧(x.offG m (m.many many)).over.id≤18446744073709551615:=by
  show 0≤(x.offG m (m.many many)).id∧(x.offG m (m.many many)).id≤_
  rw[eid]
  exact hxw.id
 have hg2:0≤(((M1.takeG (m.many many)).setS x15.1 (x.offG m (m.many many)).over).kd (x.offG m (m.many many)).over.id).giv∧(((M1.takeG (m.many many)).setS x15.1 (x.offG m (m.many many)).over).kd (x.offG m (m.many many)).over.id).giv≤4611686018427387903:=by
  show 0≤(M1.kd (x.offG m (m.many many)).id).giv∧(M1.kd (x.offG m (m.many many)).id).giv≤_
  rw[eid]
  exact hg
 obtain⟨c2,hM2,hc2⟩:=back ((M1.takeG (m.many many)).setS x15.1 (x.offG m (m.many many)).over) (x.offG m (m.many many)).over ⟨some ⟨bi,0,none⟩,qo⟩ x44.2.2.2 co rfl rfl rfl eid hI2 hO2
 obtain⟨c4,hM4,hc4⟩:=back ((M1.takeG (m.many many)).setS x15.1 (x.offG m (m.many many))) (x.offG m (m.many many)) ⟨some ⟨bi,0,none⟩,qo⟩ x44.2.2.2 co rfl rfl rfl eid hI2 hO2
 have e2:SsM.cells ((M1.takeG (m.many many)).setS x15.1 (x.offG m (m.many many)).over) p=(M1.takeG (m.many many)).cells p:=rfl
 have e4:SsM.cells ((M1.takeG (m.many many)).setS x15.1 (x.offG m (m.many many))) p=(M1.takeG (m.many many)).cells p:=rfl
 have e3:SmM.cells (x.offG m (m.many many)).over ⟨some ⟨bi,0,none⟩,qo⟩=((((x.offG m (m.many many)).cells ⟨some ⟨bi,0,none⟩,qo⟩).set 2 (.int .u8 3)).set 17 (.bool false)):=rfl
 rw[e2,e3]at hc2
 rw[e4]at hc4
 clear hc
 subst hb1
 rcases hr with hr|hr
 ·have ex:x.offG m (m.many many)={x with inn:=some (m.off (m.many many)),giv:=x.giv.take (m.many many)}:=SmM.offG_1 hr
  refine cw_seq<|qs<|qm<|qn ?_
  refine qf Ty.fd55_2 ?_
  refine ql (Var.at1 Ty.sc47 (.there (.there .here)) (GetN.lit rfl)) ?_
  refine qv (v_eql rfl rfl)<|qt ?_
  refine cw_dec rfl (fun hc62=>?_) (fun hc62=>?_)
  rotate_left;(exfalso;omega);rotate_right
  refine cw_region<|qm<|qm<|qn ?_
  refine qf Ty.fd55_5 ?_
  refine ow_val rfl rfl (v_load rfl (Var.atN Ty.ag51 (.there (.there .here)) ((GetN.mid (vs:=x.giv.cells) rfl)) zra)) ?_
  refine qm ?_
  refine qv (v_len rfl Tryz.underlying28 rfl) ?_
  refine qv (v_convert Tryz.underlying3 Tryz.underlying27 rfl (nw_u64 zom zom)) ?_
  refine qv (v_call rfl rfl (givTake_c hgx zom))<|qn ?_
  refine qf Ty.fd55_5 ?_
  refine ow_storeN rfl rfl rfl Ty.ag51 zra zao (.there (.there .here)) ((SetN.mid (l':=SmM.cells (x.offG m (m.many many)) ⟨some ⟨bi,0,none⟩,qo⟩) (Nat.le_of_ble_eq_true rfl) (by rw[ex];rfl))) ?_
  refine qt<|cw_seq<|qs<|qm<|qt ?_
  refine cw_bool rfl (fun hc74=>?_) (fun hc74=>?_)
  refine qs<|qm<|qn ?_
  refine qf Ty.fd55_2 ?_
  refine ow_store1 rfl rfl rfl rfl Ty.sc47 (.there (.there .here)) (SetN.one zdn)<|qt<|qs<|qm<|qn ?_
  refine qf Ty.fd55_11 ?_
  refine ow_store1 rfl rfl rfl rfl Ty.sc4 (.there (.there .here)) (SetN.one zdn)<|qt ?_
  refine cw_region<|qm<|qm ?_
  rotate_left
  refine cw_skip<|xw_then<|qs<|qm<|qm<|qa<|qa<|qa<|qa<|qt ?_
  refine cw_ret ?_
  refine ret4 rfl (res_tmp rfl) (res_tmp rfl) (res_tmp rfl) (res_tmp rfl) ?_
  rotate_left
  ·refine ow_cov (c2::x44.2.2.1::F) (zcv1 hc2) ?_
   (refine ow_call rfl rfl rfl rfl (settle_c zsel hM2 hx2 hid2 hg2) ?_;rintro _ _ ⟨x83,rfl,hq83,rfl⟩)
   refine qt<|qs<|qm<|qm<|qa<|qa<|qa<|qa<|qt ?_
   refine cw_ret ?_
   refine ret4 rfl (res_tmp rfl) (res_tmp rfl) (res_tmp rfl) (res_tmp rfl) ?_
   have hal:m.allAt (m.many many)=true:=hc74
   exact⟨(x44.1,x44.2.1,x44.2.2.1,x15.1,x15.2.1,x83),rfl,⟨hLb,hi,by rw[SsM.readN_yes hal];exact hq83⟩,zcov⟩
  ·have hal:m.allAt (m.many many)=false:=hc74
   exact⟨(x44.1,x44.2.1,x44.2.2.1,x15.1,x15.2.1,c4),rfl,⟨hLb,hi,by rw[SsM.readN_no hal];exact hM4⟩,(zcv1 hc4)⟩
 ·have ex:x.offG m (m.many many)=x.offI m (m.many many):=SmM.offG_2 zom
  have e5:SmM.cells (x.offG m (m.many many)) ⟨some ⟨bi,0,none⟩,qo⟩=x.cells ⟨some ⟨bi,0,none⟩,qo⟩:=by rw[ex];rfl
  rw[e5]at hc2 hc4
  refine cw_seq<|qs<|qm<|qn ?_
  refine qf Ty.fd55_2 ?_
  refine ql (Var.at1 Ty.sc47 (.there (.there .here)) (GetN.lit rfl)) ?_
  refine qv (v_eql rfl rfl)<|qt ?_
  refine cw_dec rfl (fun hc62=>?_) (fun hc62=>?_)
  (exfalso;omega)
  refine cw_skip<|xw_then<|cw_seq<|qs<|qm<|qt ?_
  refine cw_bool rfl (fun hc74=>?_) (fun hc74=>?_)
  refine qs<|qm<|qn ?_
  refine qf Ty.fd55_2 ?_
  refine ow_store1 rfl rfl rfl rfl Ty.sc47 (.there (.there .here)) (SetN.one zdn)<|qt<|qs<|qm<|qn ?_
  refine qf Ty.fd55_11 ?_
  refine ow_store1 rfl rfl rfl rfl Ty.sc4 (.there (.there .here)) (SetN.one zdn)<|qt ?_
  refine cw_region<|qm<|qm ?_
  rotate_left
  refine cw_skip<|xw_then<|qs<|qm<|qm<|qa<|qa<|qa<|qa<|qt ?_
  refine cw_ret ?_
  refine ret4 rfl (res_tmp rfl) (res_tmp rfl) (res_tmp rfl) (res_tmp rfl) ?_
  rotate_left
  ·refine ow_cov (c2::x44.2.2.1::F) (zcv1 hc2) ?_
   (refine ow_call rfl rfl rfl rfl (settle_c zsel hM2 hx2 hid2 hg2) ?_;rintro _ _ ⟨x83,rfl,hq83,rfl⟩)
   refine qt<|qs<|qm<|qm<|qa<|qa<|qa<|qa<|qt ?_
   refine cw_ret ?_
   refine ret4 rfl (res_tmp rfl) (res_tmp rfl) (res_tmp rfl) (res_tmp rfl) ?_
   have hal:m.allAt (m.many many)=true:=hc74
   exact⟨(x44.1,x44.2.1,x44.2.2.1,x15.1,x15.2.1,x83),rfl,⟨hLb,hi,by rw[SsM.readN_yes hal];exact hq83⟩,zcov⟩
  ·have hal:m.allAt (m.many many)=false:=hc74
   exact⟨(x44.1,x44.2.1,x44.2.2.1,x15.1,x15.2.1,c4),rfl,⟨hLb,hi,by rw[SsM.readN_no hal];exact hM4⟩,(zcv1 hc4)⟩
end Go.Proofs.YtnlaffkihohfkaaGreat
namespace Go.Proofs.YtnlaffkihohfkaaGreat
open Go Go.Sl Go.Proofs
variable {B:Nat}{w0:World}{G:List Hp}{R:Hp→List Hp}
structure SdM where
 giv:GivM
 got:GotM
 cl:Bool
 own:LimM
 their:LimM
 k0:KdM
 k1:KdM
 x:Int→SmM
def SsM.abs (M:SsM):SdM:=⟨M.giv,M.got,M.cl,M.own,M.their,M.k0,M.k1,M.at⟩
def SdM.put (A:SdM)(id:Int)(x':SmM):SdM:={A with x:=fun j=>if j=id then x' else A.x j}
def SdM.kn (A:SdM)(k:Int):KdM:=if k=0 then A.k0 else A.k1
def SdM.kd (A:SdM)(id:Int):KdM:=if kdI id=0 then A.k0 else A.k1
def SdM.setK (A:SdM)(k:Int)(n:KdM):SdM:=if k=0 then {A with k0:=n} else {A with k1:=n}
def SdM.mine (A:SdM)(id:Int):Bool:=decide (decide (oddI id=0)=A.cl)
def SdM.has (A:SdM)(id:Int):Prop:=0≤id∧if A.mine id=true then cnI id<(A.kd id).op else cnI id<(A.kd id).came
def SdM.settle (A:SdM)(id:Int)(x:SmM):SdM:=if x.isDone (A.mine id) then (A.put id {x with counted:=true}).setK (kdI id) {A.kd id with giv:=(A.kd id).giv+1} else A.put id x
theorem SdM.put_same {A:SdM}{id:Int}:A.put id (A.x id)=A:=by
 unfold SdM.put
 congr 1
 funext j
 by_cases h:j=id
 ·rw[if_pos h,h]
 ·rw[if_neg h]
theorem SdM.put_x {A:SdM}{id:Int}{x:SmM}:(A.put id x).x id=x:=if_pos rfl
theorem SdM.put_put {A:SdM}{id:Int}{x y:SmM}:(A.put id x).put id y=A.put id y:=by
 unfold SdM.put
 congr 1
 funext j
 by_cases h:j=id
 ·exact(if_pos h).trans (if_pos h).symm
 ·exact(if_neg h).trans ((if_neg h).trans (if_neg h).symm)
theorem SdM.setK_x {A:SdM}{k:Int}{n:KdM}:(A.setK k n).x=A.x:=by unfold SdM.setK;split<;>rfl
theorem SdM.setK_giv {A:SdM}{k:Int}{n:KdM}:(A.setK k n).giv=A.giv:=by unfold SdM.setK;split<;>rfl
theorem SdM.setK_got {A:SdM}{k:Int}{n:KdM}:(A.setK k n).got=A.got:=by unfold SdM.setK;split<;>rfl
theorem SdM.setK_cl {A:SdM}{k:Int}{n:KdM}:(A.setK k n).cl=A.cl:=by unfold SdM.setK;split<;>rfl
theorem SdM.setK_own {A:SdM}{k:Int}{n:KdM}:(A.setK k n).own=A.own:=by unfold SdM.setK;split<;>rfl
theorem SdM.setK_their {A:SdM}{k:Int}{n:KdM}:(A.setK k n).their=A.their:=by unfold SdM.setK;split<;>rfl
theorem SdM.setK_kn {A:SdM}{k j:Int}{n:KdM}(hk:k=0∨k=1)(hj:j=0∨j=1):(A.setK k n).kn j=if j=k then n else A.kn j:=by
 unfold SdM.setK SdM.kn
 rcases hk with rfl|rfl<;>rcases hj with rfl|rfl<;>rfl
theorem SdM.kd_kn {A:SdM}{id:Int}:A.kd id=A.kn (kdI id):=rfl
theorem SsM.at_eq {M:SsM}{id:Int}:M.at id=((idxS M.str id).bind fun i=>M.str[i]?).getD (M.fresh id (M.granted id)):=by
 unfold SsM.at idxS
 rw[List.find?_eq_bind_findIdx?_getElem?]
 cases h:(List.findIdx? (fun x=>decide (x.id=id)) M.str).bind fun i=>M.str[i]? with
 |none=>rfl
 |some x=>rfl
theorem SsM.at_some {M:SsM}{id:Int}{i:Nat}{x:SmM}(h:idxS M.str id=some i)(hx:M.str[i]?=some x):M.at id=x:=by
 rw[SsM.at_eq,h]
 show (M.str[i]?).getD _=x
 rw[hx]
 rfl
theorem SsM.at_idx {M:SsM}{id:Int}{i:Nat}(h:idxS M.str id=some i):M.str[i]?=some (M.at id)∧(M.at id).id=id:=by
 obtain⟨hi,he⟩:=idxS_lt h
 have h1:M.str[i]?=some M.str[i]:=List.getElem?_eq_getElem hi
 rw[SsM.at_some h h1]
 exact⟨h1,he⟩
theorem SsM.at_none {M:SsM}{id:Int}(h:idxS M.str id=none):M.at id=M.fresh id (M.granted id):=by
 rw[SsM.at_eq,h]
 rfl
theorem SsM.at_id {M:SsM}{id:Int}:(M.at id).id=id:=by
 cases h:idxS M.str id with
 |none=>rw[SsM.at_none h];rfl
 |some i=>exact(SsM.at_idx h).2
theorem SsM.at_congr {M N:SsM}(h1:M.str=N.str)(h2:M.cl=N.cl)(h3:M.own=N.own)(h4:M.their=N.their):M.at=N.at:=by
 funext id
 have hm:∀j,M.mine j=N.mine j:=fun j=>by unfold SsM.mine;rw[h2]
 have e1:M.granted id=N.granted id:=by unfold SsM.granted;rw[hm,h4]
 have e2:M.grants id=N.grants id:=by unfold SsM.grants;rw[hm,h3]
 have e3:M.fresh id (M.granted id)=N.fresh id (N.granted id):=by unfold SsM.fresh;rw[hm,e1,e2]
 rw[SsM.at_eq,SsM.at_eq,h1,e3]
theorem SsM.setS_at {M:SsM}{i:Nat}{id:Int}{x':SmM}(h:idxS M.str id=some i)(hid:x'.id=id):(M.setS i x').at=fun j=>if j=id then x' else M.at j:=by
 obtain⟨hx,he⟩:=SsM.at_idx h
 obtain⟨hl,hxe⟩:=List.getElem?_eq_some_iff.1 hx
 have hset:∀j,idxS (M.str.set i x') j=idxS M.str j:=idxS_set hx (hid.trans he.symm)
 funext j
 rw[SsM.at_eq]
 show ((idxS (M.str.set i x') j).bind fun a=>(M.str.set i x')[a]?).getD (M.fresh j (M.granted j))=_
 rw[hset]
 by_cases hj:j=id
 ·subst hj
  rw[if_pos rfl,h]
  show ((M.str.set i x')[i]?).getD _=x'
  rw[List.getElem?_set_self hl]
  rfl
 ·rw[if_neg hj,SsM.at_eq]
  cases hk:idxS M.str j with
  |none=>rfl
  |some a=>
   have ha:i≠a:=by
    rintro rfl
    have:=(SsM.at_idx hk).1
    rw[hx]at this
    have:=congrArg SmM.id (Option.some.inj this)
    rw[he,SsM.at_id]at this
    exact hj this.symm
   show ((M.str.set i x')[a]?).getD _=(M.str[a]?).getD _
   rw[List.getElem?_set_ne ha]
theorem SsM.add_at {M:SsM}{id:Int}(h:idxS M.str id=none):(M.add (M.fresh id (M.granted id))).at=M.at:=by
 funext j
 have hs:=idxS_snoc (xs:=M.str) (x:=M.fresh id (M.granted id)) (k:=j) h
 have e1:(M.add (M.fresh id (M.granted id))).str=M.str++[M.fresh id (M.granted id)]:=rfl
 rw[SsM.at_eq,SsM.at_eq,e1,hs]
 have e2:(M.fresh id (M.granted id)).id=id:=rfl
 rw[e2]
 by_cases hj:j=id
 ·subst hj
  rw[if_pos rfl,h]
  show ((M.str++[M.fresh j (M.granted j)])[M.str.length]?).getD _=M.fresh j (M.granted j)
  rw[List.getElem?_append_right (Nat.le_refl _),Nat.sub_self]
  rfl
 ·rw[if_neg hj]
  cases hk:idxS M.str j with
  |none=>rfl
  |some a=>
   obtain⟨ha,_⟩:=idxS_lt hk
   show ((M.str++[M.fresh id (M.granted id)])[a]?).getD _=(M.str[a]?).getD _
   rw[List.getElem?_append_left ha]
   rfl
theorem SsM.fresh_wf {M:SsM}{id g:Int}(h1:M.own.WF)(hid:0≤id∧id≤18446744073709551615)(hg:0≤g):(M.fresh id g).WF:=by
 have hgr:=grants_b (id:=id) h1
 have r0:(got0.raise g).WF:=GotM.raise_wf got0_wf hg
 have n0:(GivM.new (M.grants id)).WF:=GivM.new_wf hgr.1
 unfold SsM.fresh
 refine⟨hid,?_,?_,by dsimp only;omega,by dsimp only;omega,by show inQ 0;unfold inQ;omega,?_,?_,?_,?_⟩
 ·dsimp only;split
  ·exact n0
  ·exact giv0_wf
 ·dsimp only;split
  ·exact r0
  ·exact got0_wf
 ·dsimp only;intro m hm
  split at hm
  ·cases hm;exact in0_wf
  ·cases hm
 ·dsimp only;intro m hm
  split at hm
  ·cases hm;exact buf0_wf
  ·cases hm
 ·dsimp only;split<;>simp
 ·dsimp only;split<;>simp
theorem SsM.WF.at_ {M:SsM}(h:M.WF){id:Int}(hid:0≤id∧id≤18446744073709551615):(M.at id).WF:=by
 cases hx:idxS M.str id with
 |none=>rw[SsM.at_none hx];exact SsM.fresh_wf h.own hid (granted_b h.their).1
 |some i=>exact h.str _ (List.mem_of_getElem? (SsM.at_idx hx).1)
theorem SsM.WF.setS {M:SsM}(h:M.WF){i:Nat}{id:Int}{x':SmM}(hi:idxS M.str id=some i)(hx:x'.WF)(hid:x'.id=id):(M.setS i x').WF:=by
 obtain⟨hx0,he⟩:=SsM.at_idx hi
 obtain⟨hl,hxe⟩:=List.getElem?_eq_some_iff.1 hx0
 have hset:∀j,idxS (M.str.set i x') j=idxS M.str j:=idxS_set hx0 (hid.trans he.symm)
 have hmap:(M.str.set i x').map (·.id)=M.str.map (·.id):=by
  rw[List.map_set]
  have:x'.id=(M.str.map (·.id))[i]'(by simpa using hl):=by rw[List.getElem_map,hxe,he,hid]
  rw[this]
  exact List.set_getElem_self _
 refine⟨h.giv,h.got,h.own,h.their,fun x hm=>?_,?_,fun x hm=>?_,h.k0,h.k1,h.r0,h.r1,fun j h0 h1 h2=>?_⟩
 ·rcases List.mem_or_eq_of_mem_set hm with hm|rfl
  ·exact h.str x hm
  ·exact hx
 ·show ((M.str.set i x').map (·.id)).Nodup
  rw[hmap]
  exact h.nd
 ·rcases List.mem_or_eq_of_mem_set hm with hm|rfl
  ·exact h.ex x hm
  ·have:=h.ex _ (List.mem_of_getElem? hx0)
   rw[he]at this
   rw[hid]
   exact this
 ·obtain⟨a,ha⟩:=h.mn j h0 h1 h2
  exact⟨a,(hset j).trans ha⟩
theorem SsM.setK_kd {M:SsM}{k j:Int}{n:KdM}(h1:n.op=(M.kn k).op)(h2:n.came=(M.kn k).came)(hk:k=0∨k=1):((M.setK k n).kd j).op=(M.kd j).op∧((M.setK k n).kd j).came=(M.kd j).came:=by
 unfold SsM.setK SsM.kd
 rcases hk with rfl|rfl<;>rcases kdI_or (id:=j)with hj|hj<;>simp[hj,SsM.kn]at h1 h2⊢<;>exact⟨h1,h2⟩
theorem SsM.WF.setK {M:SsM}(h:M.WF){k:Int}{n:KdM}(hk:k=0∨k=1)(hn:n.WF)(h1:n.op=(M.kn k).op)(h2:n.came=(M.kn k).came):(M.setK k n).WF:=by
 have e:=fun j=>SsM.setK_kd (M:=M) (j:=j) h1 h2 hk
 have em:∀j,(M.setK k n).mine j=M.mine j:=fun j=>by unfold SsM.setK;split<;>rfl
 have es:(M.setK k n).str=M.str:=by unfold SsM.setK;split<;>rfl
 have hex:∀x∈(M.setK k n).str,x.id≤18446744073709551615∧0≤x.id∧(if (M.setK k n).mine x.id=true then cnI x.id<((M.setK k n).kd x.id).op else cnI x.id<((M.setK k n).kd x.id).came):=by
  rw[es]
  intro x hx
  rw[em,(e _).1,(e _).2]
  exact h.ex x hx
 have hmn:∀j,0≤j→(M.setK k n).mine j=true→cnI j<((M.setK k n).kd j).op→∃i,idxS (M.setK k n).str j=some i:=by
  rw[es]
  intro j g0 g1 g2
  rw[em]at g1
  rw[(e _).1]at g2
  exact h.mn j g0 g1 g2
 rcases hk with rfl|rfl
 ·exact⟨h.giv,h.got,h.own,h.their,h.str,h.nd,hex,hn,h.k1,by show RunsOK M.r0 n.came M.their.l;rw[h2];exact h.r0,h.r1,hmn⟩
 ·exact⟨h.giv,h.got,h.own,h.their,h.str,h.nd,hex,h.k0,hn,h.r0,by show RunsOK M.r1 n.came M.their.u;rw[h2];exact h.r1,hmn⟩
theorem SsM.WF.give {M:SsM}(h:M.WF){g:GivM}(hg:g.WF):({M with giv:=g}:SsM).WF:=⟨hg,h.got,h.own,h.their,h.str,h.nd,h.ex,h.k0,h.k1,h.r0,h.r1,h.mn⟩
theorem SsM.WF.getg {M:SsM}(h:M.WF){g:GotM}(hg:g.WF):({M with got:=g}:SsM).WF:=⟨h.giv,hg,h.own,h.their,h.str,h.nd,h.ex,h.k0,h.k1,h.r0,h.r1,h.mn⟩
theorem SsM.WF.add {M:SsM}(h:M.WF){id:Int}(hid:0≤id∧id≤18446744073709551615)(hn:idxS M.str id=none)(hh:M.has id):(M.add (M.fresh id (M.granted id))).WF:=by
 have hs:=fun j=>idxS_snoc (xs:=M.str) (x:=M.fresh id (M.granted id)) (k:=j) hn
 refine⟨h.giv,h.got,h.own,h.their,fun x hm=>?_,?_,fun x hm=>?_,h.k0,h.k1,h.r0,h.r1,fun j h0 h1 h2=>?_⟩
 ·rcases List.mem_append.1 hm with hm|hm
  ·exact h.str x hm
  ·cases List.mem_singleton.1 hm
   exact SsM.fresh_wf h.own hid (granted_b h.their).1
 ·show ((M.str++[M.fresh id (M.granted id)]).map (·.id)).Nodup
  rw[List.map_append,List.nodup_append]
  refine⟨h.nd,by simp,fun a ha b hb=>?_⟩
  obtain⟨y,hy,rfl⟩:=List.mem_map.1 ha
  simp only[List.map_cons,List.map_nil,List.mem_singleton]at hb
  subst hb
  exact idxS_none hn y hy
 ·rcases List.mem_append.1 hm with hm|hm
  ·exact h.ex x hm
  ·cases List.mem_singleton.1 hm
   exact⟨hid.2,hid.1,hh.2⟩
 ·obtain⟨a,ha⟩:=h.mn j h0 h1 h2
  have:=hs j
  by_cases hj:j=id
  ·exact⟨_,this.trans (if_pos hj)⟩
  ·exact⟨a,(this.trans (if_neg hj)).trans ha⟩
structure Made (M:SsM)(A:SdM)(i:Nat)(id:Int):Prop where
 wf:M.WF
 abs:M.abs=A
 idx:idxS M.str id=some i
theorem Made.get {M:SsM}{A:SdM}{i:Nat}{id:Int}(h:Made M A i id):M.str[i]?=some (A.x id)∧(A.x id).id=id:=by
 rw[←h.abs]
 exact SsM.at_idx h.idx
theorem Made.put {M:SsM}{A:SdM}{i:Nat}{id:Int}{x':SmM}(h:Made M A i id)(hx:x'.WF)(hid:x'.id=id):Made (M.setS i x') (A.put id x') i id:=by
 refine⟨h.wf.setS h.idx hx hid,?_,?_⟩
 ·rw[←h.abs]
  unfold SsM.abs SdM.put
  rw[SsM.setS_at h.idx hid]
  rfl
 ·exact(idxS_set h.get.1 (hid.trans h.get.2.symm) id).trans h.idx
theorem Made.give {M:SsM}{A:SdM}{i:Nat}{id:Int}{g:GivM}(h:Made M A i id)(hg:g.WF):Made {M with giv:=g} {A with giv:=g} i id:=⟨h.wf.give hg,by rw[←h.abs];rfl,h.idx⟩
theorem Made.getg {M:SsM}{A:SdM}{i:Nat}{id:Int}{g:GotM}(h:Made M A i id)(hg:g.WF):Made {M with got:=g} {A with got:=g} i id:=⟨h.wf.getg hg,by rw[←h.abs];rfl,h.idx⟩
theorem SsM.abs_setK {M:SsM}{k:Int}{n:KdM}:(M.setK k n).abs=M.abs.setK k n:=by
 unfold SsM.setK SdM.setK
 split
 ·unfold SsM.abs
  rw[SsM.at_congr (M:={M with k0:=n}) (N:=M) rfl rfl rfl rfl]
 ·unfold SsM.abs
  rw[SsM.at_congr (M:={M with k1:=n}) (N:=M) rfl rfl rfl rfl]
theorem SsM.setK_str {M:SsM}{k:Int}{n:KdM}:(M.setK k n).str=M.str:=by unfold SsM.setK;split<;>rfl
theorem SsM.WF.kd_ {M:SsM}(h:M.WF){id:Int}:(M.kd id).WF:=by
 unfold SsM.kd
 split
 ·exact h.k0
 ·exact h.k1
def KdM.more (k:KdM):KdM:={k with giv:=k.giv+1}
theorem KdM.more_wf {k:KdM}(h:k.WF)(hg:k.giv<4611686018427387903):k.more.WF:=by
 have:=h.giv
 exact⟨h.op,h.may,h.came,by show 0≤k.giv+1∧k.giv+1≤_;omega,h.told⟩
def SmM.count (x:SmM):SmM:={x with counted:=true}
theorem Made.settle {M:SsM}{A:SdM}{i:Nat}{id:Int}{x':SmM}(h:Made M A i id)(hx:x'.WF)(hid:x'.id=id)(hg:(A.kd id).giv<4611686018427387903):Made ((M.setS i x').settle i x') (A.settle id x') i id:=by
 subst hid
 have h1:=h.put hx rfl
 have em:(M.setS i x').mine x'.id=A.mine x'.id:=by rw[←h.abs];rfl
 unfold SsM.settle SdM.settle
 rw[em]
 by_cases hd:x'.isDone (A.mine x'.id)
 ·rw[if_pos hd,if_pos hd]
  have hx2:x'.count.WF:=⟨hx.id,hx.giv,hx.got,hx.reset,hx.stop,hx.code,hx.inn,hx.out,hx.send,hx.recv⟩
  have h2:=h1.put (x':=x'.count) hx2 rfl
  rw[SdM.put_put]at h2
  have ek:(M.setS i x').kd x'.id=A.kd x'.id:=by rw[←h.abs];rfl
  have ekn:((M.setS i x').setS i x'.count).kn (kdI x'.id)=A.kd x'.id:=by rw[←h.abs];rfl
  have hkw:(A.kd x'.id).WF:=by
   rw[←h.abs]
   exact h.wf.kd_
  show Made (((M.setS i x').setS i x'.count).setK (kdI x'.id) ((M.setS i x').kd x'.id).more) ((A.put x'.id x'.count).setK (kdI x'.id) (A.kd x'.id).more) i x'.id
  rw[ek]
  refine⟨h2.wf.setK kdI_or (KdM.more_wf hkw hg) ?_ ?_,?_,?_⟩
  ·rw[ekn];rfl
  ·rw[ekn];rfl
  ·rw[SsM.abs_setK,h2.abs]
  ·rw[SsM.setK_str];exact h2.idx
 ·rw[if_neg hd,if_neg hd]
  have:(M.setS i x').setS i x'=M.setS i x':=SsM.setS_same (by rw[h1.get.1,SdM.put_x])
  rw[this]
  exact h1
theorem SsM.touch_made {M:SsM}{id:Int}{i:Nat}(h:M.WF)(hid:0≤id∧id≤18446744073709551615)(hh:M.has id)(hi:idxS (M.touch id).str id=some i):Made (M.touch id) M.abs i id:=by
 unfold SsM.touch at hi⊢
 by_cases hn:idxS M.str id=none
 ·rw[if_pos hn]at hi⊢
  refine⟨h.add hid hn hh,?_,hi⟩
  unfold SsM.abs
  rw[SsM.add_at hn]
  rfl
 ·rw[if_neg hn]at hi⊢
  exact⟨h,rfl,hi⟩
end Go.Proofs.YtnlaffkihohfkaaGreat
namespace Go.Proofs.YtnlaffkihohfkaaGreat
open Go Go.Sl Go.Proofs
variable {B:Nat}{w0:World}{G:List Hp}{R:Hp→List Hp}
def KdM.cameTo (k:KdM)(n:Int):KdM:={k with came:=n}
instance {A:SdM}{id:Int}:Decidable (A.has id):=by unfold SdM.has;infer_instance
def SdM.come (A:SdM)(id:Int):SdM:=if A.has id then A else A.setK (kdI id) ((A.kd id).cameTo (cnI id+1))
theorem SdM.come_x {A:SdM}{id:Int}:(A.come id).x=A.x:=by unfold SdM.come;split<;>first|rfl|exact SdM.setK_x
theorem SdM.come_giv {A:SdM}{id:Int}:(A.come id).giv=A.giv:=by unfold SdM.come;split<;>first|rfl|exact SdM.setK_giv
theorem SdM.come_got {A:SdM}{id:Int}:(A.come id).got=A.got:=by unfold SdM.come;split<;>first|rfl|exact SdM.setK_got
theorem SdM.come_cl {A:SdM}{id:Int}:(A.come id).cl=A.cl:=by unfold SdM.come;split<;>first|rfl|exact SdM.setK_cl
theorem SsM.abs_reached {M:SsM}{id:Int}:(M.reached id).abs=M.abs.setK (kdI id) ((M.abs.kd id).cameTo (cnI id+1)):=by
 have e:(M.reached id)=(M.setR (kdI id) (M.rn (kdI id)++[⟨(M.kd id).came,cnI id+1,M.granted id⟩])).setK (kdI id) ((M.kd id).cameTo (cnI id+1)):=rfl
 rw[e,SsM.abs_setK]
 congr 1
 unfold SsM.setR
 split
 ·unfold SsM.abs
  rw[SsM.at_congr (M:={M with r0:=M.rn (kdI id)++[⟨(M.kd id).came,cnI id+1,M.granted id⟩]}) (N:=M) rfl rfl rfl rfl]
 ·unfold SsM.abs
  rw[SsM.at_congr (M:={M with r1:=M.rn (kdI id)++[⟨(M.kd id).came,cnI id+1,M.granted id⟩]}) (N:=M) rfl rfl rfl rfl]
theorem SsM.come_made {M:SsM}{id:Int}{i:Nat}(h:M.WF)(hid:0≤id∧id≤18446744073709551615)(hh:M.has id∨(M.mine id=false∧cnI id<(M.kd id).giv∧(M.kd id).giv≤1000000))(hi:idxS (M.come id).str id=some i):Made (M.come id) (M.abs.come id) i id:=by
 unfold SsM.come at hi⊢
 unfold SdM.come
 by_cases hc:M.has id
 ·have hc':M.abs.has id:=hc
  rw[if_pos hc]at hi⊢
  rw[if_pos hc']
  exact SsM.touch_made h hid hc hi
 ·have hc':¬M.abs.has id:=hc
  rw[if_neg hc]at hi⊢
  rw[if_neg hc']
  obtain⟨h1,h2,h3⟩:=hh.resolve_left hc
  have hm:=SsM.touch_made (SsM.reached_wf h hid.1 h1 hc h2 h3) hid (SsM.reached_has hid.1 h1) hi
  rw[SsM.abs_reached]at hm
  exact hm
def KdM.opMore (k:KdM):KdM:={k with op:=k.op+1}
def SdM.opened (A:SdM)(k:Int):SdM:=A.setK k (A.kn k).opMore
theorem SsM.opened_wf {M:SsM}{k:Int}(h:M.WF)(hk:k=0∨k=1)(hn:(M.kn k).op<1000000):(M.opened k).WF∧(M.opened k).abs=M.abs.opened k:=by
 have hb:=SsM.next_b h hk
 have hno:=SsM.next_none h hk
 have hmi:M.mine (M.nextId k)=true:=SsM.mine_idOf
 have hkd:kdI (M.nextId k)=k:=idOf_kd hk
 have hcn:cnI (M.nextId k)=(M.kn k).op:=idOf_cn hk
 have e0:M.opened k=(M.setK k (M.kn k).opMore).add ((M.setK k (M.kn k).opMore).fresh (M.nextId k) ((M.setK k (M.kn k).opMore).granted (M.nextId k))):=rfl
 have es:(M.setK k (M.kn k).opMore).str=M.str:=SsM.setK_str
 have em:∀j,(M.setK k (M.kn k).opMore).mine j=M.mine j:=fun j=>by unfold SsM.setK;split<;>rfl
 have ekd:∀j,(M.setK k (M.kn k).opMore).kd j=if kdI j=k then (M.kn k).opMore else M.kd j:=fun j=>by
  unfold SsM.setK SsM.kd
  rcases hk with rfl|rfl<;>rcases kdI_or (id:=j)with hj|hj<;>simp[hj]
 have eo:(M.setK k (M.kn k).opMore).own=M.own:=by unfold SsM.setK;split<;>rfl
 have et:(M.setK k (M.kn k).opMore).their=M.their:=by unfold SsM.setK;split<;>rfl
 have hno':idxS (M.setK k (M.kn k).opMore).str (M.nextId k)=none:=by rw[es];exact hno
 have hs:=fun j=>idxS_snoc (xs:=M.str) (x:=(M.setK k (M.kn k).opMore).fresh (M.nextId k) ((M.setK k (M.kn k).opMore).granted (M.nextId k))) (k:=j) hno
 rw[e0]
 constructor
 ·have hkw:(M.kn k).WF:=by unfold SsM.kn;split;exact h.k0;exact h.k1
  have hkw':(M.kn k).opMore.WF:=⟨by have:=hkw.op;show 0≤(M.kn k).op+1∧(M.kn k).op+1≤_;omega,hkw.may,hkw.came,hkw.giv,hkw.told⟩
  have hstr:∀x∈M.str++[(M.setK k (M.kn k).opMore).fresh (M.nextId k) ((M.setK k (M.kn k).opMore).granted (M.nextId k))],x.WF:=fun x hm=>by
   rcases List.mem_append.1 hm with hm|hm
   ·exact h.str x hm
   ·cases List.mem_singleton.1 hm
    exact SsM.fresh_wf (by rw[eo];exact h.own) hb (granted_b (by rw[et];exact h.their)).1
  have hnd:((M.str++[(M.setK k (M.kn k).opMore).fresh (M.nextId k) ((M.setK k (M.kn k).opMore).granted (M.nextId k))]).map (·.id)).Nodup:=by
   rw[List.map_append,List.nodup_append]
   refine⟨h.nd,by simp,fun a ha b hb=>?_⟩
   obtain⟨y,hy,rfl⟩:=List.mem_map.1 ha
   simp only[List.map_cons,List.map_nil,List.mem_singleton]at hb
   subst hb
   exact idxS_none hno y hy
  have hex:∀x∈M.str++[(M.setK k (M.kn k).opMore).fresh (M.nextId k) ((M.setK k (M.kn k).opMore).granted (M.nextId k))],x.id≤18446744073709551615∧0≤x.id∧(if (M.setK k (M.kn k).opMore).mine x.id=true then cnI x.id<((M.setK k (M.kn k).opMore).kd x.id).op else cnI x.id<((M.setK k (M.kn k).opMore).kd x.id).came):=fun x hm=>by
   rcases List.mem_append.1 hm with hm|hm
   ·obtain⟨h1,h2,h3⟩:=h.ex x hm
    refine⟨h1,h2,?_⟩
    rw[em,ekd]
    by_cases hj:kdI x.id=k
    ·rw[if_pos hj]
     have:M.kd x.id=M.kn k:=by rw[SsM.kd_kn,hj]
     rw[this]at h3
     split at h3
     ·next g=>rw[if_pos g];show cnI x.id<(M.kn k).op+1;omega
     ·next g=>rw[if_neg g];exact h3
    ·rw[if_neg hj];exact h3
   ·cases List.mem_singleton.1 hm
    refine⟨hb.2,hb.1,?_⟩
    show if (M.setK k (M.kn k).opMore).mine (M.nextId k)=true then cnI (M.nextId k)<((M.setK k (M.kn k).opMore).kd (M.nextId k)).op else _
    rw[em,hmi,if_pos rfl,ekd,if_pos hkd,hcn]
    show (M.kn k).op<(M.kn k).op+1
    omega
  have hmn:∀j,0≤j→(M.setK k (M.kn k).opMore).mine j=true→cnI j<((M.setK k (M.kn k).opMore).kd j).op→∃i,idxS (M.str++[(M.setK k (M.kn k).opMore).fresh (M.nextId k) ((M.setK k (M.kn k).opMore).granted (M.nextId k))]) j=some i:=fun j g0 g1 g2=>by
   have hsj:=hs j
   by_cases hj:j=M.nextId k
   ·exact⟨_,hsj.trans (if_pos hj)⟩
   ·rw[em]at g1
    rw[ekd]at g2
    have g3:cnI j<(M.kd j).op:=by
     by_cases hk2:kdI j=k
     ·rw[if_pos hk2]at g2
      have:M.kd j=M.kn k:=by rw[SsM.kd_kn,hk2]
      rw[this]
      have g4:cnI j<(M.kn k).op+1:=g2
      rcases Int.lt_or_eq_of_le (Int.lt_add_one_iff.1 g4)with g5|g5
      ·exact g5
      ·exfalso
       apply hj
       have:=idOf_eq (cl:=M.cl) g0
       rw[this]
       unfold SsM.nextId
       have hm2:decide (decide (oddI j=0)=M.cl)=true:=g1
       rw[hm2,hk2,g5]
     ·rw[if_neg hk2]at g2;exact g2
    obtain⟨a,ha⟩:=h.mn j g0 g1 g3
    exact⟨a,(hsj.trans (if_neg hj)).trans ha⟩
  have e1:∀(N:SsM),N.str=M.str→(N.add ((M.setK k (M.kn k).opMore).fresh (M.nextId k) ((M.setK k (M.kn k).opMore).granted (M.nextId k)))).str=M.str++[(M.setK k (M.kn k).opMore).fresh (M.nextId k) ((M.setK k (M.kn k).opMore).granted (M.nextId k))]:=fun N hN=>by
   show N.str++_=_
   rw[hN]
  rw[←e1 _ es]at hstr hnd hex hmn
  rcases hk with rfl|rfl
  ·exact⟨h.giv,h.got,h.own,h.their,hstr,hnd,hex,hkw',h.k1,h.r0,h.r1,hmn⟩
  ·exact⟨h.giv,h.got,h.own,h.their,hstr,hnd,hex,h.k0,hkw',h.r0,h.r1,hmn⟩
 ·unfold SdM.opened
  have e2:M.abs.kn k=M.kn k:=rfl
  rw[e2,←SsM.abs_setK]
  have e3:=SsM.add_at (M:=M.setK k (M.kn k).opMore) hno'
  unfold SsM.abs
  rw[e3]
  rfl
def SdM.sentD (A:SdM)(id:Int)(o:BufM)(stop:Int):SdM:=if stop≤(A.x id).got.used then A.put id ((A.x id).outTo o) else {A.put id {(A.x id).outTo o with got:=(A.x id).got.use (stop-(A.x id).got.used)} with got:=A.got.use (stop-(A.x id).got.used)}
theorem SmM.WF.outTo {x:SmM}{o:BufM}(h:x.WF)(ho:o.WF)(hs:x.send≠0):(x.outTo o).WF:=⟨h.id,h.giv,h.got,h.reset,h.stop,h.code,h.inn,fun m hm=>by cases hm;exact ho,⟨⟨fun e=>absurd e hs,fun e=>by cases e⟩,h.send.2⟩,h.recv⟩
theorem SmM.WF.gotTo {x:SmM}{g:GotM}(h:x.WF)(hg:g.WF):({x with got:=g}:SmM).WF:=⟨h.id,h.giv,hg,h.reset,h.stop,h.code,h.inn,h.out,h.send,h.recv⟩
theorem SmM.WF.givTo {x:SmM}{g:GivM}(h:x.WF)(hg:g.WF):({x with giv:=g}:SmM).WF:=⟨h.id,hg,h.got,h.reset,h.stop,h.code,h.inn,h.out,h.send,h.recv⟩
theorem Made.sentD {M:SsM}{A:SdM}{i:Nat}{id:Int}{o:BufM}{f:FsM}(h:Made M A i id)(hf:f.id=id)(ho:(o.sent f.off f.data.length f.fin).WF)(hs:(A.x id).send≠0)(hw:(A.x id).WF)(hgot:A.got.WF):
  Made (M.sentD i (A.x id) o f) (A.sentD id (o.sent f.off f.data.length f.fin) (f.off+f.data.length)) i id:=by
 have hx1:((A.x id).outTo (o.sent f.off f.data.length f.fin)).WF:=hw.outTo ho hs
 have h1:=h.put hx1 h.get.2
 unfold SsM.sentD SsM.spend SdM.sentD
 have e1:((A.x id).outTo (o.sent f.off f.data.length f.fin)).got=(A.x id).got:=rfl
 rw[e1]
 by_cases hc:f.off+f.data.length≤(A.x id).got.used
 ·rw[if_pos hc,if_pos hc]
  have:=h1.put hx1 h.get.2
  rw[SdM.put_put]at this
  exact this
 ·rw[if_neg hc,if_neg hc]
  have hn:0≤f.off+f.data.length-(A.x id).got.used:=by omega
  have h2:=h1.put (hx1.gotTo (GotM.use_wf hw.got hn)) h.get.2
  rw[SdM.put_put]at h2
  have e2:(M.setS i ((A.x id).outTo (o.sent f.off f.data.length f.fin))).got=A.got:=by rw[←h.abs];rfl
  have h3:=h2.getg (GotM.use_wf hgot hn)
  rw[e2]
  exact h3
def SdM.cameD (A:SdM)(id:Int)(o:BufM):SdM:=if (A.x id).send=2∧(o.endCame&&decide (o.data.length=0))=true then A.settle id ((A.x id).overO o) else A.put id ((A.x id).outTo o)
theorem Made.cameD {M:SsM}{A:SdM}{i:Nat}{id:Int}{o:BufM}(h:Made M A i id)(ho:o.WF)(hs:(A.x id).send≠0)(hw:(A.x id).WF)(hg:(A.kd id).giv<4611686018427387903):Made (M.cameD i (A.x id) o) (A.cameD id o) i id:=by
 unfold SsM.cameD SdM.cameD
 split
 ·refine h.settle ?_ h.get.2 hg
  exact⟨hw.id,hw.giv,hw.got,hw.reset,hw.stop,hw.code,hw.inn,fun m hm=>by cases hm;exact ho,⟨⟨fun e=>absurd e (by show (3:Int)≠0;decide),fun e=>by cases e⟩,by show (0:Int)≤3∧(3:Int)≤5;decide⟩,hw.recv⟩
 ·exact h.put (hw.outTo ho hs) h.get.2
end Go.Proofs.YtnlaffkihohfkaaGreat
namespace Go.Proofs.YtnlaffkihohfkaaGreat
open Go Go.Sl Go.Proofs
variable {B:Nat}{w0:World}{G:List Hp}{R:Hp→List Hp}
def bufG (t:List UInt8)(k:Nat)(f e:Bool):BufM:=⟨t.drop k,k,rngL k t.length,rngL 0 k,f,f&&!e,e⟩
def bufS (t:List UInt8)(k n:Nat)(f:Bool):BufM:=⟨t.drop k,k,rngL (k+n:Nat) t.length,rngL 0 k,f,f&&!decide (k+n=t.length),false⟩
theorem bufGS_wf {t:List UInt8}{k n:Nat}{f w e:Bool}(hk:k+n≤t.length)(ht:t.length≤60000):(⟨t.drop k,k,rngL (k+n:Nat) t.length,rngL 0 k,f,w,e⟩:BufM).WF:=by
 have hd:(t.drop k).length=t.length-k:=List.length_drop ..
 refine⟨by dsimp only;omega,by dsimp only;omega,rngL_good zom zom,rngL_good zom zom,fun n hn=>?_,fun n hn=>?_,fun n hn h=>?_,fun n h1 h2=>rngL_mem.2 ⟨h1,h2⟩,fun h=>?_⟩
 ·have:=rngL_mem.1 hn;dsimp only;omega
 ·have:=rngL_mem.1 hn;dsimp only;omega
 ·have:=rngL_mem.1 hn;have:=rngL_mem.1 h;omega
 ·have:=rngL_mem.1 h;dsimp only at this;omega
theorem bufG_wf {t:List UInt8}{k:Nat}{f e:Bool}(hk:k≤t.length)(ht:t.length≤60000):(bufG t k f e).WF:=bufGS_wf (n:=0) zom ht
theorem bufS_wf {t:List UInt8}{k n:Nat}{f:Bool}(hk:k+n≤t.length)(ht:t.length≤60000):(bufS t k n f).WF:=bufGS_wf hk ht
theorem bufG_0:bufG [] 0 false false=buf0:=by
 have h:rngL 0 0=[]:=rngL_nil (Int.le_refl _)
 simp[bufG,buf0,h]
theorem bufG_write {t l:List UInt8}{k:Nat}(hk:k≤t.length)(ht:t.length+l.length≤60000):(bufG t k false false).write l=bufG (t++l) k false false:=by
 have hd:(t.drop k).length=t.length-k:=List.length_drop ..
 have hp:addE (rngL k t.length) ⟨(k:Int)+(t.drop k).length,(k:Int)+(t.drop k).length+l.length⟩=rngL k (t++l).length:=by
  have hr:RgIn ⟨(k:Int)+(t.drop k).length,(k:Int)+(t.drop k).length+l.length⟩:=⟨by dsimp only;omega,by dsimp only;omega⟩
  have hg:Good (rngL k t.length):=rngL_good zom zom
  rw[List.length_append]
  refine rngL_eq (addE_spec hg hr).1 zom zom fun n=>?_
  rw[(addE_spec hg hr).2.1,rngL_mem]
  dsimp only
  omega
 unfold BufM.write bufG
 dsimp only
 rw[hp,List.drop_append_of_le_length hk]
theorem bufG_next {t:List UInt8}{k:Nat}{f e:Bool}{most lim:Int}(hk:k≤t.length)(hm:1≤most):
  ((bufG t k f e).next most lim=(⟨0,[],false⟩,false)∧((k<t.length∧lim≤k)∨(k=t.length∧(f&&!e)=false)))∨
  (∃n:Nat,(bufG t k f e).next most lim=(⟨k,(t.drop k).take n,f&&decide (k+n=t.length)⟩,true)∧k+n≤t.length∧(n=0→k=t.length∧f=true∧e=false)∧(0<n→(k:Int)+n≤lim∧((n:Int)=most∨k+n=t.length∨(k:Int)+n=lim))):=by
 have hf:firstR (bufG t k f e).pend 0=if (k:Int)<t.length then (⟨k,t.length⟩,true) else (⟨0,0⟩,false):=rngL_first zom
 have hd:(t.drop k).length=t.length-k:=List.length_drop ..
 by_cases h1:k<t.length
 ·rw[if_pos zom]at hf
  by_cases hl:lim≤k
  ·refine .inl ⟨?_,.inl ⟨h1,hl⟩⟩
   rw[BufM.next,if_neg zom,hf,if_neg (by simp),if_pos zdo]
  refine .inr ⟨(min (min (t.length:Int) lim) (k+most)-k).toNat,?_,by omega,by omega,by omega⟩
  rw[BufM.next_some zom (by rw[hf];rfl) (by rw[hf];dsimp only;omega),hf]
  have e1:((bufG t k f e).base)=(k:Int):=rfl
  have e2:((bufG t k f e).data)=t.drop k:=rfl
  have e3:((bufG t k f e).fin)=f:=rfl
  rw[e1,e2,e3]
  dsimp only
  rw[Int.sub_self,hd]
  have h3:decide (min (min (t.length:Int) lim) (k+most)=k+((t.length-k:Nat):Int))=decide (k+(min (min (t.length:Int) lim) (k+most)-k).toNat=t.length):=decide_eq_decide.2 zom
  rw[h3]
  rfl
 ·rw[if_neg zom]at hf
  by_cases hw:(f&&!e)=true
  ·have hfe:f=true∧e=false:=by revert hw;cases f<;>cases e<;>simp
   obtain⟨rfl,rfl⟩:=hfe
   refine .inr ⟨0,?_,by omega,fun _=>⟨by omega,rfl,rfl⟩,fun h=>by omega⟩
   rw[BufM.next,if_neg zom,hf,if_pos rfl,if_pos (by simp[bufG])]
   have e1:(bufG t k true false).base+(bufG t k true false).data.length=(k:Int):=by
    show (k:Int)+((t.drop k).length:Int)=k
    omega
   rw[e1,List.take_zero,Nat.add_zero,decide_eq_true (show k=t.length by omega)]
   rfl
  ·refine .inl ⟨?_,.inr ⟨by omega,by simpa using hw⟩⟩
   rw[BufM.next,if_neg zom,hf,if_pos rfl,if_neg (show ¬(bufG t k f e).waits=true from hw)]
theorem bufG_sent {t:List UInt8}{k n:Nat}{f:Bool}(hk:k+n≤t.length)(ht:t.length≤60000):(bufG t k f false).sent k n (f&&decide (k+n=t.length))=bufS t k n f:=by
 have hw:(bufG t k f false).WF:=bufG_wf zom ht
 have hp:((bufG t k f false).sent k n (f&&decide (k+n=t.length))).pend=rngL (k+n:Nat) t.length:=by
  refine rngL_eq (BufM.sent_wf hw zom zom).gp zom zom fun n=>?_
  rw[BufM.sent_mem hw zom zom]
  have:InR (bufG t k f false).pend n↔(k:Int)≤n∧n<t.length:=rngL_mem
  rw[this]
  omega
 have h2:(bufG t k f false).sent k n (f&&decide (k+n=t.length))=⟨t.drop k,k,((bufG t k f false).sent k n (f&&decide (k+n=t.length))).pend,rngL 0 k,f,if (f&&decide (k+n=t.length))=true then false else (f&&!false),false⟩:=rfl
 rw[h2,hp,bufS]
 congr 1
 cases f<;>cases decide (k+n=t.length)<;>rfl
theorem bufS_lost {t:List UInt8}{k n:Nat}{f:Bool}(hk:k+n≤t.length)(ht:t.length≤60000):(bufS t k n f).lostIt k n (f&&decide (k+n=t.length))=bufG t k f false:=by
 have hw:(bufS t k n f).WF:=bufS_wf hk ht
 have hd:(t.drop k).length=t.length-k:=List.length_drop ..
 have e1:(bufS t k n f).base+(bufS t k n f).data.length=(t.length:Int):=by show (k:Int)+((t.drop k).length:Int)=_;omega
 have hwr:(bufS t k n f).written k n=true:=BufM.written_iff.2 ⟨by omega,by rw[e1];omega,by rw[e1];omega⟩
 have hp:((bufS t k n f).lose k n).pend=rngL k t.length:=by
  have hm:=BufM.lose_mem hw (at_:=k) (size:=n) zom zom (by rw[e1];omega)
  refine rngL_eq (hm 0).1 zom zom fun i=>?_
  rw[(hm i).2]
  have h1:InR (bufS t k n f).pend i↔((k+n:Nat):Int)≤i∧i<t.length:=rngL_mem
  have h2:InR (bufS t k n f).came i↔(0:Int)≤i∧i<k:=rngL_mem
  rw[h1,h2]
  omega
 have hlo:(bufS t k n f).lose k n=⟨t.drop k,k,rngL k t.length,rngL 0 k,f,f&&!(decide (k+n=t.length)),false⟩:=by
  rw[←hp]
  unfold BufM.lose
  split<;>rfl
 unfold BufM.lostIt
 rw[if_pos hwr,hlo]
 cases f with
 |false=>rw[if_neg (by simp)];rfl
 |true=>
  by_cases hf:k+n=t.length
  ·rw[if_pos ⟨by simp[hf],rfl,rfl⟩]
   rfl
  ·rw[if_neg (by simp[hf]),decide_eq_false hf]
   rfl
theorem bufS_came {t:List UInt8}{k n:Nat}{f:Bool}(hk:k+n≤t.length)(ht:t.length≤60000):(bufS t k n f).gotIt k n (f&&decide (k+n=t.length))=bufG t (k+n) f (f&&decide (k+n=t.length)):=by
 have hw:(bufS t k n f).WF:=bufS_wf hk ht
 have hd:(t.drop k).length=t.length-k:=List.length_drop ..
 have e1:(bufS t k n f).base+(bufS t k n f).data.length=(t.length:Int):=by show (k:Int)+((t.drop k).length:Int)=_;omega
 have hwr:(bufS t k n f).written k n=true:=BufM.written_iff.2 ⟨by omega,by rw[e1];omega,by rw[e1];omega⟩
 have htk:(bufS t k n f).take k n=⟨t.drop (k+n),(k+n:Nat),rngL (k+n:Nat) t.length,rngL 0 (k+n:Nat),f,f&&!(decide (k+n=t.length)),false⟩:=by
  unfold BufM.take
  by_cases hm:n=0
  ·subst hm
   rw[if_neg zom]
   rfl
  ·rw[if_pos zom]
   have hrg:RgIn ⟨k,(k:Int)+n⟩:=⟨by dsimp only;omega,by dsimp only;omega⟩
   have h1:cutE (bufS t k n f).pend ⟨k,(k:Int)+n⟩=rngL (k+n:Nat) t.length:=by
    refine rngL_eq (cutE_spec hw.gp hrg).1 zom zom fun i=>?_
    rw[(cutE_spec hw.gp hrg).2.1]
    have h1:InR (bufS t k n f).pend i↔((k+n:Nat):Int)≤i∧i<t.length:=rngL_mem
    rw[h1]
    dsimp only
    omega
   have h2:addE (bufS t k n f).came ⟨k,(k:Int)+n⟩=rngL 0 (k+n:Nat):=by
    refine rngL_eq (addE_spec hw.gc hrg).1 zom zom fun i=>?_
    rw[(addE_spec hw.gc hrg).2.1]
    have h1:InR (bufS t k n f).came i↔(0:Int)≤i∧i<k:=rngL_mem
    rw[h1]
    dsimp only
    omega
   rw[h1,h2]
   unfold BufM.release
   have hf:firstR (rngL 0 ((k+n:Nat):Int)) 0=(⟨0,(k+n:Nat)⟩,true):=by
    rw[rngL_first zom,if_pos zom]
   dsimp only
   rw[hf,if_neg (by
    rintro (h|h|h)
    ·cases h
    ·dsimp only at h;omega
    ·have:((bufS t k n f).base)=(k:Int):=rfl
     rw[this]at h;dsimp only at h;omega)]
   have e2:(bufS t k n f).data=t.drop k:=rfl
   have e3:(bufS t k n f).base=(k:Int):=rfl
   rw[e2,e3]
   have h3:(((k+n:Nat):Int)-(k:Int)).toNat=n:=by omega
   dsimp only
   rw[h3,List.drop_drop]
   rfl
 unfold BufM.gotIt
 rw[if_pos hwr,htk]
 have hd2:(t.drop (k+n)).length=t.length-(k+n):=List.length_drop ..
 cases f with
 |false=>rw[if_neg (by simp)];rfl
 |true=>
  by_cases hf:k+n=t.length
  ·rw[if_pos ⟨by simp[hf],rfl,by dsimp only;omega⟩,decide_eq_true hf]
   rfl
  ·rw[if_neg (by simp[hf]),decide_eq_false hf]
   rfl
def inG (t:List UInt8)(r k:Nat)(kn:Bool)(fi:Int):InM:=⟨r,k,fi,kn,rngL r k,fun i=>if (r:Int)≤i∧i<k then t[i.toNat]? else none⟩
theorem inG_0:inG [] 0 0 false 0=in0:=by
 have h:rngL 0 0=[]:=rngL_nil (Int.le_refl _)
 have h2:(fun i:Int=>if ((0:Nat):Int)≤i∧i<((0:Nat):Int) then ([]:List UInt8)[i.toNat]? else none)=fun _=>none:=funext fun i=>if_neg zom
 unfold inG in0
 rw[h2]
 simp[h]
theorem inG_app {t l:List UInt8}{r k:Nat}{kn:Bool}{fi:Int}(hk:k≤t.length):inG (t++l) r k kn fi=inG t r k kn fi:=by
 unfold inG
 congr 1
 funext i
 by_cases h:(r:Int)≤i∧i<k
 ·rw[if_pos h,if_pos h,List.getElem?_append_left zom]
 ·rw[if_neg h,if_neg h]
theorem inG_wf {t:List UInt8}{r k:Nat}{kn:Bool}{fi:Int}(hr:r≤k)(hk:k≤t.length)(ht:t.length≤60000)(hf:kn=true→(k:Int)≤fi∧fi≤4611686018427387903):(inG t r k kn fi).WF:=by
 have hg:Good (rngL (r:Int) k):=rngL_good zom zom
 refine⟨hg,?_,?_,fun i=>?_,fun i h=>?_,hf⟩
 ·show (rngL (r:Int) k).length≤32
  unfold rngL
  split<;>simp
 ·show (0:Int)≤r∧(r:Int)≤k∧(k:Int)≤4611686018427387903
  omega
 ·show InR (rngL r k) i↔_
  rw[rngL_mem]
  show _↔((if (r:Int)≤i∧i<k then t[i.toNat]? else none):Option UInt8).isSome=true
  by_cases h:(r:Int)≤i∧i<k
  ·rw[if_pos h,List.getElem?_eq_getElem (show i.toNat<t.length by omega)]
   simp[h]
  ·rw[if_neg h]
   simp[h]
 ·have:=rngL_mem.1 h
  exact this
theorem inG_more {t:List UInt8}{r k n:Nat}{kn:Bool}{fi:Int}:(inG t r k kn fi).more (k+n)=n:=by
 unfold InM.more
 have:(inG t r k kn fi).high=(k:Int):=rfl
 rw[this]
 split<;>omega
theorem inG_add {t:List UInt8}{r k n:Nat}{last:Bool}(hr:r≤k)(hk:k+n≤t.length)(ht:t.length≤60000):
  (inG t r k false 0).addE k ((t.drop k).take n) last=0∧(inG t r k false 0).Agree (max (k:Int) (inG t r k false 0).read) ((inG t r k false 0).fresh k ((t.drop k).take n))∧(inG t r k false 0).add k ((t.drop k).take n) last=inG t r (k+n) last (if last=true then ((k+n:Nat):Int) else 0):=by
 have hl:((t.drop k).take n).length=n:=by rw[List.length_take,List.length_drop];omega
 have e1:(inG t r k false 0).read=(r:Int):=rfl
 have e2:(inG t r k false 0).high=(k:Int):=rfl
 have e3:(inG t r k false 0).known=false:=rfl
 have e4:(inG t r k false 0).l=rngL r k:=rfl
 have hmx:max (k:Int) r=k:=by omega
 have hfr:(inG t r k false 0).fresh k ((t.drop k).take n)=(t.drop k).take n:=by
  unfold InM.fresh
  rw[e1,hmx,Int.sub_self]
  rfl
 have hg:Good (rngL (r:Int) k):=rngL_good zom zom
 have hadd:0<n→addE (rngL (r:Int) k) ⟨k,(k:Int)+n⟩=rngL r (k+n:Nat):=fun h0=>by
  have hrg:RgIn ⟨k,(k:Int)+n⟩:=⟨by dsimp only;omega,by dsimp only;omega⟩
  refine rngL_eq (addE_spec hg hrg).1 zom zom fun i=>?_
  rw[(addE_spec hg hrg).2.1,rngL_mem]
  dsimp only
  omega
 have hst:0<n→(inG t r k false 0).storeE k ((t.drop k).take n)=0:=fun h0=>by
  unfold InM.storeE
  rw[hl,e4,hadd h0,if_neg]
  unfold rngL
  split<;>simp
 have hE:(inG t r k false 0).addE k ((t.drop k).take n) last=0:=by
  have hb:¬(inG t r k false 0).addBad k n last:=by
   rintro (⟨h,_⟩|⟨_,h⟩)
   ·cases h
   ·rw[e2]at h
    omega
  unfold InM.addE
  rw[hl,if_neg hb,e1,if_neg zom,hmx,hfr]
  split
  ·exact hst zom
  ·rfl
 refine⟨hE,?_,?_⟩
 ·rw[hfr,e1,hmx]
  intro j hj
  refine .inl ?_
  show (if (r:Int)≤(k:Int)+j∧(k:Int)+j<k then _ else none)=none
  rw[if_neg zom]
 ·unfold InM.add
  rw[if_pos hE]
  have h1:(inG t r k false 0).add1 k ((t.drop k).take n)=⟨r,k,0,false,rngL r (k+n:Nat),fun i=>if (r:Int)≤i∧i<(k+n:Nat) then t[i.toNat]? else none⟩:=by
   unfold InM.add1
   rw[hl,e1,hmx,hfr]
   by_cases h0:0<n
   ·rw[if_pos zom]
    unfold InM.store
    rw[if_pos (hst h0),hl,e4,hadd h0]
    unfold inG
    dsimp only
    congr 1
    funext i
    unfold upd
    rw[hl]
    by_cases h2:(k:Int)≤i∧i<k+n
    ·rw[if_pos h2,if_pos zom,List.getElem?_take,if_pos zom,List.getElem?_drop]
     congr 1
     omega
    ·rw[if_neg h2]
     by_cases h3:(r:Int)≤i∧i<k
     ·exact(if_pos h3).trans (if_pos (show (r:Int)≤i∧i<(k+n:Nat) by omega)).symm
     ·exact(if_neg h3).trans (if_neg (show ¬((r:Int)≤i∧i<(k+n:Nat)) by omega)).symm
   ·rw[if_neg zom]
    have:n=0:=by omega
    subst this
    rfl
  unfold InM.add2
  rw[h1,hl]
  unfold InM.rise
  by_cases h0:0<n
  ·cases last with
   |true=>
    rw[if_pos rfl,if_neg zdo]
    rfl
   |false=>
    rw[if_neg (show ¬(false=true) by simp),if_neg zdo]
    rfl
  ·have:n=0:=by omega
   subst this
   cases last with
   |true=>
    rw[if_pos rfl,if_pos zdo]
    rfl
   |false=>
    rw[if_neg (show ¬(false=true) by simp),if_pos zdo]
    rfl
theorem inG_ready {t:List UInt8}{r k:Nat}{kn:Bool}{fi:Int}(hr:r≤k)(hk:k≤t.length)(ht:t.length≤60000)(hf:kn=true→(k:Int)≤fi∧fi≤4611686018427387903):(inG t r k kn fi).ready=(k:Int)-r:=by
 refine InM.ready_eq (inG_wf hr hk ht hf) zom (fun i h1 h2=>?_) fun h=>?_
 ·exact rngL_mem.2 (by
   have e1:(inG t r k kn fi).read=(r:Int):=rfl
   rw[e1]at h1 h2
   omega)
 ·have:=rngL_mem.1 h
  have e1:(inG t r k kn fi).read=(r:Int):=rfl
  rw[e1]at this
  omega
theorem inG_many {t:List UInt8}{r k:Nat}{kn:Bool}{fi many:Int}(hr:r≤k)(hk:k≤t.length)(ht:t.length≤60000)(hf:kn=true→(k:Int)≤fi∧fi≤4611686018427387903):(inG t r k kn fi).many many=(min ((k:Int)-r) many).toNat:=by
 unfold InM.many
 rw[inG_ready hr hk ht hf]
theorem inG_bytes {t:List UInt8}{r k n:Nat}{kn:Bool}{fi:Int}(hk:k≤t.length)(hn:r+n≤k):(inG t r k kn fi).bytes n=(t.drop r).take n:=by
 refine List.ext_getElem? fun i=>?_
 unfold InM.bytes
 rw[List.getElem?_map]
 by_cases hi:i<n
 ·rw[List.getElem?_range hi,List.getElem?_take,if_pos hi,List.getElem?_drop]
  show some ((if (r:Int)≤(r:Int)+i∧(r:Int)+i<k then t[((r:Int)+i).toNat]? else none).getD 0)=t[r+i]?
  rw[if_pos zom]
  have h1:((r:Int)+i).toNat=r+i:=by omega
  rw[h1,List.getElem?_eq_getElem (show r+i<t.length by omega)]
  rfl
 ·rw[List.getElem?_eq_none (by simpa using hi),List.getElem?_take,if_neg hi]
  rfl
theorem inG_off {t:List UInt8}{r k n:Nat}{kn:Bool}{fi:Int}(hk:k≤t.length)(ht:t.length≤60000)(hn:r+n≤k):(inG t r k kn fi).off n=inG t (r+n) k kn fi:=by
 by_cases h0:n=0
 ·subst h0
  exact InM.off_zero
 have hg:Good (rngL (r:Int) k):=rngL_good zom zom
 have hrg:RgIn ⟨(r:Int),(r:Int)+n⟩:=⟨by dsimp only;omega,by dsimp only;omega⟩
 have hc:cutE (rngL (r:Int) k) ⟨r,(r:Int)+n⟩=rngL (r+n:Nat) k:=by
  refine rngL_eq (cutE_spec hg hrg).1 zom zom fun i=>?_
  rw[(cutE_spec hg hrg).2.1,rngL_mem]
  dsimp only
  omega
 unfold InM.off inG
 dsimp only
 rw[hc]
 congr 1
 funext i
 unfold gone
 by_cases h1:(r:Int)≤i∧i<r+n
 ·rw[if_pos h1,if_neg zom]
 ·rw[if_neg h1]
  by_cases h2:(r:Int)≤i∧i<k
  ·exact(if_pos h2).trans (if_pos (show ((r+n:Nat):Int)≤i∧i<k by omega)).symm
  ·exact(if_neg h2).trans (if_neg (show ¬(((r+n:Nat):Int)≤i∧i<k) by omega)).symm
end Go.Proofs.YtnlaffkihohfkaaGreat
namespace Go.Proofs.YtnlaffkihohfkaaGreat
open Go Go.Sl Go.Proofs
variable {B:Nat}{w0:World}{G:List Hp}{R:Hp→List Hp}
def sumTo (f:Int→Int):Nat→Int
 |0=>0
 |n+1=>sumTo f n+f n
theorem sumTo_congr {f g:Int→Int}{n:Nat}(h:∀i:Int,0≤i→i<n→f i=g i):sumTo f n=sumTo g n:=by
 induction n with
 |zero=>rfl
 |succ n ih=>
  unfold sumTo
  rw[ih fun i h0 h1=>h i h0 zom,h n zom zom]
theorem sumTo_le {f g:Int→Int}{n:Nat}(h:∀i:Int,0≤i→i<n→f i≤g i):sumTo f n≤sumTo g n:=by
 induction n with
 |zero=>exact Int.le_refl _
 |succ n ih=>
  unfold sumTo
  have:=ih fun i h0 h1=>h i h0 zom
  have:=h n zom zom
  omega
theorem sumTo_upd {f g:Int→Int}{n:Nat}{id:Int}(h0:0≤id)(h1:id<n)(h:∀i:Int,i≠id→g i=f i):sumTo g n=sumTo f n+(g id-f id):=by
 induction n with
 |zero=>omega
 |succ n ih=>
  unfold sumTo
  by_cases hn:id=n
  ·subst hn
   rw[sumTo_congr (f:=g) (g:=f) (fun i g0 g1=>h i zom)]
   omega
  ·rw[ih zom,h n (Ne.symm hn)]
   omega
theorem sumTo_zero {f:Int→Int}{n:Nat}(h:∀i:Int,0≤i→i<n→f i=0):sumTo f n=0:=by
 induction n with
 |zero=>rfl
 |succ n ih=>
  unfold sumTo
  rw[ih fun i h0 h1=>h i h0 zom,h n zom zom]
  rfl
theorem sumTo_nn {f:Int→Int}{n:Nat}(h:∀i:Int,0≤i→i<n→0≤f i):0≤sumTo f n:=by
 have:=sumTo_le (f:=fun _=>0) (g:=f) (n:=n) h
 rw[sumTo_zero (f:=fun _=>0) fun _ _ _=>rfl]at this
 exact this
theorem sumTo_one {f:Int→Int}{n:Nat}{id:Int}(h0:0≤id)(h1:id<n)(h:∀i:Int,0≤i→i<n→0≤f i):f id≤sumTo f n:=by
 have h2:=sumTo_upd (f:=f) (g:=fun i=>if i=id then 0 else f i) h0 h1 (fun i hi=>if_neg hi)
 have h3:=sumTo_nn (f:=fun i=>if i=id then 0 else f i) (n:=n) fun i g0 g1=>by
  split
  ·exact Int.le_refl _
  ·exact h i g0 g1
 rw[if_pos rfl]at h2
 omega
structure Cr (g:GotM)(v:GivM):Prop where
 a:g.used≤g.lim
 b:g.lim≤v.told
 c:v.told≤v.lim
 d:v.told≤g.lim∨v.wants=true
 e:v.lim≤v.taken+v.ahead
 f:v.used≤g.used
 h:v.taken≤v.used
 i:1≤v.ahead→0<v.told
 n:0≤v.taken∧0≤v.ahead∧g.used≤1000000000∧0≤v.told∧0≤g.used∧0≤g.lim∧v.ahead≤1000000
 o:v.taken+v.ahead≤v.lim∧v.ahead≤g.lim
theorem Cr.new {a:Int}(h:0≤a∧a≤1000000):Cr (got0.raise a) (GivM.new a):=by
 have e1:min a 4611686018427387903=a:=by omega
 have e2:max 0 a=a:=by omega
 have e3:GivM.new a=⟨a,0,0,a,a⟩:=by unfold GivM.new;rw[e1]
 have e4:got0.raise a=⟨a,0,0⟩:=by unfold GotM.raise got0;rw[e1,e2]
 rw[e3,e4]
 exact⟨h.1,Int.le_refl _,Int.le_refl _,.inl (Int.le_refl _),by dsimp only;omega,Int.le_refl _,Int.le_refl _,fun h=>by dsimp only at h⊢;omega,by dsimp only;omega,by dsimp only;omega⟩
theorem wants_def {v:GivM}:v.wants=true↔v.ahead/2<roomM v.lim v.told:=wants_iff
theorem GotM.use_eq {g:GotM}{n:Int}(h:0≤n)(h1:g.used+n≤g.lim):g.use n={g with used:=g.used+n}:=by
 have:min n g.room=n:=by unfold GotM.room roomM;omega
 unfold GotM.use
 rw[this]
theorem GivM.use_eq {v:GivM}{n:Int}(h:0≤n)(h1:v.used+n≤v.lim):v.use n={v with used:=v.used+n}∧v.useE n=0:=by
 unfold GivM.use GivM.useE
 exact⟨if_neg zom,if_neg zom⟩
theorem GivM.take_eq {v:GivM}{n:Int}(h:0≤n)(h1:v.taken+n≤v.used)(h0:0≤v.taken)(h2:0≤v.ahead)(h3:v.used+v.ahead≤1000000000000):v.take n={v with taken:=v.taken+n,lim:=max v.lim (v.taken+n+v.ahead)}:=by
 have e1:v.takenTo n=v.taken+n:=by
  unfold GivM.takenTo roomM
  split<;>omega
 have e2:GivM.topOf v.ahead (v.taken+n)=v.taken+n+v.ahead:=by
  unfold GivM.topOf
  rw[if_pos zom]
  omega
 unfold GivM.take
 rw[e1,e2]
theorem Cr.spend {g:GotM}{v:GivM}{n:Int}(h:Cr g v)(h0:0≤n)(h1:g.used+n≤g.lim)(h2:g.used+n≤1000000000):Cr (g.use n) v:=by
 rw[GotM.use_eq h0 h1]
 have:=h.n
 exact⟨h1,h.b,h.c,h.d,h.e,by have:=h.f;dsimp only;omega,h.h,h.i,by dsimp only;omega,h.o⟩
theorem Cr.use {g:GotM}{v:GivM}{n:Int}(h:Cr g v)(h0:0≤n)(h1:v.used+n≤g.used):Cr g (v.use n):=by
 have ha:=h.a;have hb:=h.b;have hc:=h.c
 rw[(GivM.use_eq h0 zom).1]
 exact⟨h.a,h.b,h.c,h.d,h.e,h1,by have:=h.h;dsimp only;omega,h.i,h.n,h.o⟩
theorem Cr.take {g:GotM}{v:GivM}{n:Int}(h:Cr g v)(h0:0≤n)(h1:v.taken+n≤v.used):Cr g (v.take n):=by
 have ha:=h.a;have hb:=h.b;have hc:=h.c;have hn:=h.n;have hf:=h.f
 rw[GivM.take_eq h0 h1 zom zom zom]
 refine⟨h.a,h.b,by dsimp only;omega,?_,by have:=h.e;dsimp only;omega,h.f,h1,h.i,by have:=h.e;have:=h.h;dsimp only;omega,by have:=h.o;dsimp only;omega⟩
 rcases h.d with hd|hd
 ·exact .inl hd
 ·refine .inr (wants_def.2 ?_)
  have:=wants_def.1 hd
  unfold roomM at this⊢
  dsimp only
  omega
theorem Cr.came {g:GotM}{v:GivM}(h:Cr g v):Cr (g.raise v.lim) v.tell:=by
 have ha:=h.a;have hb:=h.b;have hc:=h.c;have hn:=h.n;have he:=h.e;have hh:=h.h;have hf:=h.f
 have e1:g.raise v.lim={g with lim:=v.lim}:=by
  unfold GotM.raise
  have:max g.lim (min v.lim 4611686018427387903)=v.lim:=by omega
  rw[this]
 rw[e1]
 exact⟨by dsimp only;omega,Int.le_refl _,Int.le_refl _,.inl (Int.le_refl _),h.e,h.f,h.h,fun hi=>by have:=h.i hi;show 0<v.lim;omega,by show 0≤v.taken∧0≤v.ahead∧g.used≤_∧0≤v.lim∧0≤g.used∧0≤v.lim∧v.ahead≤_;omega,by have:=h.o;show v.taken+v.ahead≤v.lim∧v.ahead≤v.lim;omega⟩
theorem Cr.lost {g:GotM}{v:GivM}(h:Cr g v)(hw:v.wants=true):Cr g v.tell.lose:=by
 have ha:=h.a;have hb:=h.b;have hc:=h.c;have hn:=h.n;have hd:=h.d;have he:=h.e
 have h1:=wants_def.1 hw
 unfold roomM at h1
 have ht:v.tell.lose={v with told:=v.lim-min v.lim (v.ahead/2+1)}:=rfl
 rw[ht]
 refine⟨h.a,by dsimp only;omega,by dsimp only;omega,.inr (wants_def.2 ?_),h.e,h.f,h.h,fun hi=>?_,by dsimp only;omega,?_⟩
 ·unfold roomM
  dsimp only
  omega
 ·have:=h.i hi
  dsimp only
  omega
 ·have:=h.o
  dsimp only
  omega
structure DOn (x y:SmM)(W Rd:List UInt8)(E:Bool)(k r:Nat)(f:Bool):Prop where
 out:x.out=some (bufG W k f false)
 inn:y.inn=some (inG W r k false 0)
 hk:k≤W.length
 hr:r≤k
 st:(x.send=1∧f=false)∨(x.send=2∧f=true)∨(x.send=4∧x.resets=true)
 rv:y.recv=1
 rd:Rd=W.take r
 en:E=false
 gu:(k:Int)≤x.got.used∧x.got.used≤W.length
 vu:y.giv.used=k
 vt:y.giv.taken=r
 cr:Cr x.got y.giv
structure DAll (x y:SmM)(W Rd:List UInt8)(E:Bool)(r:Nat):Prop where
 out:x.out=some (bufG W W.length true true)
 inn:y.inn=some (inG W r W.length true W.length)
 hr:r≤W.length
 st:x.send=3
 rv:(y.recv=2∧E=false)∨(y.recv=3∧E=true∧r=W.length)
 rd:Rd=W.take r
 gu:x.got.used=W.length
 vu:y.giv.used=W.length
 vt:y.giv.taken≤r
 gl:x.got.used≤x.got.lim
 vl:y.giv.used≤y.giv.lim
 va:y.giv.lim≤y.giv.taken+y.giv.ahead
structure DOff (x y:SmM)(W Rd:List UInt8)(E:Bool)(k r:Nat)(f:Bool):Prop where
 out:x.out=some (bufG W k f false)
 inn:∃m,y.inn=some m∧m.WF∧m.read=r∧m.high=x.got.used
 hk:k≤W.length
 hr:r≤k
 st:x.send=5
 rv:y.recv=4∨y.recv=5
 rd:Rd=W.take r
 en:E=false
 gu:(k:Int)≤x.got.used∧x.got.used≤W.length
 vu:y.giv.used=x.got.used
 gl:x.got.used≤x.got.lim
 vl:y.giv.used≤y.giv.lim
structure DNo (x y:SmM)(W Rd:List UInt8)(E:Bool):Prop where
 out:x.out=none
 inn:y.inn=none
 st:x.send=0
 rv:y.recv=0
 w:W=[]
 rd:Rd=[]
 en:E=false
 gu:x.got.used=0
 vu:y.giv.used=0
 gl:x.got.used≤x.got.lim
 vl:y.giv.used≤y.giv.lim
def Dir (x y:SmM)(W Rd:List UInt8)(E:Bool):Prop:=(∃k r f,DOn x y W Rd E k r f)∨(∃r,DAll x y W Rd E r)∨(∃k r f,DOff x y W Rd E k r f)∨DNo x y W Rd E
structure Alike (x x' y y':SmM):Prop where
 send:x'.send=x.send
 out:x'.out=x.out
 got:x'.got=x.got
 res:x'.send=4→x'.resets=x.resets
 recv:y'.recv=y.recv
 inn:y'.inn=y.inn
 giv:y'.giv=y.giv
theorem DOn.alike {x x' y y':SmM}{W Rd:List UInt8}{E f:Bool}{k r:Nat}(h:DOn x y W Rd E k r f)(a:Alike x x' y y'):DOn x' y' W Rd E k r f:=by
 refine⟨by rw[a.out];exact h.out,by rw[a.inn];exact h.inn,h.hk,h.hr,?_,by rw[a.recv];exact h.rv,h.rd,h.en,by rw[a.got];exact h.gu,by rw[a.giv];exact h.vu,by rw[a.giv];exact h.vt,by rw[a.got,a.giv];exact h.cr⟩
 rw[a.send]
 rcases h.st with h1|h1|⟨h1,h2⟩
 ·exact .inl h1
 ·exact .inr (.inl h1)
 ·exact .inr (.inr ⟨h1,by rw[a.res (a.send.trans h1)];exact h2⟩)
theorem Dir.alike {x x' y y':SmM}{W Rd:List UInt8}{E:Bool}(h:Dir x y W Rd E)(a:Alike x x' y y'):Dir x' y' W Rd E:=by
 rcases h with⟨k,r,f,h⟩|⟨r,h⟩|⟨k,r,f,h⟩|h
 ·exact .inl ⟨k,r,f,h.alike a⟩
 ·refine .inr (.inl ⟨r,⟨by rw[a.out];exact h.out,by rw[a.inn];exact h.inn,h.hr,by rw[a.send];exact h.st,by rw[a.recv];exact h.rv,h.rd,by rw[a.got];exact h.gu,by rw[a.giv];exact h.vu,by rw[a.giv];exact h.vt,by rw[a.got];exact h.gl,by rw[a.giv];exact h.vl,by rw[a.giv];exact h.va⟩⟩)
 ·refine .inr (.inr (.inl ⟨k,r,f,⟨by rw[a.out];exact h.out,by rw[a.inn,a.got];exact h.inn,h.hk,h.hr,by rw[a.send];exact h.st,by rw[a.recv];exact h.rv,h.rd,h.en,by rw[a.got];exact h.gu,by rw[a.giv,a.got];exact h.vu,by rw[a.got];exact h.gl,by rw[a.giv];exact h.vl⟩⟩))
 ·refine .inr (.inr (.inr ⟨by rw[a.out];exact h.out,by rw[a.inn];exact h.inn,by rw[a.send];exact h.st,by rw[a.recv];exact h.rv,h.w,h.rd,h.en,by rw[a.got];exact h.gu,by rw[a.giv];exact h.vu,by rw[a.got];exact h.gl,by rw[a.giv];exact h.vl⟩))
theorem Dir.used {x y:SmM}{W Rd:List UInt8}{E:Bool}(h:Dir x y W Rd E):y.giv.used≤x.got.used∧x.got.used≤x.got.lim∧y.giv.used≤y.giv.lim∧x.got.used≤W.length∧0≤y.giv.used:=by
 rcases h with⟨k,r,f,h⟩|⟨r,h⟩|⟨k,r,f,h⟩|h
 ·have:=h.cr.f;have:=h.cr.a;have:=h.cr.b;have:=h.cr.c;have:=h.gu;have:=h.vu
  omega
 ·have:=h.gu;have:=h.vu;have:=h.gl;have:=h.vl
  omega
 ·have:=h.gu;have:=h.vu;have:=h.gl;have:=h.vl
  omega
 ·have:=h.gu;have:=h.vu;have:=h.gl;have:=h.vl
  rw[h.w]
  simp
  omega
def tkS (y:SmM):Int:=if y.recv=4∨y.recv=5 then y.giv.used else y.read
theorem Dir.tk {x y:SmM}{W Rd:List UInt8}{E:Bool}(h:Dir x y W Rd E):0≤tkS y∧tkS y≤y.giv.used:=by
 unfold tkS
 rcases h with⟨k,r,f,h⟩|⟨r,h⟩|⟨k,r,f,h⟩|h
 ·rw[if_neg (by have:=h.rv;omega)]
  have:y.read=r:=by unfold SmM.read;rw[h.inn];rfl
  have:=h.hr;have:=h.vu
  omega
 ·rw[if_neg (by have:=h.rv;omega)]
  have:y.read=r:=by unfold SmM.read;rw[h.inn];rfl
  have:=h.hr;have:=h.vu
  omega
 ·rw[if_pos h.rv]
  have:=h.gu;have:=h.vu
  omega
 ·rw[if_neg (by have:=h.rv;omega)]
  have:y.read=0:=by unfold SmM.read;rw[h.inn];rfl
  have:=h.vu
  omega
structure PrM where
 s:Bool→SdM
 wr:Bool→Int→List UInt8
 rd:Bool→Int→List UInt8
 en:Bool→Int→Bool
def NS:Nat:=400
def cS (x:SmM):Int:=if x.counted=true then 1 else 0
structure Kc (a b:KdM)(n:Nat):Prop where
 c:b.came≤a.op
 o:a.op≤n
 m:a.op≤a.may
 g:a.may≤b.giv
 t:b.told≤b.giv∧0≤b.told
 z:0≤b.came
structure Inv (P:PrM)(D one many:Int)(n:Nat):Prop where
 cl:∀i,(P.s i).cl=!i
 own:∀i,(P.s i).own=⟨one,one+3,one+1⟩
 their:∀i,(P.s i).their=⟨one,one+3,one+1⟩
 dir:∀i id,0≤id→Dir ((P.s i).x id) ((P.s (!i)).x id) (P.wr i id) (P.rd (!i) id) (P.en (!i) id)
 gu:∀i,(P.s i).got.used=sumTo (fun id=>((P.s i).x id).got.used) NS
 vu:∀i,(P.s i).giv.used=sumTo (fun id=>((P.s i).x id).giv.used) NS
 vt:∀i,(P.s i).giv.taken=sumTo (fun id=>tkS ((P.s i).x id)) NS
 cr:∀i,Cr (P.s i).got (P.s (!i)).giv
 ah:∀i,(P.s i).giv.ahead=D
 kd:∀i k,k=0∨k=1→Kc ((P.s i).kn k) ((P.s (!i)).kn k) n
 cnt:∀i,(P.s i).k0.giv+(P.s i).k1.giv=2*many+sumTo (fun id=>cS ((P.s i).x id)) NS
 kg:∀i k,k=0∨k=1→0≤((P.s i).kn k).giv
 wl:sumTo (fun id=>(P.wr false id).length) NS+sumTo (fun id=>(P.wr true id).length) NS≤100*n
 nb:n≤50∧0≤many∧many≤1000∧0≤one∧one≤1000
theorem not_ne (i:Bool):(!i)≠i:=by cases i<;>decide
theorem not_not_ (i:Bool):(!(!i))=i:=by cases i<;>rfl
theorem SdM.mine_not {A B:SdM}{id:Int}(h:B.cl=!A.cl):B.mine id=!A.mine id:=by
 unfold SdM.mine
 rw[h]
 cases A.cl<;>by_cases h0:oddI id=0<;>simp[h0]
theorem Inv.has_lt {P:PrM}{D one many:Int}{n:Nat}(h:Inv P D one many n){i:Bool}{id:Int}(hh:(P.s i).has id):0≤id∧id<NS:=by
 obtain⟨h0,h1⟩:=hh
 refine⟨h0,?_⟩
 have hb:=h.nb.1
 have hkk:=kdI_or (id:=id)
 have hc:=h.kd i (kdI id) hkk
 have hc2:=h.kd (!i) (kdI id) hkk
 rw[not_not_]at hc2
 have e:(P.s i).kd id=(P.s i).kn (kdI id):=rfl
 rw[e]at h1
 have hcn:cnI id<50:=by
  have:=hc.o;have:=hc2.c;have:=hc2.o
  split at h1<;>omega
 unfold cnI at hcn
 show id<(400:Nat)
 omega
theorem Inv.giv_b {P:PrM}{D one many:Int}{n:Nat}(h:Inv P D one many n){i:Bool}{k:Int}(hk:k=0∨k=1):0≤((P.s i).kn k).giv∧((P.s i).kn k).giv≤10000:=by
 have h1:=h.cnt i
 have h0:=h.kg i 0 (.inl rfl)
 have h2:=h.kg i 1 (.inr rfl)
 have h3:sumTo (fun id=>cS ((P.s i).x id)) NS≤sumTo (fun _=>1) NS:=sumTo_le fun j _ _=>by
  unfold cS
  split<;>omega
 have h4:sumTo (fun _=>1) NS=400:=by decide
 have hm:=h.nb.2.2
 have e0:(P.s i).kn 0=(P.s i).k0:=rfl
 have e1:(P.s i).kn 1=(P.s i).k1:=rfl
 rw[e0]at h0
 rw[e1]at h2
 rcases hk with rfl|rfl
 ·rw[e0];omega
 ·rw[e1];omega
theorem Inv.wl_ {P:PrM}{D one many:Int}{n:Nat}(h:Inv P D one many n)(i:Bool){id:Int}(h0:0≤id)(h1:id<NS):(P.wr i id).length≤100*n:=by
 have g1:=sumTo_one (f:=fun id=>((P.wr i id).length:Int)) h0 h1 fun j _ _=>by omega
 have g2:=sumTo_nn (f:=fun id=>((P.wr (!i) id).length:Int)) (n:=NS) fun j _ _=>by omega
 have:=h.wl
 cases i<;>(simp only[Bool.not_true,Bool.not_false]at g2;omega)
end Go.Proofs.YtnlaffkihohfkaaGreat
namespace Go.Proofs.YtnlaffkihohfkaaGreat
open Go Go.Sl Go.Proofs
variable {B:Nat}{w0:World}{G:List Hp}{R:Hp→List Hp}
theorem bool_two {p:Bool→Prop}(i:Bool)(h1:p i)(h2:p (!i)):∀a,p a:=fun a=>by
 cases i<;>cases a<;>assumption
structure Kle (a a':KdM)(c:Prop)(m:Int):Prop where
 op:a'.op=a.op
 may:a'.may=a.may
 told:a'.told=a.told
 giv:a.giv≤a'.giv
 came:a'.came=a.came∨(c∧a'.came=m+1)
structure Upd (A A':SdM)(id:Int)(x':SmM):Prop where
 x:∀j,A'.x j=if j=id then x' else A.x j
 cl:A'.cl=A.cl
 own:A'.own=A.own
 their:A'.their=A.their
 ah:A'.giv.ahead=A.giv.ahead
 gu:A'.got.used=A.got.used+(x'.got.used-(A.x id).got.used)
 vu:A'.giv.used=A.giv.used+(x'.giv.used-(A.x id).giv.used)
 vt:A'.giv.taken=A.giv.taken+(tkS x'-tkS (A.x id))
 cnt:A'.k0.giv+A'.k1.giv=A.k0.giv+A.k1.giv+(cS x'-cS (A.x id))
 kn:∀k,k=0∨k=1→Kle (A.kn k) (A'.kn k) (k=kdI id∧A.mine id=false) (cnI id)
theorem Kle.rfl' {a:KdM}{c:Prop}{m:Int}:Kle a a c m:=⟨rfl,rfl,rfl,Int.le_refl _,.inl rfl⟩
theorem Upd.refl {A:SdM}{id:Int}:Upd A A id (A.x id):=⟨fun j=>by split<;>simp_all,rfl,rfl,rfl,rfl,by omega,by omega,by omega,by omega,fun k _=>Kle.rfl'⟩
theorem Upd.trans {A A1 A2:SdM}{id:Int}{x1 x2:SmM}(h:Upd A A1 id x1)(g:Upd A1 A2 id x2):Upd A A2 id x2:=by
 have e:A1.x id=x1:=by rw[h.x,if_pos rfl]
 have g1:=g.gu;have g2:=g.vu;have g3:=g.vt;have g4:=g.cnt
 rw[e]at g1 g2 g3 g4
 refine⟨fun j=>?_,g.cl.trans h.cl,g.own.trans h.own,g.their.trans h.their,g.ah.trans h.ah,by have:=h.gu;omega,by have:=h.vu;omega,by have:=h.vt;omega,by have:=h.cnt;omega,fun k hk=>?_⟩
 ·rw[g.x,h.x]
  split<;>rfl
 ·have a:=h.kn k hk
  have b:=g.kn k hk
  have em:A1.mine id=A.mine id:=by unfold SdM.mine;rw[h.cl]
  rw[em]at b
  refine⟨b.op.trans a.op,b.may.trans a.may,b.told.trans a.told,Int.le_trans a.giv b.giv,?_⟩
  rcases b.came with hb|hb
  ·rcases a.came with ha|ha
   ·exact .inl (hb.trans ha)
   ·exact .inr ⟨ha.1,hb.trans ha.2⟩
  ·exact .inr hb
theorem Upd.put {A:SdM}{id:Int}{x':SmM}(h1:x'.got.used=(A.x id).got.used)(h2:x'.giv.used=(A.x id).giv.used)(h3:tkS x'=tkS (A.x id))(h4:cS x'=cS (A.x id)):Upd A (A.put id x') id x':=
 ⟨fun j=>rfl,rfl,rfl,rfl,rfl,by show A.got.used=_;omega,by show A.giv.used=_;omega,by show A.giv.taken=_;omega,by show A.k0.giv+A.k1.giv=_;omega,fun k _=>Kle.rfl'⟩
theorem Upd.come {A:SdM}{id:Int}(hm:A.has id∨A.mine id=false):Upd A (A.come id) id (A.x id):=by
 refine⟨fun j=>?_,SdM.come_cl,?_,?_,by rw[SdM.come_giv],by rw[SdM.come_got];omega,by rw[SdM.come_giv];omega,by rw[SdM.come_giv];omega,?_,fun k hk=>?_⟩
 ·rw[SdM.come_x];split<;>simp_all
 ·unfold SdM.come;split<;>first|rfl|exact SdM.setK_own
 ·unfold SdM.come;split<;>first|rfl|exact SdM.setK_their
 ·unfold SdM.come
  split
  ·omega
  ·unfold SdM.setK
   split
   ·next h=>
    have e:A.kd id=A.k0:=by unfold SdM.kd;rw[if_pos h]
    show (A.kd id).giv+A.k1.giv=_
    rw[e];omega
   ·next h=>
    have e:A.kd id=A.k1:=by unfold SdM.kd;rw[if_neg h]
    show A.k0.giv+(A.kd id).giv=_
    rw[e];omega
 ·unfold SdM.come
  split
  ·exact Kle.rfl'
  ·next hh=>
   rw[SdM.setK_kn kdI_or hk]
   by_cases hk2:k=kdI id
   ·rw[if_pos hk2,hk2]
    refine⟨rfl,rfl,rfl,Int.le_refl _,?_⟩
    exact .inr ⟨⟨rfl,hm.resolve_left hh⟩,rfl⟩
   ·rw[if_neg hk2]
    exact Kle.rfl'
def SdM.put2 (A:SdM)(id:Int)(x':SmM)(v:GivM)(g:GotM):SdM:={A.put id x' with giv:=v,got:=g}
theorem Upd.put2 {A:SdM}{id:Int}{x':SmM}{v:GivM}{g:GotM}(h1:g.used=A.got.used+(x'.got.used-(A.x id).got.used))(h2:v.used=A.giv.used+(x'.giv.used-(A.x id).giv.used))(h3:v.taken=A.giv.taken+(tkS x'-tkS (A.x id)))(h4:v.ahead=A.giv.ahead)(h5:cS x'=cS (A.x id)):Upd A (A.put2 id x' v g) id x':=
 ⟨fun j=>rfl,rfl,rfl,rfl,h4,h1,h2,h3,by show A.k0.giv+A.k1.giv=_;omega,fun k _=>Kle.rfl'⟩
def SmM.fin (x:SmM)(m:Bool):SmM:=if x.isDone m then x.count else x
theorem Upd.settle {A:SdM}{id:Int}{x':SmM}(h1:x'.got.used=(A.x id).got.used)(h2:x'.giv.used=(A.x id).giv.used)(h3:tkS x'=tkS (A.x id))(h4:cS x'=cS (A.x id)):Upd A (A.settle id x') id (x'.fin (A.mine id)):=by
 unfold SdM.settle SmM.fin
 by_cases hd:x'.isDone (A.mine id)
 ·rw[if_pos hd,if_pos hd]
  show Upd A ((A.put id x'.count).setK (kdI id) (A.kd id).more) id x'.count
  have hc:cS x'=0:=by unfold cS;rw[hd.1];rfl
  have hc2:cS x'.count=1:=rfl
  refine⟨fun j=>by rw[SdM.setK_x];rfl,SdM.setK_cl,SdM.setK_own,SdM.setK_their,by rw[SdM.setK_giv];rfl,?_,?_,?_,?_,fun k hk=>?_⟩
  ·rw[SdM.setK_got];show A.got.used=_;have:x'.count.got.used=x'.got.used:=rfl;omega
  ·rw[SdM.setK_giv];show A.giv.used=_;have:x'.count.giv.used=x'.giv.used:=rfl;omega
  ·rw[SdM.setK_giv];show A.giv.taken=_;have:tkS x'.count=tkS x':=rfl;omega
  ·unfold SdM.setK
   split
   ·next h=>
    have e:A.kd id=A.k0:=by unfold SdM.kd;rw[if_pos h]
    show (A.kd id).giv+1+A.k1.giv=_
    rw[e];omega
   ·next h=>
    have e:A.kd id=A.k1:=by unfold SdM.kd;rw[if_neg h]
    show A.k0.giv+((A.kd id).giv+1)=_
    rw[e];omega
  ·rw[SdM.setK_kn kdI_or hk]
   by_cases hk2:k=kdI id
   ·rw[if_pos hk2,hk2]
    exact⟨rfl,rfl,rfl,by show (A.kd id).giv≤(A.kd id).giv+1;omega,.inl rfl⟩
   ·rw[if_neg hk2]
    exact Kle.rfl'
 ·rw[if_neg hd,if_neg hd]
  exact Upd.put h1 h2 h3 h4
theorem SmM.fin_alike {x:SmM}{m:Bool}:(x.fin m).send=x.send∧(x.fin m).out=x.out∧(x.fin m).got=x.got∧(x.fin m).resets=x.resets∧(x.fin m).recv=x.recv∧(x.fin m).inn=x.inn∧(x.fin m).giv=x.giv:=by
 unfold SmM.fin
 split<;>exact⟨rfl,rfl,rfl,rfl,rfl,rfl,rfl⟩
theorem Alike.fin {x x' y y':SmM}{m:Bool}(h:Alike x x' y y'):Alike x (x'.fin m) y y':=by
 obtain⟨a,b,c,d,_,_,_⟩:=x'.fin_alike (m:=m)
 exact⟨a.trans h.send,b.trans h.out,c.trans h.got,fun h4=>by rw[d];exact h.res (a.symm.trans h4),h.recv,h.inn,h.giv⟩
theorem Alike.fin2 {x x' y y':SmM}{m:Bool}(h:Alike x x' y y'):Alike x x' y (y'.fin m):=by
 obtain⟨_,_,_,_,a,b,c⟩:=y'.fin_alike (m:=m)
 exact⟨h.send,h.out,h.got,h.res,a.trans h.recv,b.trans h.inn,c.trans h.giv⟩
theorem Dir.fin {x y:SmM}{W Rd:List UInt8}{E:Bool}{m:Bool}(h:Dir x y W Rd E):Dir (x.fin m) y W Rd E:=h.alike (Alike.fin ⟨rfl,rfl,rfl,fun _=>rfl,rfl,rfl,rfl⟩)
theorem Dir.fin2 {x y:SmM}{W Rd:List UInt8}{E:Bool}{m:Bool}(h:Dir x y W Rd E):Dir x (y.fin m) W Rd E:=h.alike (Alike.fin2 ⟨rfl,rfl,rfl,fun _=>rfl,rfl,rfl,rfl⟩)
theorem Kc.step {a a' b b':KdM}{n n':Nat}{c d:Prop}{m:Int}(h:Kc a b n)(ha:Kle a a' c m)(hb:Kle b b' d m)(hn:n≤n')(hm:d→0≤m∧m<a.op):Kc a' b' n':=by
 have h1:=h.c;have h2:=h.o;have h3:=h.m;have h4:=h.g;have h5:=h.t;have h6:=h.z
 have g1:=ha.op;have g2:=ha.may;have g3:=hb.giv;have g4:=hb.told
 refine⟨?_,by omega,by omega,by omega,by omega,?_⟩
 ·rcases hb.came with e|⟨e1,e2⟩
  ·omega
  ·have:=hm e1;omega
 ·rcases hb.came with e|⟨e1,e2⟩
  ·omega
  ·have:=hm e1;omega
theorem Inv.step {P P':PrM}{D one many:Int}{n n':Nat}{i:Bool}{id:Int}{x' y':SmM}(h:Inv P D one many n)(hid:0≤id∧id<NS)(hA:Upd (P.s i) (P'.s i) id x')(hB:Upd (P.s (!i)) (P'.s (!i)) id y')
  (hh:(P.s i).has id∨(P'.s i=P.s i∧P'.s (!i)=P.s (!i))∨((P.s i).kn 0=(P'.s i).kn 0∧(P.s i).kn 1=(P'.s i).kn 1∧(P.s (!i)).kn 0=(P'.s (!i)).kn 0∧(P.s (!i)).kn 1=(P'.s (!i)).kn 1)) (hh2:∀k,k=0∨k=1→((P'.s i).kn k).came=((P.s i).kn k).came)
  (hw:∀a j,j≠id→P'.wr a j=P.wr a j∧P'.rd a j=P.rd a j∧P'.en a j=P.en a j)
  (d1:Dir x' y' (P'.wr i id) (P'.rd (!i) id) (P'.en (!i) id)) (d2:Dir y' x' (P'.wr (!i) id) (P'.rd i id) (P'.en i id)) (c1:Cr (P'.s i).got (P'.s (!i)).giv) (c2:Cr (P'.s (!i)).got (P'.s i).giv) (hn:n≤n'∧n'≤50)
  (wl:sumTo (fun id=>(P'.wr false id).length) NS+sumTo (fun id=>(P'.wr true id).length) NS≤100*n'):Inv P' D one many n':=by
 have hms:(P.s (!i)).mine id=!(P.s i).mine id:=SdM.mine_not (by rw[h.cl,h.cl])
 have sm:∀{q:SmM→Int} {A A':SdM} {z:SmM},Upd A A' id z→sumTo (fun j=>q (A'.x j)) NS=sumTo (fun j=>q (A.x j)) NS+(q z-q (A.x id)):=fun {q A A' z} hu=>by
  have:=sumTo_upd (f:=fun j=>q (A.x j)) (g:=fun j=>q (A'.x j)) hid.1 hid.2 fun j hj=>by
   show q (A'.x j)=q (A.x j)
   rw[hu.x,if_neg hj]
  rw[this]
  have e:A'.x id=z:=by rw[hu.x,if_pos rfl]
  rw[e]
 have K:∀k,k=0∨k=1→Kc ((P'.s i).kn k) ((P'.s (!i)).kn k) n'∧Kc ((P'.s (!i)).kn k) ((P'.s i).kn k) n':=fun k hk=>by
  have k1:=h.kd i k hk
  have k2:=h.kd (!i) k hk
  rw[not_not_]at k2
  have a1:=hA.kn k hk
  have b1:=hB.kn k hk
  rcases hh with hh|⟨e1,e2⟩|⟨e0,e1,e2,e3⟩
  ·refine⟨k1.step a1 b1 hn.1 ?_,?_⟩
   ·rintro⟨hk2,hm⟩
    rw[hms]at hm
    have hm':(P.s i).mine id=true:=by simpa using hm
    have:=hh.2
    rw[if_pos hm']at this
    rw[hk2]
    refine⟨?_,this⟩
    unfold cnI;omega
   ·have a2:Kle ((P.s i).kn k) ((P'.s i).kn k) False (cnI id):=⟨a1.op,a1.may,a1.told,a1.giv,.inl (hh2 k hk)⟩
    exact k2.step b1 a2 hn.1 fun h=>h.elim
  ·rw[e1,e2]
   exact⟨⟨k1.c,by have:=k1.o;omega,k1.m,k1.g,k1.t,k1.z⟩,⟨k2.c,by have:=k2.o;omega,k2.m,k2.g,k2.t,k2.z⟩⟩
  ·have f1:(P'.s i).kn k=(P.s i).kn k:=by rcases hk with rfl|rfl;exact e0.symm;exact e1.symm
   have f2:(P'.s (!i)).kn k=(P.s (!i)).kn k:=by rcases hk with rfl|rfl;exact e2.symm;exact e3.symm
   rw[f1,f2]
   exact⟨⟨k1.c,by have:=k1.o;omega,k1.m,k1.g,k1.t,k1.z⟩,⟨k2.c,by have:=k2.o;omega,k2.m,k2.g,k2.t,k2.z⟩⟩
 refine⟨?_,?_,?_,?_,?_,?_,?_,?_,?_,?_,?_,?_,wl,⟨hn.2,h.nb.2⟩⟩
 ·exact bool_two i (hA.cl.trans (h.cl _)) (hB.cl.trans (h.cl _))
 ·exact bool_two i (hA.own.trans (h.own _)) (hB.own.trans (h.own _))
 ·exact bool_two i (hA.their.trans (h.their _)) (hB.their.trans (h.their _))
 ·intro a j hj
  by_cases hji:j=id
  ·subst hji
   have ex:(P'.s i).x j=x':=by rw[hA.x,if_pos rfl]
   have ey:(P'.s (!i)).x j=y':=by rw[hB.x,if_pos rfl]
   refine bool_two (p:=fun a=>Dir ((P'.s a).x j) ((P'.s (!a)).x j) (P'.wr a j) (P'.rd (!a) j) (P'.en (!a) j)) i ?_ ?_ a
   ·rw[ex,ey];exact d1
   ·rw[not_not_,ex,ey];exact d2
  ·obtain⟨w1,_,_⟩:=hw a j hji
   obtain⟨_,w2,w3⟩:=hw (!a) j hji
   have eA:∀a,(P'.s a).x j=(P.s a).x j:=bool_two i (by rw[hA.x,if_neg hji]) (by rw[hB.x,if_neg hji])
   rw[eA,eA,w1,w2,w3]
   exact h.dir a j hj
 ·refine bool_two i ?_ ?_
  ·rw[hA.gu,h.gu i];have:=sm (q:=fun x=>x.got.used) hA;omega
  ·rw[hB.gu,h.gu (!i)];have:=sm (q:=fun x=>x.got.used) hB;omega
 ·refine bool_two i ?_ ?_
  ·rw[hA.vu,h.vu i];have:=sm (q:=fun x=>x.giv.used) hA;omega
  ·rw[hB.vu,h.vu (!i)];have:=sm (q:=fun x=>x.giv.used) hB;omega
 ·refine bool_two i ?_ ?_
  ·rw[hA.vt,h.vt i];have:=sm (q:=tkS) hA;omega
  ·rw[hB.vt,h.vt (!i)];have:=sm (q:=tkS) hB;omega
 ·refine bool_two i c1 ?_
  rw[not_not_];exact c2
 ·exact bool_two i (hA.ah.trans (h.ah _)) (hB.ah.trans (h.ah _))
 ·intro a k hk
  refine bool_two (p:=fun a=>Kc ((P'.s a).kn k) ((P'.s (!a)).kn k) n') i (K k hk).1 ?_ a
  show Kc ((P'.s (!i)).kn k) ((P'.s (!(!i))).kn k) n'
  rw[not_not_]
  exact(K k hk).2
 ·refine bool_two i ?_ ?_
  ·rw[hA.cnt,h.cnt i];have:=sm (q:=cS) hA;omega
  ·rw[hB.cnt,h.cnt (!i)];have:=sm (q:=cS) hB;omega
 ·intro a k hk
  refine bool_two (p:=fun a=>0≤((P'.s a).kn k).giv) i ?_ ?_ a
  ·have:=(hA.kn k hk).giv;have:=h.kg i k hk;omega
  ·have:=(hB.kn k hk).giv;have:=h.kg (!i) k hk;omega
end Go.Proofs.YtnlaffkihohfkaaGreat
namespace Go.Proofs.YtnlaffkihohfkaaGreat
open Go Go.Sl Go.Proofs
variable {B:Nat}{w0:World}{G:List Hp}{R:Hp→List Hp}
def PrM.set2 (P:PrM)(i:Bool)(A B:SdM):PrM:={P with s:=fun j=>if j=i then A else B}
theorem PrM.set2_i {P:PrM}{i:Bool}{A B:SdM}:(P.set2 i A B).s i=A:=if_pos rfl
theorem PrM.set2_n {P:PrM}{i:Bool}{A B:SdM}:(P.set2 i A B).s (!i)=B:=if_neg (not_ne i)
theorem PrM.set2_same {P:PrM}{i:Bool}:P.set2 i (P.s i) (P.s (!i))=P:=by
 unfold PrM.set2
 have:(fun j=>if j=i then P.s i else P.s (!i))=P.s:=by
  funext j
  by_cases h:j=i
  ·rw[if_pos h,h]
  ·rw[if_neg h]
   have:j=!i:=by cases i<;>cases j<;>simp_all
   rw[this]
 rw[this]
theorem Inv.both {P:PrM}{D one many:Int}{n:Nat}{i:Bool}{id:Int}{A B:SdM}{x' y':SmM}(h:Inv P D one many n)(hid:(P.s i).has id)(hA:Upd (P.s i) A id x')(hB:Upd (P.s (!i)) B id y')(hc:∀k,k=0∨k=1→(A.kn k).came=((P.s i).kn k).came)
  (d1:Dir x' y' (P.wr i id) (P.rd (!i) id) (P.en (!i) id)) (d2:Dir y' x' (P.wr (!i) id) (P.rd i id) (P.en i id)) (c1:Cr A.got B.giv) (c2:Cr B.got A.giv):Inv (P.set2 i A B) D one many n:=by
 refine h.step (i:=i) (id:=id) (x':=x') (y':=y') (h.has_lt hid) ?_ ?_ (.inl hid) ?_ (fun a j _=>⟨rfl,rfl,rfl⟩) d1 d2 ?_ ?_ ⟨Nat.le_refl _,h.nb.1⟩ h.wl
 ·rw[PrM.set2_i];exact hA
 ·rw[PrM.set2_n];exact hB
 ·rw[PrM.set2_i];exact hc
 ·rw[PrM.set2_i,PrM.set2_n];exact c1
 ·rw[PrM.set2_i,PrM.set2_n];exact c2
theorem settle_came {A:SdM}{id:Int}{x:SmM}{k:Int}(hk:k=0∨k=1):((A.settle id x).kn k).came=(A.kn k).came:=by
 unfold SdM.settle
 split
 ·rw[SdM.setK_kn kdI_or hk]
  split
  ·next h=>rw[h];rfl
  ·rfl
 ·rfl
theorem Inv.reach {P:PrM}{D one many:Int}{n:Nat}{i:Bool}{id:Int}(h:Inv P D one many n)(hid:(P.s i).has id):(P.s (!i)).has id∨((P.s (!i)).mine id=false∧cnI id<((P.s (!i)).kd id).giv∧((P.s (!i)).kd id).giv≤1000000):=by
 have hms:(P.s (!i)).mine id=!(P.s i).mine id:=SdM.mine_not (by rw[h.cl,h.cl])
 by_cases hm:(P.s (!i)).mine id=true
 ·refine .inl ⟨hid.1,?_⟩
  rw[if_pos hm]
  have hm2:(P.s i).mine id=false:=by rw[hms]at hm;simpa using hm
  have h1:=hid.2
  rw[if_neg (by rw[hm2];decide)]at h1
  have hk:=h.kd (!i) (kdI id) kdI_or
  rw[not_not_]at hk
  have:=hk.c
  show cnI id<((P.s (!i)).kn (kdI id)).op
  have e:((P.s i).kd id)=(P.s i).kn (kdI id):=rfl
  rw[e]at h1
  omega
 ·have hm1:(P.s (!i)).mine id=false:=by simpa using hm
  refine .inr ⟨hm1,?_,?_⟩
  ·have hm2:(P.s i).mine id=true:=by rw[hms]at hm1;simpa using hm1
   have h1:=hid.2
   rw[if_pos hm2]at h1
   have hk:=h.kd i (kdI id) kdI_or
   have:=hk.m;have:=hk.g
   show cnI id<((P.s (!i)).kn (kdI id)).giv
   have e:((P.s i).kd id)=(P.s i).kn (kdI id):=rfl
   rw[e]at h1
   omega
  ·have:=h.giv_b (i:=!i) (k:=kdI id) kdI_or
   show ((P.s (!i)).kn (kdI id)).giv≤_
   omega
theorem Inv.come_or {P:PrM}{D one many:Int}{n:Nat}{i:Bool}{id:Int}(h:Inv P D one many n)(hid:(P.s i).has id):(P.s (!i)).has id∨(P.s (!i)).mine id=false:=(h.reach hid).imp_right (·.1)
theorem Inv.room {P:PrM}{D one many:Int}{n:Nat}{i:Bool}{id:Int}(h:Inv P D one many n)(hid:(P.s i).has id){a b:Int}(hab:b≤a):(P.s (!i)).giv.used+(b-((P.s (!i)).x id).giv.used)≤(P.s i).got.used+(a-((P.s i).x id).got.used):=by
 obtain⟨h0,h1⟩:=h.has_lt hid
 have g1:=sumTo_upd (f:=fun j=>((P.s i).x j).got.used) (g:=fun j=>if j=id then a else ((P.s i).x j).got.used) h0 h1 fun j hj=>if_neg hj
 have g2:=sumTo_upd (f:=fun j=>((P.s (!i)).x j).giv.used) (g:=fun j=>if j=id then b else ((P.s (!i)).x j).giv.used) h0 h1 fun j hj=>if_neg hj
 have g3:=sumTo_le (n:=NS) (f:=fun j=>if j=id then b else ((P.s (!i)).x j).giv.used) (g:=fun j=>if j=id then a else ((P.s i).x j).got.used) fun j hj _=>by
  by_cases hji:j=id
  ·rw[if_pos hji,if_pos hji];exact hab
  ·rw[if_neg hji,if_neg hji];exact(h.dir i j hj).used.1
 rw[if_pos rfl]at g1 g2
 have e1:=h.gu i
 have e2:=h.vu (!i)
 omega
theorem Inv.roomT {P:PrM}{D one many:Int}{n:Nat}{i:Bool}{id:Int}(h:Inv P D one many n)(hid:0≤id∧id<NS){a b:Int}(hab:b≤a):(P.s i).giv.taken+(b-tkS ((P.s i).x id))≤(P.s i).giv.used+(a-((P.s i).x id).giv.used):=by
 obtain⟨h0,h1⟩:=hid
 have g1:=sumTo_upd (f:=fun j=>((P.s i).x j).giv.used) (g:=fun j=>if j=id then a else ((P.s i).x j).giv.used) h0 h1 fun j hj=>if_neg hj
 have g2:=sumTo_upd (f:=fun j=>tkS ((P.s i).x j)) (g:=fun j=>if j=id then b else tkS ((P.s i).x j)) h0 h1 fun j hj=>if_neg hj
 have g3:=sumTo_le (n:=NS) (f:=fun j=>if j=id then b else tkS ((P.s i).x j)) (g:=fun j=>if j=id then a else ((P.s i).x j).giv.used) fun j hj _=>by
  by_cases hji:j=id
  ·rw[if_pos hji,if_pos hji];exact hab
  ·rw[if_neg hji,if_neg hji]
   have:=h.dir (!i) j hj
   rw[not_not_]at this
   exact this.tk.2
 rw[if_pos rfl]at g1 g2
 have e1:=h.vu i
 have e2:=h.vt i
 omega
theorem Inv.few {P:PrM}{D one many:Int}{n:Nat}{i:Bool}(h:Inv P D one many n):(P.s i).got.used≤5000:=by
 have h1:sumTo (fun id=>((P.s i).x id).got.used) NS≤sumTo (fun id=>((P.wr i id).length:Int)) NS:=sumTo_le fun j hj _=>(h.dir i j hj).used.2.2.2.1
 have h2:=sumTo_nn (f:=fun id=>((P.wr (!i) id).length:Int)) (n:=NS) fun j _ _=>by omega
 have h3:=h.wl
 have h4:=h.nb.1
 rw[h.gu i]
 cases i<;>(simp only[Bool.not_true,Bool.not_false]at h2;omega)
theorem Inv.dir' {P:PrM}{D one many:Int}{n:Nat}(h:Inv P D one many n)(i:Bool){id:Int}(hid:0≤id):Dir ((P.s (!i)).x id) ((P.s i).x id) (P.wr (!i) id) (P.rd i id) (P.en i id):=by
 have:=h.dir (!i) id hid
 rwa [not_not_]at this
theorem Inv.cr' {P:PrM}{D one many:Int}{n:Nat}(h:Inv P D one many n)(i:Bool):Cr (P.s (!i)).got (P.s i).giv:=by
 have:=h.cr (!i)
 rwa [not_not_]at this
theorem Inv.wl60 {P:PrM}{D one many:Int}{n:Nat}(h:Inv P D one many n){i a:Bool}{id:Int}(hid:(P.s i).has id):(P.wr a id).length≤60000:=by
 obtain⟨h0,h1⟩:=h.has_lt hid
 have:=h.wl_ a h0 h1
 have:=h.nb.1
 omega
theorem Dir.on_of {x y:SmM}{W Rd:List UInt8}{E:Bool}(h:Dir x y W Rd E)(hr:y.recv=1):∃k r f,DOn x y W Rd E k r f:=by
 rcases h with h|⟨r,h⟩|⟨k,r,f,h⟩|h
 ·exact h
 ·have:=h.rv;omega
 ·have:=h.rv;omega
 ·have:=h.rv;omega
theorem Dir.on_send {x y:SmM}{W Rd:List UInt8}{E:Bool}(h:Dir x y W Rd E)(hr:x.send=1∨x.send=2∨x.send=4):∃k r f,DOn x y W Rd E k r f:=by
 rcases h with h|⟨r,h⟩|⟨k,r,f,h⟩|h
 ·exact h
 ·have:=h.st;omega
 ·have:=h.st;omega
 ·have:=h.st;omega
def SmM.giveTo (x:SmM)(v:GivM):SmM:={x with giv:=v}
theorem Inv.raise_lost {P:PrM}{D one many:Int}{n:Nat}{i:Bool}{id:Int}(h:Inv P D one many n)(hid:(P.s i).has id)(h1:((P.s i).x id).recv=1)(h2:((P.s i).x id).giv.wants=true):Inv (P.set2 i ((P.s i).put id (((P.s i).x id).giveTo ((P.s i).x id).giv.tell.lose)) (P.s (!i))) D one many n:=by
 obtain⟨k,r,f,g⟩:=(h.dir' i hid.1).on_of h1
 refine h.both hid (Upd.put rfl rfl rfl rfl) Upd.refl (fun k _=>rfl) ((h.dir i id hid.1).alike ⟨rfl,rfl,rfl,fun _=>rfl,rfl,rfl,rfl⟩) (.inl ⟨k,r,f,?_⟩) (h.cr i) (h.cr' i)
 exact⟨g.out,g.inn,g.hk,g.hr,g.st,g.rv,g.rd,g.en,g.gu,g.vu,g.vt,g.cr.lost h2⟩
theorem Inv.raise_came {P:PrM}{D one many:Int}{n:Nat}{i:Bool}{id:Int}(h:Inv P D one many n)(hid:(P.s i).has id)(h1:((P.s i).x id).recv=1):((P.s (!i)).x id).send≠0∧Inv (P.set2 i ((P.s i).put id (((P.s i).x id).giveTo ((P.s i).x id).giv.tell)) (((P.s (!i)).come id).put id (((P.s (!i)).x id).rz ((P.s i).x id).giv.lim))) D one many n:=by
 obtain⟨k,r,f,g⟩:=(h.dir' i hid.1).on_of h1
 refine⟨by have:=g.st;omega,?_⟩
 have hu:Upd (P.s (!i)) (((P.s (!i)).come id).put id (((P.s (!i)).x id).rz ((P.s i).x id).giv.lim)) id (((P.s (!i)).x id).rz ((P.s i).x id).giv.lim):=(Upd.come (h.come_or hid)).trans (Upd.put (by rw[SdM.come_x];rfl) (by rw[SdM.come_x];rfl) (by rw[SdM.come_x];rfl) (by rw[SdM.come_x];rfl))
 refine h.both hid (Upd.put rfl rfl rfl rfl) hu (fun k _=>rfl) ((h.dir i id hid.1).alike ⟨rfl,rfl,rfl,fun _=>rfl,rfl,rfl,rfl⟩) (.inl ⟨k,r,f,?_⟩) ?_ ?_
 ·exact⟨g.out,g.inn,g.hk,g.hr,g.st,g.rv,g.rd,g.en,g.gu,g.vu,g.vt,g.cr.came⟩
 ·show Cr (P.s i).got ((P.s (!i)).come id).giv
  rw[SdM.come_giv]
  exact h.cr i
 ·show Cr ((P.s (!i)).come id).got (P.s i).giv
  rw[SdM.come_got]
  exact h.cr' i
theorem Inv.stop_lost {P:PrM}{D one many:Int}{n:Nat}{i:Bool}{id:Int}{b:Bool}(h:Inv P D one many n)(hid:(P.s i).has id):Inv (P.set2 i ((P.s i).put id {(P.s i).x id with stops:=b}) (P.s (!i))) D one many n:=
 h.both hid (Upd.put rfl rfl rfl rfl) Upd.refl (fun k _=>rfl) ((h.dir i id hid.1).alike ⟨rfl,rfl,rfl,fun _=>rfl,rfl,rfl,rfl⟩) ((h.dir' i hid.1).alike ⟨rfl,rfl,rfl,fun _=>rfl,rfl,rfl,rfl⟩) (h.cr i) (h.cr' i)
theorem giveUp_same {x:SmM}{c:Int}:(x.giveUp c).got=x.got∧(x.giveUp c).giv=x.giv∧(x.giveUp c).recv=x.recv∧(x.giveUp c).inn=x.inn∧(x.giveUp c).out=x.out∧(x.giveUp c).counted=x.counted:=by
 unfold SmM.giveUp
 split
 ·exact⟨rfl,rfl,rfl,rfl,rfl,rfl⟩
 ·split<;>exact⟨rfl,rfl,rfl,rfl,rfl,rfl⟩
theorem Dir.giveUp {x y:SmM}{W Rd:List UInt8}{E:Bool}{c:Int}(h:Dir x y W Rd E)(hc:c≤4611686018427387903):Dir (x.giveUp c) y W Rd E:=by
 by_cases hl:liveS x.send=true
 ·have hs:x.send=1∨x.send=2:=by simpa [liveS] using hl
  obtain⟨k,r,f,g⟩:=h.on_send zom
  have e:x.giveUp c={x with send:=4,reset:=c,resets:=true}:=by
   unfold SmM.giveUp
   rw[if_neg (by rw[hl];decide),if_neg zom]
  rw[e]
  exact .inl ⟨k,r,f,g.out,g.inn,g.hk,g.hr,.inr (.inr ⟨rfl,rfl⟩),g.rv,g.rd,g.en,g.gu,g.vu,g.vt,g.cr⟩
 ·have e:x.giveUp c=x:=by
   unfold SmM.giveUp
   rw[if_pos (by simpa using hl)]
  rw[e]
  exact h
theorem Inv.stop_came {P:PrM}{D one many:Int}{n:Nat}{i:Bool}{id:Int}{c:Int}(h:Inv P D one many n)(hid:(P.s i).has id)(h1:liveS ((P.s i).x id).recv=true)(hc:c≤4611686018427387903):((P.s (!i)).x id).send≠0∧((P.s (!i)).x id).giveUpE c=0∧Inv (P.set2 i ((P.s i).put id ((P.s i).x id).noStop) (((P.s (!i)).come id).put id (((P.s (!i)).x id).giveUp c))) D one many n:=by
 have hd:=h.dir' i hid.1
 obtain⟨e1,e2,e3,e4,e5,e6⟩:=giveUp_same (x:=(P.s (!i)).x id) (c:=c)
 refine⟨?_,?_,?_⟩
 ·have hr:((P.s i).x id).recv=1∨((P.s i).x id).recv=2:=by simpa [liveS] using h1
  rcases hd with⟨k,r,f,g⟩|⟨r,g⟩|⟨k,r,f,g⟩|g
  ·have:=g.st;omega
  ·have:=g.st;omega
  ·have:=g.st;omega
  ·have:=g.rv;omega
 ·unfold SmM.giveUpE
  split
  ·rfl
  ·rw[if_neg zom]
 have hu:Upd (P.s (!i)) (((P.s (!i)).come id).put id (((P.s (!i)).x id).giveUp c)) id (((P.s (!i)).x id).giveUp c):=(Upd.come (h.come_or hid)).trans (Upd.put (by rw[SdM.come_x,e1]) (by rw[SdM.come_x,e2]) (by rw[SdM.come_x];unfold tkS SmM.read;rw[e2,e3,e4]) (by rw[SdM.come_x];unfold cS;rw[e6]))
 refine h.both hid (Upd.put rfl rfl rfl rfl) hu (fun k _=>rfl) ((h.dir i id hid.1).alike ⟨rfl,rfl,rfl,fun _=>rfl,e3,e4,e2⟩) ((hd.giveUp hc).alike ⟨rfl,rfl,rfl,fun _=>rfl,rfl,rfl,rfl⟩) ?_ ?_
 ·show Cr (P.s i).got ((P.s (!i)).come id).giv
  rw[SdM.come_giv]
  exact h.cr i
 ·show Cr ((P.s (!i)).come id).got (P.s i).giv
  rw[SdM.come_got]
  exact h.cr' i
theorem Inv.reset_lost {P:PrM}{D one many:Int}{n:Nat}{i:Bool}{id:Int}(h:Inv P D one many n)(hid:(P.s i).has id)(h1:((P.s i).x id).resets=true):((P.s i).x id).noReset.again=(P.s i).x id:=by
 unfold SmM.again SmM.noReset
 rw[←h1]
theorem Inv.reset_came {P:PrM}{D one many:Int}{n:Nat}{i:Bool}{id:Int}{f:FsM}(h:Inv P D one many n)(hid:(P.s i).has id)(h1:((P.s i).x id).send=4)(hl:f.lim=((P.s i).x id).got.used):
  ∃m,((P.s (!i)).x id).inn=some m∧((P.s (!i)).x id).recv=1∧(m.read≤f.lim∧f.lim≤1000000000)∧((P.s (!i)).x id).giv.useE (m.more f.lim)=0∧(P.s (!i)).giv.useE (m.more f.lim)=0∧m.stopE f.lim=0∧(m.stop f.lim).WF∧0≤m.more f.lim∧m.WF∧(m.stop f.lim).read=m.read∧
   Inv (P.set2 i ((P.s i).settle id ((P.s i).x id).noReset.settled) (((P.s (!i)).come id).put2 id (((P.s (!i)).x id).rstE m f) (((P.s (!i)).giv.use (m.more f.lim)).take (f.lim-(m.stop f.lim).read)) (P.s (!i)).got)) D one many n:=by
 obtain⟨k,r,fi,g⟩:=(h.dir i id hid.1).on_send zom
 have hW:=h.wl60 (a:=i) hid
 have hgu:=g.gu
 have hwf:(inG (P.wr i id) r k false 0).WF:=inG_wf g.hr g.hk hW fun e=>by cases e
 have hcr:=g.cr
 have ha:=hcr.a;have hb:=hcr.b;have hcc:=hcr.c;have hn:=hcr.n
 have hmore:(inG (P.wr i id) r k false 0).more f.lim=f.lim-k:=by
  unfold InM.more
  have:(inG (P.wr i id) r k false 0).high=(k:Int):=rfl
  rw[this]
  split<;>omega
 have hrd:(inG (P.wr i id) r k false 0).read=(r:Int):=rfl
 have hse:(inG (P.wr i id) r k false 0).stopE f.lim=0:=by
  unfold InM.stopE
  rw[if_neg zom,if_neg]
  rintro (⟨e,_⟩|e)
  ·cases e
  ·have:(inG (P.wr i id) r k false 0).high=(k:Int):=rfl
   omega
 have hstop:(inG (P.wr i id) r k false 0).stop f.lim=({inG (P.wr i id) r k false 0 with final:=f.lim,known:=true}:InM).rise f.lim:=if_pos hse
 have hst2:((inG (P.wr i id) r k false 0).stop f.lim).read=(r:Int)∧((inG (P.wr i id) r k false 0).stop f.lim).high=f.lim:=by
  rw[hstop]
  unfold InM.rise
  split
  ·next e=>
   refine⟨rfl,?_⟩
   have e2:f.lim≤(k:Int):=e
   show (k:Int)=f.lim
   omega
  ·exact⟨rfl,rfl⟩
 have hvu:=g.vu
 have u1:=GivM.use_eq (v:=((P.s (!i)).x id).giv) (n:=f.lim-k) zom zom
 have hroom:=h.room hid (a:=((P.s i).x id).got.used) (b:=((P.s i).x id).got.used) (Int.le_refl _)
 have hC:=h.cr i
 have hCa:=hC.a;have hCb:=hC.b;have hCc:=hC.c;have hCn:=hC.n;have hCh:=hC.h
 have u2:=GivM.use_eq (v:=(P.s (!i)).giv) (n:=f.lim-k) zom zom
 have hfew:=h.few (i:=i)
 have hdn:=h.has_lt hid
 have htk:tkS ((P.s (!i)).x id)=r:=by
  unfold tkS SmM.read
  rw[if_neg (by have:=g.rv;omega),g.inn]
  rfl
 have hroomT:=h.roomT (i:=!i) hdn (a:=f.lim) (b:=f.lim) (Int.le_refl _)
 rw[htk]at hroomT
 refine⟨_,g.inn,g.rv,⟨by rw[hrd];have:=g.hr;omega,by omega⟩,by rw[hmore];exact u1.2,by rw[hmore];exact u2.2,hse,InM.stop_wf hwf zom,by rw[hmore];omega,hwf,hst2.1,?_⟩
 rw[hmore,hst2.1,u2.1]
 have ey:(((P.s (!i)).x id).rstE (inG (P.wr i id) r k false 0) f).giv={((P.s (!i)).x id).giv with used:=f.lim}:=by
  show ((P.s (!i)).x id).giv.use ((inG (P.wr i id) r k false 0).more f.lim)=_
  rw[hmore,u1.1]
  have:((P.s (!i)).x id).giv.used+(f.lim-k)=f.lim:=by omega
  rw[this]
 have et:tkS (((P.s (!i)).x id).rstE (inG (P.wr i id) r k false 0) f)=f.lim:=by
  unfold tkS
  rw[if_pos (.inl rfl),ey]
 have tk:=GivM.take_eq (v:={(P.s (!i)).giv with used:=(P.s (!i)).giv.used+(f.lim-k)}) (n:=f.lim-r) (by have:=g.hr;omega) zdo zdo zdo zdo
 have hu:Upd (P.s (!i)) (((P.s (!i)).come id).put2 id (((P.s (!i)).x id).rstE (inG (P.wr i id) r k false 0) f) (GivM.take {(P.s (!i)).giv with used:=(P.s (!i)).giv.used+(f.lim-k)} (f.lim-r)) (P.s (!i)).got) id (((P.s (!i)).x id).rstE (inG (P.wr i id) r k false 0) f):=by
  refine(Upd.come (h.come_or hid)).trans (Upd.put2 ?_ ?_ ?_ ?_ ?_)
  ·rw[SdM.come_x,SdM.come_got]
   show (P.s (!i)).got.used=(P.s (!i)).got.used+(((P.s (!i)).x id).got.used-((P.s (!i)).x id).got.used)
   omega
  ·rw[SdM.come_x,SdM.come_giv,tk,ey]
   dsimp only
   omega
  ·rw[SdM.come_x,SdM.come_giv,tk,et,htk]
  ·rw[SdM.come_giv,tk]
  ·rw[SdM.come_x];rfl
 have hsA:Upd (P.s i) ((P.s i).settle id ((P.s i).x id).noReset.settled) id (((P.s i).x id).noReset.settled.fin ((P.s i).mine id)):=Upd.settle rfl rfl rfl rfl
 refine h.both hid hsA hu (fun k hk=>settle_came hk) (Dir.fin (.inr (.inr (.inl ⟨k,r,fi,?_⟩)))) (Dir.fin2 ((h.dir' i hid.1).alike ⟨rfl,rfl,rfl,fun _=>rfl,rfl,rfl,rfl⟩)) ?_ ?_
 ·refine⟨g.out,⟨_,rfl,InM.stop_wf hwf zom,hst2.1,hst2.2.trans hl⟩,g.hk,g.hr,rfl,.inl rfl,g.rd,g.en,hgu,?_,ha,?_⟩
  ·rw[ey];exact hl
  ·rw[ey];show f.lim≤((P.s (!i)).x id).giv.lim;omega
 ·have e:((P.s i).settle id ((P.s i).x id).noReset.settled).got=(P.s i).got:=by
   unfold SdM.settle;split
   ·rw[SdM.setK_got];rfl
   ·rfl
  rw[e]
  show Cr (P.s i).got (GivM.take {(P.s (!i)).giv with used:=(P.s (!i)).giv.used+(f.lim-k)} (f.lim-r))
  have h2:=(hC.use (n:=f.lim-k) zom zom)
  rw[u2.1]at h2
  exact h2.take (by have:=g.hr;omega) zdo
 ·have e:((P.s i).settle id ((P.s i).x id).noReset.settled).giv=(P.s i).giv:=by
   unfold SdM.settle;split
   ·rw[SdM.setK_giv];rfl
   ·rfl
  rw[e]
  exact h.cr' i
end Go.Proofs.YtnlaffkihohfkaaGreat
namespace Go.Proofs.YtnlaffkihohfkaaGreat
open Go Go.Sl Go.Proofs
variable {B:Nat}{w0:World}{G:List Hp}{R:Hp→List Hp}
def GotM.upTo (g:GotM)(used stop:Int):GotM:=if stop≤used then g else g.use (stop-used)
theorem sentD_eq {A:SdM}{id:Int}{o:BufM}{stop:Int}:A.sentD id o stop=A.put2 id {(A.x id).outTo o with got:=(A.x id).got.upTo (A.x id).got.used stop} A.giv (A.got.upTo (A.x id).got.used stop):=by
 unfold SdM.sentD GotM.upTo
 split<;>rfl
theorem GotM.upTo_used {g:GotM}{used stop:Int}(h:stop≤used∨g.used+(stop-used)≤g.lim):(g.upTo used stop).used=g.used+(max used stop-used)∧(g.upTo used stop).lim=g.lim:=by
 unfold GotM.upTo
 split
 ·exact⟨by omega,rfl⟩
 ·rw[GotM.use_eq zom zom]
  exact⟨by dsimp only;omega,rfl⟩
theorem Cr.upTo {g:GotM}{v:GivM}{used stop:Int}(h:Cr g v)(h1:stop≤used∨g.used+(stop-used)≤g.lim)(h2:g.used+(max used stop-used)≤1000000000):Cr (g.upTo used stop) v:=by
 unfold GotM.upTo
 split
 ·exact h
 ·exact h.spend zom zom zom
structure Piece8 (x:SmM)(W:List UInt8)(k n:Nat)(fi:Bool)(gg:GotM)(f:FsM):Prop where
 off:f.off=k
 data:f.data=(W.drop k).take n
 fin:f.fin=(fi&&decide (k+n=W.length))
 hk:k+n≤W.length
 z:n=0→k=W.length∧fi=true
 l:0<n→(k:Int)+n≤x.got.used+min x.got.room gg.room
theorem Piece8.len {x:SmM}{W:List UInt8}{k n:Nat}{fi:Bool}{gg:GotM}{f:FsM}(h:Piece8 x W k n fi gg f):f.data.length=n:=by
 rw[h.data,List.length_take,List.length_drop]
 have:=h.hk
 omega
theorem DOn.credit {x y:SmM}{W Rd:List UInt8}{E:Bool}{k r n:Nat}{fi:Bool}{A:SdM}{v:GivM}{f:FsM}(h:DOn x y W Rd E k r fi)(p:Piece8 x W k n fi A.got f)(hg:Cr A.got v)(hW:W.length≤60000):
  (((k+n:Nat):Int)≤x.got.used∨x.got.used+(((k+n:Nat):Int)-x.got.used)≤x.got.lim)∧(((k+n:Nat):Int)≤x.got.used∨A.got.used+(((k+n:Nat):Int)-x.got.used)≤A.got.lim):=by
 have h1:=h.gu
 have h2:=h.cr.a
 have h3:=hg.a
 by_cases h0:n=0
 ·subst h0
  exact⟨.inl zom,.inl zom⟩
 ·have:=p.l zom
  unfold GotM.room roomM at this
  constructor<;>omega
def SmM.sent8 (x:SmM)(W:List UInt8)(k n:Nat)(fi:Bool):SmM:={x.outTo (bufS W k n fi)with got:=x.got.upTo x.got.used ((k+n:Nat):Int)}
def SmM.lost8 (x:SmM)(W:List UInt8)(k n:Nat)(fi:Bool):SmM:={x.outTo (bufG W k fi false)with got:=x.got.upTo x.got.used ((k+n:Nat):Int)}
def SdM.sent8 (A:SdM)(id:Int)(x:SmM)(k n:Nat):SdM:=A.put2 id x A.giv (A.got.upTo (A.x id).got.used ((k+n:Nat):Int))
theorem sent8_eq {A:SdM}{id:Int}{W:List UInt8}{k n:Nat}{fi:Bool}:A.sentD id (bufS W k n fi) ((k+n:Nat):Int)=A.sent8 id ((A.x id).sent8 W k n fi) k n:=sentD_eq
theorem DOn.sent_eq {x y:SmM}{W Rd:List UInt8}{E:Bool}{k r n:Nat}{fi:Bool}{gg:GotM}{f:FsM}(h:DOn x y W Rd E k r fi)(p:Piece8 x W k n fi gg f)(hW:W.length≤60000):(bufG W k fi false).sent f.off f.data.length f.fin=bufS W k n fi∧f.off+f.data.length=((k+n:Nat):Int)∧(bufS W k n fi).lostIt f.off f.data.length f.fin=bufG W k fi false∧(bufS W k n fi).gotIt f.off f.data.length f.fin=bufG W (k+n) fi (fi&&decide (k+n=W.length)):=by
 rw[p.len,p.off,p.fin]
 exact⟨bufG_sent p.hk hW,by omega,bufS_lost p.hk hW,bufS_came p.hk hW⟩
theorem Inv.data_lost {P:PrM}{D one many:Int}{n0:Nat}{i:Bool}{id:Int}{k r n:Nat}{fi:Bool}{f:FsM}(h:Inv P D one many n0)(hid:(P.s i).has id)(g:DOn ((P.s i).x id) ((P.s (!i)).x id) (P.wr i id) (P.rd (!i) id) (P.en (!i) id) k r fi)(p:Piece8 ((P.s i).x id) (P.wr i id) k n fi (P.s i).got f):
  Inv (P.set2 i ((P.s i).sent8 id (((P.s i).x id).lost8 (P.wr i id) k n fi) k n) (P.s (!i))) D one many n0:=by
 have hW:=h.wl60 (a:=i) hid
 obtain⟨c1,c2⟩:=g.credit p (h.cr i) hW
 have hp:=p.hk
 have hgu:=g.gu
 obtain⟨u1,l1⟩:=GotM.upTo_used c1
 obtain⟨u2,l2⟩:=GotM.upTo_used c2
 have hfew:=h.few (i:=i)
 have hu:Upd (P.s i) ((P.s i).sent8 id (((P.s i).x id).lost8 (P.wr i id) k n fi) k n) id (((P.s i).x id).lost8 (P.wr i id) k n fi):=by
  refine Upd.put2 ?_ ?_ ?_ rfl rfl
  ·rw[u2]
   show _=(P.s i).got.used+((((P.s i).x id).got.upTo ((P.s i).x id).got.used ((k+n:Nat):Int)).used-((P.s i).x id).got.used)
   rw[u1]
   omega
  ·show (P.s i).giv.used=(P.s i).giv.used+(((P.s i).x id).giv.used-((P.s i).x id).giv.used);omega
  ·show (P.s i).giv.taken=(P.s i).giv.taken+(tkS ((P.s i).x id)-tkS ((P.s i).x id));omega
 refine h.both hid hu Upd.refl (fun k _=>rfl) (.inl ⟨k,r,fi,rfl,g.inn,g.hk,g.hr,g.st,g.rv,g.rd,g.en,?_,g.vu,g.vt,?_⟩) ((h.dir' i hid.1).alike ⟨rfl,rfl,rfl,fun _=>rfl,rfl,rfl,rfl⟩) ?_ (h.cr' i)
 ·show (k:Int)≤(((P.s i).x id).got.upTo ((P.s i).x id).got.used ((k+n:Nat):Int)).used∧(((P.s i).x id).got.upTo ((P.s i).x id).got.used ((k+n:Nat):Int)).used≤_
  rw[u1]
  omega
 ·exact g.cr.upTo c1 zom
 ·exact(h.cr i).upTo c2 zom
def SmM.took8 (y:SmM)(W:List UInt8)(r kn:Nat)(e:Bool):SmM:={y with inn:=some (inG W r kn e (if e=true then (kn:Int) else 0)),giv:=y.giv.use ((kn:Int)-y.giv.used),recv:=if e=true then 2 else y.recv}
theorem Inv.data_came {P:PrM}{D one many:Int}{n0:Nat}{i:Bool}{id:Int}{k r n:Nat}{fi:Bool}{f:FsM}(h:Inv P D one many n0)(hid:(P.s i).has id)(g:DOn ((P.s i).x id) ((P.s (!i)).x id) (P.wr i id) (P.rd (!i) id) (P.en (!i) id) k r fi)(p:Piece8 ((P.s i).x id) (P.wr i id) k n fi (P.s i).got f)(hs:((P.s i).x id).send=1∨((P.s i).x id).send=2):
  (inG (P.wr i id) r k false 0).Agree (max f.off (inG (P.wr i id) r k false 0).read) ((inG (P.wr i id) r k false 0).fresh f.off f.data)∧((P.s (!i)).x id).giv.useE ((inG (P.wr i id) r k false 0).more (f.off+f.data.length))=0∧(P.s (!i)).giv.useE ((inG (P.wr i id) r k false 0).more (f.off+f.data.length))=0∧(inG (P.wr i id) r k false 0).addE f.off f.data f.fin=0∧
  ((P.s (!i)).x id).dataE (inG (P.wr i id) r k false 0) f=((P.s (!i)).x id).took8 (P.wr i id) r (k+n) (fi&&decide (k+n=(P.wr i id).length))∧(inG (P.wr i id) r k false 0).more (f.off+f.data.length)=n∧(((P.s (!i)).x id).took8 (P.wr i id) r (k+n) (fi&&decide (k+n=(P.wr i id).length))).giv=((P.s (!i)).x id).giv.use n∧
  Inv (P.set2 i (((P.s i).sent8 id (((P.s i).x id).sent8 (P.wr i id) k n fi) k n).cameD id (bufG (P.wr i id) (k+n) fi (fi&&decide (k+n=(P.wr i id).length))))
   (((P.s (!i)).come id).put2 id (((P.s (!i)).x id).took8 (P.wr i id) r (k+n) (fi&&decide (k+n=(P.wr i id).length))) ((P.s (!i)).giv.use n) (P.s (!i)).got)) D one many n0:=by
 have hW:=h.wl60 (a:=i) hid
 obtain⟨c1,c2⟩:=g.credit p (h.cr i) hW
 have hp:=p.hk
 have hgu:=g.gu
 have hvu:=g.vu
 have hr:=g.hr
 obtain⟨u1,l1⟩:=GotM.upTo_used c1
 obtain⟨u2,l2⟩:=GotM.upTo_used c2
 have hfew:=h.few (i:=i)
 obtain⟨a1,a2,a3⟩:=inG_add (t:=P.wr i id) (r:=r) (k:=k) (n:=n) (last:=fi&&decide (k+n=(P.wr i id).length)) g.hr p.hk hW
 have hmore:(inG (P.wr i id) r k false 0).more (f.off+f.data.length)=n:=by
  rw[p.len,p.off]
  exact inG_more
 have cS2:Cr (((P.s i).x id).got.upTo ((P.s i).x id).got.used ((k+n:Nat):Int)) ((P.s (!i)).x id).giv:=g.cr.upTo c1 zom
 have cG2:Cr ((P.s i).got.upTo ((P.s i).x id).got.used ((k+n:Nat):Int)) (P.s (!i)).giv:=(h.cr i).upTo c2 zom
 have hroom:=h.room hid (a:=((P.s i).x id).got.used+(max ((P.s i).x id).got.used ((k+n:Nat):Int)-((P.s i).x id).got.used)) (b:=((k+n:Nat):Int)) zom
 have v1:((P.s (!i)).x id).giv.used+(n:Int)≤(((P.s i).x id).got.upTo ((P.s i).x id).got.used ((k+n:Nat):Int)).used:=by rw[u1];omega
 have v2:(P.s (!i)).giv.used+(n:Int)≤((P.s i).got.upTo ((P.s i).x id).got.used ((k+n:Nat):Int)).used:=by rw[u2];omega
 have cS3:=cS2.use (n:=n) zom v1
 have cG3:=cG2.use (n:=n) zom v2
 have hS:=cS2.a;have hS2:=cS2.b;have hS3:=cS2.c
 have hG:=cG2.a;have hG2:=cG2.b;have hG3:=cG2.c
 have w1:=GivM.use_eq (v:=((P.s (!i)).x id).giv) (n:=n) zom zom
 have w2:=GivM.use_eq (v:=(P.s (!i)).giv) (n:=n) zom zom
 have en:((k+n:Nat):Int)-((P.s (!i)).x id).giv.used=n:=by omega
 have egiv:(((P.s (!i)).x id).took8 (P.wr i id) r (k+n) (fi&&decide (k+n=(P.wr i id).length))).giv=((P.s (!i)).x id).giv.use n:=by
  show ((P.s (!i)).x id).giv.use (((k+n:Nat):Int)-((P.s (!i)).x id).giv.used)=_
  rw[en]
 have edat:((P.s (!i)).x id).dataE (inG (P.wr i id) r k false 0) f=((P.s (!i)).x id).took8 (P.wr i id) r (k+n) (fi&&decide (k+n=(P.wr i id).length)):=by
  unfold SmM.dataE SmM.took8
  rw[hmore,en,p.off,p.data,p.fin,a3]
  rfl
 refine⟨?_,by rw[hmore];exact w1.2,by rw[hmore];exact w2.2,?_,edat,hmore,egiv,?_⟩
 ·rw[p.off,p.data];exact a2
 ·rw[p.off,p.data,p.fin];exact a1
 -- both sides
 have hx1:((P.s i).sent8 id (((P.s i).x id).sent8 (P.wr i id) k n fi) k n).x id=((P.s i).x id).sent8 (P.wr i id) k n fi:=if_pos rfl
 have uA1:Upd (P.s i) ((P.s i).sent8 id (((P.s i).x id).sent8 (P.wr i id) k n fi) k n) id (((P.s i).x id).sent8 (P.wr i id) k n fi):=by
  refine Upd.put2 ?_ ?_ ?_ rfl rfl
  ·rw[u2]
   show _=(P.s i).got.used+((((P.s i).x id).got.upTo ((P.s i).x id).got.used ((k+n:Nat):Int)).used-((P.s i).x id).got.used)
   rw[u1]
   omega
  ·show (P.s i).giv.used=(P.s i).giv.used+(((P.s i).x id).giv.used-((P.s i).x id).giv.used);omega
  ·show (P.s i).giv.taken=(P.s i).giv.taken+(tkS ((P.s i).x id)-tkS ((P.s i).x id));omega
 have uB:Upd (P.s (!i)) (((P.s (!i)).come id).put2 id (((P.s (!i)).x id).took8 (P.wr i id) r (k+n) (fi&&decide (k+n=(P.wr i id).length))) ((P.s (!i)).giv.use n) (P.s (!i)).got) id (((P.s (!i)).x id).took8 (P.wr i id) r (k+n) (fi&&decide (k+n=(P.wr i id).length))):=by
  refine(Upd.come (h.come_or hid)).trans (Upd.put2 ?_ ?_ ?_ ?_ ?_)
  ·rw[SdM.come_x,SdM.come_got]
   show (P.s (!i)).got.used=(P.s (!i)).got.used+(((P.s (!i)).x id).got.used-((P.s (!i)).x id).got.used)
   omega
  ·rw[SdM.come_x,SdM.come_giv,w2.1,egiv,w1.1]
   dsimp only
   omega
  ·rw[SdM.come_x,SdM.come_giv,w2.1]
   have e1:tkS ((P.s (!i)).x id)=r:=by
    unfold tkS SmM.read
    rw[if_neg (by have:=g.rv;omega),g.inn]
    rfl
   have e2:tkS (((P.s (!i)).x id).took8 (P.wr i id) r (k+n) (fi&&decide (k+n=(P.wr i id).length)))=r:=by
    unfold tkS
    rw[if_neg]
    ·rfl
    ·show ¬((if (fi&&decide (k+n=(P.wr i id).length))=true then (2:Int) else ((P.s (!i)).x id).recv)=4∨(if (fi&&decide (k+n=(P.wr i id).length))=true then (2:Int) else ((P.s (!i)).x id).recv)=5)
     have:=g.rv
     split<;>omega
   rw[e1,e2]
   dsimp only
   omega
  ·rw[SdM.come_giv,w2.1]
  ·rw[SdM.come_x];rfl
 have hdir2:=h.dir' i hid.1
 have hdrop:∀e:Bool,e=true→k+n=(P.wr i id).length→(e&&decide ((bufG (P.wr i id) (k+n) fi e).data.length=0))=true:=fun e he hk=>by
  have:(bufG (P.wr i id) (k+n) fi e).data.length=0:=by
   show ((P.wr i id).drop (k+n)).length=0
   rw[List.length_drop];omega
  rw[this,he]
  rfl
 by_cases he:(fi&&decide (k+n=(P.wr i id).length))=true
 ·have hfi:fi=true∧k+n=(P.wr i id).length:=by simpa using he
  have hs2:((P.s i).x id).send=2:=by
   rcases g.st with⟨_,e⟩|⟨e,_⟩|⟨e,_⟩
   ·rw[hfi.1]at e;cases e
   ·exact e
   ·omega
  rw[he]at uB egiv⊢
  have eA:((P.s i).sent8 id (((P.s i).x id).sent8 (P.wr i id) k n fi) k n).cameD id (bufG (P.wr i id) (k+n) fi true)=((P.s i).sent8 id (((P.s i).x id).sent8 (P.wr i id) k n fi) k n).settle id ((((P.s i).x id).sent8 (P.wr i id) k n fi).overO (bufG (P.wr i id) (k+n) fi true)):=by
   unfold SdM.cameD
   rw[hx1,if_pos]
   exact⟨hs2,hdrop true rfl hfi.2⟩
  rw[eA]
  have uA2:=uA1.trans (Upd.settle (A:=(P.s i).sent8 id (((P.s i).x id).sent8 (P.wr i id) k n fi) k n) (id:=id) (x':=(((P.s i).x id).sent8 (P.wr i id) k n fi).overO (bufG (P.wr i id) (k+n) fi true)) (by rw[hx1];rfl) (by rw[hx1];rfl) (by rw[hx1];rfl) (by rw[hx1];rfl))
  have eg:(((P.s i).sent8 id (((P.s i).x id).sent8 (P.wr i id) k n fi) k n).settle id ((((P.s i).x id).sent8 (P.wr i id) k n fi).overO (bufG (P.wr i id) (k+n) fi true))).got=(P.s i).got.upTo ((P.s i).x id).got.used ((k+n:Nat):Int):=by
   unfold SdM.settle;split
   ·rw[SdM.setK_got];rfl
   ·rfl
  have ev:(((P.s i).sent8 id (((P.s i).x id).sent8 (P.wr i id) k n fi) k n).settle id ((((P.s i).x id).sent8 (P.wr i id) k n fi).overO (bufG (P.wr i id) (k+n) fi true))).giv=(P.s i).giv:=by
   unfold SdM.settle;split
   ·rw[SdM.setK_giv];rfl
   ·rfl
  refine h.both hid uA2 uB (fun k hk=>by rw[settle_came hk];rfl) (Dir.fin (.inr (.inl ⟨r,?_⟩))) (Dir.fin2 (hdir2.alike ⟨rfl,rfl,rfl,fun _=>rfl,rfl,rfl,rfl⟩)) ?_ ?_
  ·refine⟨?_,?_,by omega,rfl,.inl ⟨rfl,g.en⟩,g.rd,?_,?_,?_,?_,?_,?_⟩
   ·show some (bufG (P.wr i id) (k+n) fi true)=_
    rw[hfi.1,hfi.2]
   ·show some (inG (P.wr i id) r (k+n) true ((k+n:Nat):Int))=_
    rw[hfi.2]
   ·show (((P.s i).x id).got.upTo ((P.s i).x id).got.used ((k+n:Nat):Int)).used=_
    rw[u1];omega
   ·rw[egiv,w1.1];dsimp only;omega
   ·rw[egiv,w1.1];show ((P.s (!i)).x id).giv.taken≤(r:Int);rw[g.vt];exact Int.le_refl _
   ·show (((P.s i).x id).got.upTo ((P.s i).x id).got.used ((k+n:Nat):Int)).used≤(((P.s i).x id).got.upTo ((P.s i).x id).got.used ((k+n:Nat):Int)).lim
    exact cS2.a
   ·rw[egiv,w1.1];dsimp only;omega
   ·rw[egiv,w1.1];exact g.cr.e
  ·rw[eg]
   exact cG3
  ·rw[ev]
   exact h.cr' i
 ·have he':(fi&&decide (k+n=(P.wr i id).length))=false:=by simpa using he
  rw[he']at uB egiv⊢
  have eA:((P.s i).sent8 id (((P.s i).x id).sent8 (P.wr i id) k n fi) k n).cameD id (bufG (P.wr i id) (k+n) fi false)=((P.s i).sent8 id (((P.s i).x id).sent8 (P.wr i id) k n fi) k n).put id ((((P.s i).x id).sent8 (P.wr i id) k n fi).outTo (bufG (P.wr i id) (k+n) fi false)):=by
   unfold SdM.cameD
   rw[hx1,if_neg]
   rintro⟨_,e⟩
   cases e
  rw[eA]
  have uA2:=uA1.trans (Upd.put (A:=(P.s i).sent8 id (((P.s i).x id).sent8 (P.wr i id) k n fi) k n) (id:=id) (x':=(((P.s i).x id).sent8 (P.wr i id) k n fi).outTo (bufG (P.wr i id) (k+n) fi false)) (by rw[hx1];rfl) (by rw[hx1];rfl) (by rw[hx1];rfl) (by rw[hx1];rfl))
  refine h.both hid uA2 uB (fun k hk=>rfl) (.inl ⟨k+n,r,fi,?_⟩) (hdir2.alike ⟨rfl,rfl,rfl,fun _=>rfl,rfl,rfl,rfl⟩) cG3 (h.cr' i)
  refine⟨rfl,rfl,p.hk,by omega,g.st,g.rv,g.rd,g.en,?_,?_,?_,?_⟩
  ·show ((k+n:Nat):Int)≤(((P.s i).x id).got.upTo ((P.s i).x id).got.used ((k+n:Nat):Int)).used∧(((P.s i).x id).got.upTo ((P.s i).x id).got.used ((k+n:Nat):Int)).used≤_
   rw[u1];omega
  ·rw[egiv,w1.1];dsimp only;omega
  ·rw[egiv,w1.1];exact g.vt
  ·rw[egiv];exact cS3
end Go.Proofs.YtnlaffkihohfkaaGreat
