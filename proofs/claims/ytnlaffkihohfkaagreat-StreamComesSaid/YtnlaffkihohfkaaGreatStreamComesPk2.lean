/- More rules for lists in memory: composite slices, three indexes, zeros appended, overlaps. Conditions: none; nothing here speaks of a given program. Short names for steps that come often. Conditions: none. The facts on types that the walks use, by program. Conditions: none. Sets of numbers as rising ranges: what adding and cutting yield, and that the document's answer is the same: plain facts. Conditions: none. A region that draws, three or four operations ready: each of them may be the next. Conditions: none. What the functions of Go's packages slices and sort do that package span calls, and what a range is in memory. Conditions: lists are short. What the methods of span.Set do, each as a contract. Conditions: numbers fit their types, lists are short. What span.Set's Add, AddLast and Cut do, as contracts. Conditions: numbers fit their types, lists are short. What the laws of package span call: their fixed fact, an act's range; what is added or cut where there is room. Conditions: numbers fit their types, lists are short. Sets of ranges: how many ranges there may be, what is first, and sets between two places: plain facts. Conditions: none. -/
import Derived.Test.YtnlaffkihohfkaaGreatStreamComesPk1
import Derived.Laws.Externs
import Derived.Laws.Cover3
import Derived.Lib.Overlaps
import Derived.Test.YtnlaffkihohfkaaGreatRows
set_option maxRecDepth 20000
set_option linter.unusedVariables false
set_option linter.unusedSimpArgs false
namespace Go.Sl
open Go.RowKit Go
variable {P:Program}{ops:Array Oper}{Q:Exit→Act→World→Prop}{B:Nat}{w0:World}{N:Nat}{G:List Hp}{E:Env}{S:World→Prop}{ty T U:TypeId}
theorem v_eql_slnil {x:Operand}{e n c:Nat}{ao:Option Addr}(hT:P.underlying T=some (.slice e))(hx:Env.ev E x=some (.slice ao n c)):OpV P S N E (.binOp .eql T x (.const (.slice none 0 0)) U) ty (.bool ao.isNone):=fun a w ha _=>by
 have h:=run_equal_slice_nil (P:=P) w T e ao n c hT
 simp[execOp,ha.ev hx,ha.ev (x:=.const (.slice none 0 0)) rfl,eqGuard,binOp,h,Oper.quietUpon]
theorem foldl_set (off:Nat):∀(vs:List Value) (k:Nat) (cells:Array Value),off+k+vs.length≤cells.size→
  ((vs.zipIdx k).foldl (fun cs (p:Value×Nat)=>cs.setIfInBounds (off+p.2) p.1) cells)=(cells.toList.take (off+k)++(vs++cells.toList.drop (off+k+vs.length))).toArray:=by
 intro vs
 induction vs with
 |nil=>intro k cells h;simp
 |cons c r ih=>
  intro k cells h
  simp only[List.length_cons]at h
  simp only[List.zipIdx_cons,List.foldl_cons]
  rw[ih (k+1) _ (by simp;omega)]
  congr 1
  simp only[Array.toList_setIfInBounds,List.length_cons]
  rw[List.set_eq_take_append_cons_drop,if_pos (by simp;omega)]
  have h1:(cells.toList.take (off+k)).length=off+k:=by simp;omega
  have e1:List.take (off+(k+1)) (List.take (off+k) cells.toList++c::List.drop (off+k+1) cells.toList)=List.take (off+k) cells.toList++[c]:=by
   rw[show off+(k+1)=(List.take (off+k) cells.toList).length+1 by omega,List.take_append,List.take_of_length_le (by omega)]
   simp
  have e2:List.drop (off+(k+1)+r.length) (List.take (off+k) cells.toList++c::List.drop (off+k+1) cells.toList)=List.drop (off+k+(r.length+1)) cells.toList:=by
   rw[List.drop_append,List.drop_eq_nil_of_le (by omega),h1,List.nil_append,show off+(k+1)+r.length-(off+k)=r.length+1 by omega,List.drop_succ_cons,List.drop_drop]
   congr 1
   omega
  rw[e1,e2]
  simp
theorem fill_all {size:Nat}:∀(vs:List Value) (k:Nat) (pre:List Value) (cells:Array Value),pre.length=k*size→(∀v∈vs,v.cells.size=size)→cells.toList.take (k*size)=pre→cells.size=(k+vs.length)*size→
  Instr.fill (fun i=>some (i*size,size)) cells ((vs.zipIdx k).map fun p=>(p.2,p.1))=some (pre++vs.flatMap fun v=>v.cells.toList).toArray:=by
 intro vs
 induction vs with
 |nil=>
  intro k pre cells hp _ ht hs
  simp only[List.zipIdx_nil,List.map_nil,Instr.fill,List.flatMap_nil,List.append_nil]
  congr 1
  rw[←ht,List.take_of_length_le (by simp at hs⊢;omega)]
 |cons v r ih=>
  intro k pre cells hp hv ht hs
  have h1:=hv v (by simp)
  have h2:(k+1)*size≤cells.size:=by
   rw[hs];exact Nat.mul_le_mul_right _ (by simp)
  rw[Nat.succ_mul]at h2
  simp only[List.zipIdx_cons,List.map_cons,Instr.fill]
  rw[if_neg (by simp[h1];omega)]
  have h3:=foldl_set (k*size) v.cells.toList 0 cells (by simp;omega)
  have h4:Array.foldl (fun cs (x:Value×Nat)=>match x with|(c,j)=>cs.setIfInBounds (k*size+j) c) cells v.cells.zipIdx=(cells.toList.take (k*size+0)++(v.cells.toList++cells.toList.drop (k*size+0+v.cells.toList.length))).toArray:=by
   rw[←h3,←Array.foldl_toList]
   simp
  have h5:=ih (k+1) (pre++v.cells.toList) (cells.toList.take (k*size+0)++(v.cells.toList++cells.toList.drop (k*size+0+v.cells.toList.length))).toArray (by simp[hp,h1,Nat.succ_mul]) (fun u hu=>hv u (by simp[hu])) (by
   simp only[Nat.add_zero,ht]
   rw[←List.append_assoc,List.take_append_of_le_length (by simp[hp,h1,Nat.succ_mul])]
   rw[List.take_of_length_le (by simp[hp,h1,Nat.succ_mul])]) (by
   simp only[List.size_toArray,List.length_append,List.length_take,List.length_drop,Array.length_toList,h1]
   rw[hs]at h2⊢
   simp only[List.length_cons]at h2⊢
   have e1:(k+1+r.length)*size=(k+(r.length+1))*size:=by congr 1;omega
   rw[e1]
   omega)
  simp only[List.flatMap_cons,←List.append_assoc]
  rw[←h5]
  congr 1
theorem run_buildSlice {e size:Nat}{z:Value}{i:TypeInfo}(hT:P.underlying T=some (.slice e))(hi:P.info? e=some i)(his:i.size=size)(hz:i.zero=some z)(hzs:z.cells.size=size)(vs:List Value)(hv:∀v∈vs,v.cells.size=size)(hbig:vs.length*size≤16777216)(w:World):
  (Instr.buildSlice T vs.length ((vs.zipIdx).map fun p=>(p.2,p.1)).toArray).run P w=.ok (.slice (some ⟨w.heap.size,0,none⟩) vs.length vs.length) (w.alloc (.cells (vs.flatMap fun v=>v.cells.toList).toArray e)):=by
 have hsz:(P.info? e).map (·.size)=some size:=by rw[hi];simp[his]
 have hn:¬(2 ^ 24<vs.length*size):=by omega
 have hf:∀cells:Array Value,cells.size=vs.length*size→Instr.fill (fun i=>some (i*size,size)) cells ((vs.zipIdx).map fun p=>(p.2,p.1))=some (vs.flatMap fun v=>v.cells.toList).toArray:=fun cells hc=>by
  have:=fill_all (size:=size) vs 0 [] cells (by simp) hv (by simp) (by simpa using hc)
  simpa using this
 unfold Instr.buildSlice
 simp only[Sem.run_bind,run_underlying hT,Result.andThen_ok,run_sizeOf hsz]
 by_cases h0:vs.length*size=0
 ·have:=hf (Array.map (fun _=>(default:Value)) (Array.range 0)) (by simp[h0])
  simp[h0,this,newRow]
 ·have h1:∀zz:Array Value,((Array.range (vs.length*size)).map fun j=>zz[j%zz.size]!).size=vs.length*size:=by simp
  simp[h0,hn,zeroValue,typeInfo,hi,hz,hf _ (h1 _),newRow]
theorem ow_buildL {α:Type}{En:Enc α}{d len e bytes:Nat}{l:List (Nat×Operand)}{es:List α}{pos:String}{af:Array Edge}{g:Option (Nat×Bool)}{rest:List Oper}(hg:Env.guard E ops g=some true)(hd:Nat.blt d N=true)
  (hT:P.underlying T=some (.slice e)) (he:Elem P e En.size bytes) (hen:EncTy P e En) (hlen:len=es.length) (hl:Env.parts E l=some (((es.map En.val).zipIdx).map fun p=>(p.2,p.1))) (ha:∀a∈es,En.ok a) (hbig:es.length*En.size≤16777216)
  (h:∀ao c,Ls En e (.slice ao es.length es.length) c es→OW P ops Q B w0 N (c::G) ((d,.slice ao es.length es.length)::E) rest):
  OW P ops Q B w0 N G E (⟨some d,.buildSlice T len l.toArray,ty,pos,af,g⟩::rest):=by
 subst hlen
 obtain⟨i,hi,his,hib,z,hz,hzs⟩:=he.info
 have hfm:∀bs:List α,(∀a∈bs,En.ok a)→(bs.map En.val).flatMap (fun v=>v.cells.toList)=bs.flatMap En.f:=by
  intro bs hbs
  induction bs with
  |nil=>rfl
  |cons b bs ih=>simp[hen.cells b (hbs b (by simp)),ih (fun a ha=>hbs a (by simp[ha]))]
 have hcs:∀v∈es.map En.val,v.cells.size=En.size:=by
  intro v hv
  obtain⟨a,h1,rfl⟩:=List.mem_map.1 hv
  have:=hen.len a (ha a h1)
  rw[←hen.cells a (ha a h1)]at this
  simpa using this
 refine ow_buildSlice (e:=e) (size:=En.size) (cells:=es.flatMap En.f) hg hd hl (fun w=>?_) (fm_len fun a h1=>hen.len a (ha a h1)) fun b hb=>h _ _ ⟨hb,ha⟩
 have:=run_buildSlice hT hi his hz hzs (es.map En.val) hcs (by simpa using hbig) w
 rw[hfm es ha]at this
 simpa using this
theorem sw_buildL {α:Type}{En:Enc α}{d len e bytes:Nat}{l:List (Nat×Operand)}{es:List α}{pos:String}{af:Array Edge}{g:Option (Nat×Bool)}{rest tail:List Oper}(hg:Env.guard E ops g=some true)(hd:Nat.blt d N=true)
  (hT:P.underlying T=some (.slice e)) (he:Elem P e En.size bytes) (hen:EncTy P e En) (hlen:len=es.length) (hl:Env.parts E l=some (((es.map En.val).zipIdx).map fun p=>(p.2,p.1))) (ha:∀a∈es,En.ok a) (hbig:es.length*En.size≤16777216)
  (h:∀ao c,Ls En e (.slice ao es.length es.length) c es→SW P ops Q B w0 N (c::G) ((d,.slice ao es.length es.length)::E) rest tail):
  SW P ops Q B w0 N G E (⟨some d,.buildSlice T len l.toArray,ty,pos,af,g⟩::rest) tail:=by
 subst hlen
 obtain⟨i,hi,his,hib,z,hz,hzs⟩:=he.info
 have hfm:∀bs:List α,(∀a∈bs,En.ok a)→(bs.map En.val).flatMap (fun v=>v.cells.toList)=bs.flatMap En.f:=by
  intro bs hbs
  induction bs with
  |nil=>rfl
  |cons b bs ih=>simp[hen.cells b (hbs b (by simp)),ih (fun a ha=>hbs a (by simp[ha]))]
 have hcs:∀v∈es.map En.val,v.cells.size=En.size:=by
  intro v hv
  obtain⟨a,h1,rfl⟩:=List.mem_map.1 hv
  have:=hen.len a (ha a h1)
  rw[←hen.cells a (ha a h1)]at this
  simpa using this
 have hlf:(es.flatMap En.f).length=es.length*En.size:=fm_len fun a h1=>hen.len a (ha a h1)
 refine sw_new (vs:=es.flatMap En.f) (e:=e) (fun b=>.slice (some ⟨b,0,none⟩) es.length es.length) hg hd (fun a w hE hw=>?_) fun b=>?_
 ·have h1:=hE.parts hl
  have h2:(Array.map (fun p:Nat×Operand=>(p.1,a.eval p.2)) l.toArray)=(((es.map En.val).zipIdx).map fun p=>(p.2,p.1)).toArray:=by simp[h1]
  have h3:=run_buildSlice hT hi his hz hzs (es.map En.val) hcs (by simpa using hbig) w
  rw[hfm es ha]at h3
  have h4:(Instr.buildSlice T es.length (((es.map En.val).zipIdx).map fun p=>(p.2,p.1)).toArray).run P w=.ok (.slice (some ⟨w.heap.size,0,none⟩) es.length es.length) (w.alloc (.cells (es.flatMap En.f).toArray e)):=by simpa using h3
  simp only[execOp,h2,Sem.run_bind,h4,Result.andThen_ok,Sem.run_pure]
 ·have hrow:=IsSl.row (e:=e) (size:=En.size) (b:=b) (n:=es.length) (cap:=es.length) (pre:=[]) (xs:=es.flatMap En.f) (spare:=[]) (post:=[]) hlf (by simp) (Nat.le_refl _)
  simp only[List.nil_append,List.append_nil,List.length_nil]at hrow
  exact h _ _ ⟨hrow,ha⟩
theorem ow_appendZ {d:Nat}{x y:Operand}{k:IntKind}{e size bytes n m cap:Nat}{ao:Option Addr}{mi:Int}{c:Hp}{xs:List Value}{R:Hp→List Hp}{pos:String}{af:Array Edge}{g:Option (Nat×Bool)}{rest:List Oper}(hg:Env.guard E ops g=some true)(hd:Nat.blt d N=true)
  (hT:P.underlying T=some (.slice e)) (hU:P.underlying U=some (.int k)) (he:Elem P e size bytes)
  (hx:Env.ev E x=some (.slice ao n cap)) (hy:Env.ev E y=some (.int k mi)) (hmi:mi=(m:Int)) (hm0:0<m) (hsl:IsSl e size (.slice ao n cap) c n xs) (hs:Sel G c R) (hroom:cap<n+m) (h47:(n+m)*bytes≤140737488355328) (h63:n+m≤9223372036854775807)
  (h:∀ao' cap' c' ys,ys.length=m*size→n+m≤cap'→IsSl e size (.slice ao' (n+m) cap') c' (n+m) (xs++ys)→OW P ops Q B w0 N (c'::G) ((d,.slice ao' (n+m) cap')::E) rest):
  OW P ops Q B w0 N G E (⟨some d,.call {callee:=.builtin .append,args:=#[x,y],argTypes:=#[T,U]},ty,pos,af,g⟩::rest):=fun a w ha hw=>by
 subst hmi
 unfold wpList
 rw[if_pos (ha.guard (o:=⟨some d,.call {callee:=.builtin .append,args:=#[x,y],argTypes:=#[T,U]},ty,pos,af,g⟩) hg)]
 refine .inl ?_
 unfold Oper.wp
 obtain⟨i,hi,his,hib,z,hz,hzs⟩:=he.info
 subst his
 subst hib
 have hold:(Builtin.firstCells i.size n (.slice ao n cap)).run P w.drew=.ok xs.toArray w.drew:=by
  cases hsl with
  |nil=>exact run_firstCells_none _ _ _ _ _
  |row hx' hsp hn=>exact(Reads.block (P:=P) (B:=B) (w0:=w0) hs (List.Mem.head _) (GetN.part rfl) hx').run _ hw.drew
 have hxl:=hsl.length
 have hn:¬(n+m≤cap):=by omega
 have h63':¬(9223372036854775807<((n:Int)+(m:Int))):=by omega
 have hfit:Builtin.nextslicecap (n+m) cap*i.bytes≤281474976710656:=growslice_fits hroom h47
 have h48':¬(281474976710656<Builtin.nextslicecap (n+m) cap*i.bytes):=by omega
 have hw64:IntKind.wrap .i64 (m:Int)=(m:Int):=nw_i64 (by omega) (by omega)
 have hmb:m*i.bytes≤140737488355328:=Nat.le_trans (Nat.mul_le_mul_right _ (by omega)) h47
 have h48:¬(281474976710656<(m:Int)*(i.bytes:Int)):=by
  have:((m*i.bytes:Nat):Int)=(m:Int)*(i.bytes:Int):=by push_cast;rfl
  omega
 have hneg:¬((m:Int)<0):=by omega
 have hsz:∀v:World,(sizeOf e).run P v=.ok i.size v:=fun v=>run_sizeOf (by rw[hi];rfl) v
 have key:∃c',n+m≤c'∧∃zs:List Value,zs.length=m*i.size∧(execOp a.eval ⟨some d,.call {callee:=.builtin .append,args:=#[x,y],argTypes:=#[T,U]},ty,pos,af,g⟩).run P w=
   .ok (.value (.slice (some ⟨w.heap.size,0,none⟩) (n+m) c')) (w.drew.alloc (.cells ((xs++(zs++(Builtin.zeroCells z.cells (c'-(n+m))).toList)).toArray) e)):=by
  refine⟨n+m+w.tape w.drawn (.appendCap (n+m) cap e)%(9223372036854775808-(n+m)),by omega,?_⟩
  by_cases hz0:m*i.size=0
  ·refine⟨[],by simp[hz0],?_⟩
   simp[execOp,resolve,ha.ev hx,ha.ev hy,invoke,builtin,Builtin.append_,run_underlying hT,run_underlying hU,asInt,asIntOf,hw64,hneg,h48,hn,hsz,h63',h48',typeInfo,hi,Question.forced,Question.cut,askRoom,hold,hz0,zeroValue,hz,newRow]
   congr 2
   apply Array.ext'
   simp
  ·refine⟨(Builtin.zeroCells z.cells m).toList,by simp[zeroCells_size,hzs],?_⟩
   simp[execOp,resolve,ha.ev hx,ha.ev hy,invoke,builtin,Builtin.append_,run_underlying hT,run_underlying hU,asInt,asIntOf,hw64,hneg,h48,hn,hsz,h63',h48',typeInfo,hi,Question.forced,Question.cut,askRoom,hold,hz0,zeroValue,hz,newRow]
   congr 2
   apply Array.ext'
   simp
 obtain⟨c',hc',zs,hzl,hrun⟩:=key
 rw[hrun]
 have hrow:=IsSl.row (e:=e) (size:=i.size) (b:=w.heap.size) (n:=n+m) (cap:=c') (pre:=[]) (xs:=xs++zs) (spare:=(Builtin.zeroCells z.cells (c'-(n+m))).toList) (post:=[])
  (by simp[hxl,hzl,Nat.add_mul]) (by simp[zeroCells_size,hzs]) hc'
 have hst:=hw.drew.new (.cells ((xs++(zs++(Builtin.zeroCells z.cells (c'-(n+m))).toList)).toArray) e)
 refine h _ _ _ zs hzl hc' hrow _ _ (ha.put (by simpa using hd) _) ?_
 simpa using hst
theorem ow_append_room {d:Nat}{x y:Operand}{e size n m cap cap2:Nat}{ao ao2:Option Addr}{c:Hp}{xs ys:List Value}{R:Hp→List Hp}{pos:String}{af:Array Edge}{g:Option (Nat×Bool)}{rest:List Oper}(hg:Env.guard E ops g=some true)(hd:Nat.blt d N=true)
  (hT:P.underlying T=some (.slice e)) (hU:P.underlying U=some (.slice e)) (he:(P.info? e).map (·.size)=some size)
  (hx:Env.ev E x=some (.slice ao n cap)) (hy:Env.ev E y=some (.slice ao2 m cap2))
  (hsl:IsSl e size (.slice ao n cap) c n xs) (hs:Sel G c R) (hr:Reads P (St B w0 G) size (.slice ao2 m cap2) m ys) (h1:∀u∈ys,u.oneCell'=true) (hroom:n+m≤cap)
  (h:∀c',IsSl e size (.slice ao (n+m) cap) c' (n+m) (xs++ys)→OW P ops Q B w0 N (R c') ((d,.slice ao (n+m) cap)::E) rest):
  OW P ops Q B w0 N G E (⟨some d,.call {callee:=.builtin .append,args:=#[x,y],argTypes:=#[T,U]},ty,pos,af,g⟩::rest):=fun a w ha hw=>by
 unfold wpList
 rw[if_pos (ha.guard (o:=⟨some d,.call {callee:=.builtin .append,args:=#[x,y],argTypes:=#[T,U]},ty,pos,af,g⟩) hg)]
 refine .inl ?_
 unfold Oper.wp
 cases hsl with
 |nil=>
  obtain rfl:m=0:=by omega
  have hys:ys=[]:=by have:=hr.len;simp at this;exact this
  subst hys
  have h3:(execOp a.eval ⟨some d,.call {callee:=.builtin .append,args:=#[x,y],argTypes:=#[T,U]},ty,pos,af,g⟩).run P w=.ok (.value (.slice none 0 0)) w:=by
   have hrd:=hr.run w hw
   simp[execOp,resolve,ha.ev hx,ha.ev hy,invoke,builtin,Builtin.append_,run_underlying hT,run_underlying hU,Builtin.lenOf,run_sizeOf he w,hrd]
  rw[h3]
  refine h _ IsSl.nil _ _ (ha.put (by simpa using hd) _) ?_
  rw[hs.eq]
  exact hw
 |@row b n cap pre xs spare post hx' hsp hn=>
  have hb:=hw.read hs (List.Mem.head _)
  have h5:m*size≤(cap-n)*size:=Nat.mul_le_mul_right _ (by omega)
  have h6:ys.length≤spare.length:=by rw[hsp,hr.len];exact h5
  have hlen:pre.length+n*size+ys.length≤(pre++(xs++(spare++post))).toArray.size:=by
   simp only[List.size_toArray,List.length_append]
   omega
  rw[run_append_in (ty:=ty) (pos:=pos) (af:=af) (g:=g) (d:=some d) hT hU he (ha.ev hx) (ha.ev hy) (run_lenOf_slice w) (hr.run w hw) hroom hb hlen h1]
  have hrow:=IsSl.row (e:=e) (size:=size) (b:=b) (n:=n+m) (cap:=cap) (pre:=pre) (xs:=xs++ys) (spare:=spare.drop ys.length) (post:=post)
   (by simp[hx',hr.len,Nat.add_mul]) (by simp[hsp,hr.len,←Nat.sub_mul,Nat.sub_add_eq]) hroom
  refine h _ hrow _ _ (ha.put (by simpa using hd) _) ?_
  have hst:=hw.setRow (cs':=(splice (pre++(xs++(spare++post))) (pre.length+n*size) ys).toArray) hs
  have hsp2:splice (pre++(xs++(spare++post))) (pre.length+n*size) ys=pre++((xs++ys)++(spare.drop ys.length++post)):=by
   simp only[splice,←hx',List.append_assoc]
   have h7:pre.length+xs.length+ys.length=(pre++xs).length+ys.length:=by simp
   have h8:pre.length+xs.length=(pre++xs).length:=by simp
   rw[h7,h8,←List.append_assoc pre xs (spare++post),List.take_left,List.drop_append,List.drop_eq_nil_of_le (by omega),Nat.add_sub_cancel_left,List.drop_append_of_le_length h6]
   simp
  rw[hsp2]at hst
  show St B w0 _ (w.setRow b (splice (pre++(xs++(spare++post))) (pre.length+n*size) ys).toArray)
  rw[hsp2]
  exact hst
theorem ow_appendL_room {α:Type}{En:Enc α}{d:Nat}{x y:Operand}{e n m cap cap2:Nat}{ao ao2:Option Addr}{c:Hp}{l l2:List α}{R:Hp→List Hp}{pos:String}{af:Array Edge}{g:Option (Nat×Bool)}{rest:List Oper}(hg:Env.guard E ops g=some true)(hd:Nat.blt d N=true)
  (hT:P.underlying T=some (.slice e)) (hU:P.underlying U=some (.slice e)) (hen:EncTy P e En)
  (hx:Env.ev E x=some (.slice ao n cap)) (hy:Env.ev E y=some (.slice ao2 m cap2)) (hsl:Ls En e (.slice ao n cap) c l) (hs:Sel G c R) (hv:Vw En (St B w0 G) (.slice ao2 m cap2) l2) (hroom:l.length+l2.length≤cap)
  (h:∀c',Ls En e (.slice ao (l++l2).length cap) c' (l++l2)→OW P ops Q B w0 N (R c') ((d,.slice ao (l++l2).length cap)::E) rest):
  OW P ops Q B w0 N G E (⟨some d,.call {callee:=.builtin .append,args:=#[x,y],argTypes:=#[T,U]},ty,pos,af,g⟩::rest):=by
 have hn:=hsl.len
 have hm:=hv.len
 subst hn
 subst hm
 refine ow_append_room hg hd hT hU hen.size hx hy hsl.sl hs (hv.reads_all hen) (enc_one hen hv.ok) hroom fun c' h1=>?_
 have h2:Ls En e (.slice ao (l.length+l2.length) cap) c' (l++l2):=⟨by simpa using h1,fun a ha=>by
  rcases List.mem_append.1 ha with h|h
  ·exact hsl.ok a h
  ·exact hv.ok a h⟩
 have h3:=h c' (by simpa using h2)
 simpa using h3
theorem ow_clearL {α:Type}{En:Enc α}{x:Operand}{e bytes n cap m k:Nat}{ao:Option Addr}{c:Hp}{l:List α}{R:Hp→List Hp}{pos:String}{af:Array Edge}{g:Option (Nat×Bool)}{rest:List Oper}(hg:Env.guard E ops g=some true)
  (hT:P.underlying T=some (.slice e)) (he:Elem P e En.size bytes) (hzo:Zone P e)
  (hx:Env.ev E x=some (.slice (cutA ao cap n En.size) m k)) (hm:m+n≤cap) (hsl:Ls En e (.slice ao n cap) c l) (hs:Sel G c R)
  (h:∀c',Ls En e (.slice ao n cap) c' l→OW P ops Q B w0 N (R c') E rest):
  OW P ops Q B w0 N G E (⟨none,.call {callee:=.builtin .clear,args:=#[x],argTypes:=#[T]},ty,pos,af,g⟩::rest):=by
 have hn:=hsl.len
 subst hn
 exact ow_clear hg hT he hzo hx hm hsl.sl hs fun c' h1=>h c' ⟨h1,hsl.ok⟩
theorem cov_swap {c c2:Hp}{R:Hp→List Hp}{F:List Hp}(hs:Sel G c R)(hR:∀x,(R x).Perm (x::F))(h:Cov [c,c2] G){c':Hp}:Cov [c',c2] (c'::F):=fun p=>by
 have h1:=h p
 have h2:=cnt_perm (hR c).flatten p
 rw[hs.eq]at h2
 simp only[List.flatten_cons,List.flatten_nil,List.append_nil,cnt_append]at *
 omega
theorem cov_sub {c c':Hp}{F:List Hp}(h:Cov [c',c] F):Sub c F:=fun p hp=>by
 have h1:=h p
 have:0<cnt p c:=by
  obtain⟨a,b,rfl⟩:=List.append_of_mem hp
  rw[cnt_append,cnt_self]
  omega
 simp only[List.flatten_cons,List.flatten_nil,List.append_nil,cnt_append]at h1
 exact cnt_pos (by omega)
theorem IsSl.readsR {e size n cap m:Nat}{ao:Option Addr}{c:Hp}{xs:List Value}(h:IsSl e size (.slice ao n cap) c n xs)(hs:Sub c G)(hm:m≤n):Reads P (St B w0 G) size (.slice ao n cap) m (xs.take (m*size)):=by
 have hl:=h.length
 have hml:m*size≤n*size:=Nat.mul_le_mul_right _ hm
 by_cases h0:m=0
 ·subst h0
  simpa using Reads.none
 ·obtain⟨e1,cs,m1,r1⟩:=h.reads (by omega)
  rw[e1]
  refine Reads.slice (by rw[List.length_take];omega) fun i v hv=>?_
  rw[add_mk]
  refine Cell.sub hs m1 (r1 i v ?_)
  rw[List.getElem?_take]at hv
  split at hv
  ·exact hv
  ·simp at hv
theorem IsSl.readsA {e size n cap:Nat}{ao:Option Addr}{c:Hp}{xs:List Value}(h:IsSl e size (.slice ao n cap) c n xs)(hs:Sub c G):Reads P (St B w0 G) size (.slice ao n cap) n xs:=by
 have:=h.readsR (P:=P) (B:=B) (w0:=w0) hs (Nat.le_refl n)
 rwa [List.take_of_length_le (by rw[h.length];exact Nat.le_refl _)]at this
theorem ins_eq {β:Type}{A Bl ys V:List β}{a b m:Nat}(hA:A.length=a)(hB:Bl.length=b)(hy:ys.length=m):
  (((A++Bl)++ys).take (a+m)++(Bl++((A++Bl)++ys).drop (a+m+b))).take a++(V++(((A++Bl)++ys).take (a+m)++(Bl++((A++Bl)++ys).drop (a+m+b))).drop (a+m))=A++(V++Bl):=by
 subst hA
 subst hB
 subst hy
 have h1:((A++Bl)++ys).drop (A.length+ys.length+Bl.length)=[]:=List.drop_eq_nil_of_le (by simp only[List.length_append];omega)
 have h2:(((A++Bl)++ys).take (A.length+ys.length)).length=A.length+ys.length:=by simp only[List.length_append,List.length_take];omega
 rw[h1,List.append_nil,List.drop_append,List.drop_eq_nil_of_le (by omega),h2,Nat.sub_self,List.drop_zero,List.nil_append,List.take_append_of_le_length (by omega),List.take_take,Nat.min_eq_left (by omega),List.append_assoc,List.take_left]
theorem ins_eq2 {β:Type}{A Bl ys V:List β}{a b m:Nat}(hA:A.length=a)(hB:Bl.length=b)(hy:ys.length=m+b)(hV:V.length=m):
  ((A++ys).take a++(V++(A++ys).drop (a+m))).take (a+m)++(Bl++((A++ys).take a++(V++(A++ys).drop (a+m))).drop (a+m+b))=A++(V++Bl):=by
 subst hA
 subst hB
 subst hV
 have h1:(A++ys).take A.length=A:=List.take_left
 have h2:(A++(V++(A++ys).drop (A.length+V.length))).take (A.length+V.length)=A++V:=by
  rw[←List.append_assoc,List.take_append_of_le_length (by simp),List.take_of_length_le (by simp)]
 have h3:(A++(V++(A++ys).drop (A.length+V.length))).drop (A.length+V.length+Bl.length)=[]:=List.drop_eq_nil_of_le (by simp only[List.length_append,List.length_drop];omega)
 rw[h1,h2,h3]
 simp
theorem ow_overlaps {d:Nat}{x y:Operand}{f:FuncId}{fn:Func}{tS tR e size n1 n2 cap1 cap2:Nat}{ao1 ao2:Option Addr}{c1 c2:Hp}{xs1 xs2:List Value}{tys:Array TypeId}{pos:String}{af:Array Edge}{g:Option (Nat×Bool)}{rest:List Oper}(hg:Env.guard E ops g=some true)(hd:Nat.blt d N=true)
  (hf : P.funcs[f]? = some fn) (hname : (fn.name == "runtime.NumGoroutine") = false) (hb : fn.body.isNone = true) (hn : Extern.findNext fn = none) (he : Extern.find fn = some (Extern.SlicesOverlaps.overlaps #[tS, tS] #[tR]))
  (hT:P.underlying tS=some (.slice e)) (hsz:(P.info? e).map (·.size)=some size) (hpos:0<size) (hx:Env.ev E x=some (.slice ao1 n1 cap1)) (hy:Env.ev E y=some (.slice ao2 n2 cap2)) (h1:IsSl e size (.slice ao1 n1 cap1) c1 n1 xs1) (h2:IsSl e size (.slice ao2 n2 cap2) c2 n2 xs2)
  (hn1:0<n1) (hn2:0<n2) (hc:Cov [c1,c2] G) (h:OW P ops Q B w0 N G ((d,.bool false)::E) rest):
  OW P ops Q B w0 N G E (⟨some d,.call {callee:=.value (.func f),args:=#[x,y],argTypes:=tys},ty,pos,af,g⟩::rest):=fun a w ha hw=>by
 unfold wpList
 rw[if_pos (ha.guard (o:=⟨some d,.call {callee:=.value (.func f),args:=#[x,y],argTypes:=tys},ty,pos,af,g⟩) hg)]
 refine .inl ?_
 unfold Oper.wp
 have hS:=hw.cov hc
 obtain⟨e1,cs1,m1,r1⟩:=h1.reads hn1
 obtain⟨e2,cs2,m2,r2⟩:=h2.reads hn2
 have b1:=(hS.has (bOf ao1,.cells cs1 e (0,0)) (by simp[m1])).2
 have b2:=(hS.has (bOf ao2,.cells cs2 e (0,0)) (by simp[m2])).2
 have hne:bOf ao1≠bOf ao2:=by
  have hnd:=hS.nodup
  simp only[List.flatten_cons,List.flatten_nil,List.append_nil,List.map_append]at hnd
  have:=(List.nodup_append.1 hnd).2.2
  exact this _ (List.mem_map.2 ⟨_,m1,rfl⟩) _ (List.mem_map.2 ⟨_,m2,rfl⟩)
 have hk2:cs2.size≠0:=by
  have hl:0<xs2.length:=by rw[h2.length];exact Nat.mul_pos hn2 hpos
  have:=r2 0 xs2[0] (by simp)
  have:=(Array.getElem?_eq_some_iff.1 this).1
  omega
 have hrun:=Go.Lib.run_overlaps_apart (P:=P) w tS tR e hT size (fun v=>run_sizeOf hsz v) ⟨bOf ao1,oOf ao1,none⟩ ⟨bOf ao2,oOf ao2,none⟩ n1 cap1 n2 cap2 hne e e cs1.size cs2.size
  (by simp[World.shape?,b1]) (by simp[World.shape?,b2]) hk2 (by simp[World.frozen?,b1]) (by simp[World.frozen?,b1])
 rw[←e1,←e2]at hrun
 have hr2:=run_callFunc_extern hf hname hb hn he #[.slice ao1 n1 cap1,.slice ao2 n2 cap2] w
 rw[hrun]at hr2
 have hr3:(execOp a.eval ⟨some d,.call {callee:=.value (.func f),args:=#[x,y],argTypes:=tys},ty,pos,af,g⟩).run P w=.ok (.value (.bool false)) w:=by
  simp only[execOp,resolve,Sem.run_bind,ha.ev (x:=.func f) rfl,Deferred.ofValue,Sem.run_pure,Result.andThen_ok,invoke]
  have h3:(Array.map a.eval #[x,y])=#[.slice ao1 n1 cap1,.slice ao2 n2 cap2]:=by simp[ha.ev hx,ha.ev hy]
  rw[h3]
  simpa using hr2
 rw[hr3]
 exact h _ _ (ha.put (by simpa using hd) _) hw
end Go.Sl
namespace Go.Sl
open Go.RowKit Go
section
variable {md:Region.Mode}{T:TypeId}{P:Program}{ops:Array Oper}{Q:Exit→Act→World→Prop}{B:Nat}{w0:World}{N:Nat}{G:List Hp}{E:Env}{d i:Nat}{ty:TypeId}{pos:String}{af:Array Edge}{g:Option (Nat×Bool)}{rest:List Oper}{x y:Operand}{v:Value}{p:Addr}{l:List Oper}{k c:Code}
theorem qm (h:OW P ops Q B w0 N G ((d,v)::E) rest)(hg:Env.guard E ops g=some true:=by rfl)(hd:Nat.blt d N=true:=by rfl)(hx:Env.ev E x=some v:=by rfl):OW P ops Q B w0 N G E (⟨some d,.move x,ty,pos,af,g⟩::rest):=ow_val hg hd (v_move hx) h
theorem qa (h:OW P ops Q B w0 N G ((d,v)::E) rest)(hg:Env.guard E ops g=some true:=by rfl)(hd:Nat.blt d N=true:=by rfl)(hx:Env.ev E x=some v:=by rfl):OW P ops Q B w0 N G E (⟨some d,.assign x,ty,pos,af,g⟩::rest):=ow_val hg hd (v_assign hx) h
theorem qn (h:OW P ops Q B w0 N G ((d,.pointer (some p))::E) rest)(hg:Env.guard E ops g=some true:=by rfl)(hd:Nat.blt d N=true:=by rfl)(hx:Env.ev E x=some (.pointer (some p)):=by rfl):OW P ops Q B w0 N G E (⟨some d,.nilCheck x,ty,pos,af,g⟩::rest):=ow_val hg hd (v_nilCheck hx) h
theorem ql (hv:Var P (St B w0 G) T p v)(h:OW P ops Q B w0 N G ((d,v)::E) rest)(hg:Env.guard E ops g=some true:=by rfl)(hd:Nat.blt d N=true:=by rfl)(hx:Env.ev E x=some (.pointer (some p)):=by rfl):OW P ops Q B w0 N G E (⟨some d,.load T x,ty,pos,af,g⟩::rest):=ow_val hg hd (v_load hx hv) h
theorem qf {f off b:Nat}(hf:Fld P T f off)(h:OW P ops Q B w0 N G ((d,.pointer (some ⟨b,off,none⟩))::E) rest)(hg:Env.guard E ops g=some true:=by rfl)(hd:Nat.blt d N=true:=by rfl)(hx:Env.ev E x=some (.pointer (some ⟨b,0,none⟩)):=by rfl):OW P ops Q B w0 N G E (⟨some d,.fieldAddr T x f,ty,pos,af,g⟩::rest):=ow_val hg hd (v_fieldAddr0 hf hx) h
theorem qv {op:Op}(hv:OpV P (St B w0 G) N E op ty v)(h:OW P ops Q B w0 N G ((d,v)::E) rest)(hg:Env.guard E ops g=some true:=by rfl)(hd:Nat.blt d N=true:=by rfl):OW P ops Q B w0 N G E (⟨some d,op,ty,pos,af,g⟩::rest):=ow_val hg hd hv h
theorem qk {op:Op}(h:OW P ops Q B w0 N G ((d,undef)::E) rest)(hg:Env.guard E ops g=some false:=by rfl)(hd:Nat.blt d N=true:=by rfl):OW P ops Q B w0 N G E (⟨some d,op,ty,pos,af,g⟩::rest):=ow_skip hg hd h
theorem kk {op:Op}(h:KW P ops Q B w0 N G ((d,undef)::E) rest)(hg:Env.guard E ops g=some false:=by rfl)(hd:Nat.blt d N=true:=by rfl):KW P ops Q B w0 N G E (⟨some d,op,ty,pos,af,g⟩::rest):=kw_skip hg hd h
theorem kv {op:Op}(hv:OpV P (St B w0 G) N E op ty v)(h:KW P ops Q B w0 N G ((d,v)::E) rest)(hg:Env.guard E ops g=some true:=by rfl)(hd:Nat.blt d N=true:=by rfl):KW P ops Q B w0 N G E (⟨some d,op,ty,pos,af,g⟩::rest):=kw_val hg hd hv h
theorem kmv (h:KW P ops Q B w0 N G ((d,v)::E) rest)(hg:Env.guard E ops g=some true:=by rfl)(hd:Nat.blt d N=true:=by rfl)(hx:Env.ev E x=some v:=by rfl):KW P ops Q B w0 N G E (⟨some d,.move x,ty,pos,af,g⟩::rest):=kw_val hg hd (v_move hx) h
theorem hmv {tail:List Oper×List Oper}(h:HW P ops Q B w0 N G ((d,v)::E) rest tail)(hg:Env.guard E ops g=some true:=by rfl)(hd:Nat.blt d N=true:=by rfl)(hx:Env.ev E x=some v:=by rfl):HW P ops Q B w0 N G E (⟨some d,.move x,ty,pos,af,g⟩::rest) tail:=hw_pure hg hd (v_move hx) rfl h
theorem qx {fuel:Nat}{listed:Array Bool}(h:AW P md ops Q B w0 N G E fuel listed):OW P ops (Nx (wpAny P md ops Q fuel listed) Q) B w0 N G E []:=ow_nil (xw_nx h)
theorem qs (h:OW P l.toArray (Exit.then (c.wp P Q) Q) B w0 N G E l):CW P Q B w0 N G E (.seq (.region i l.toArray false) c):=cw_seq (cw_region h)
theorem qt (h:CW P Q B w0 N G E c):OW P ops (Exit.then (c.wp P Q) Q) B w0 N G E []:=ow_nil (xw_then h)
end
theorem zcov {X Y:List Hp}(h:Cov X Y:=by first|exact Cov.refl _|(intro p;simp only[List.flatten_cons,List.flatten_nil,List.flatten_append,List.append_nil,List.nil_append,cnt_append,cnt_cons,cnt_nil,List.set_cons_zero,List.set_cons_succ,List.length_nil,List.length_cons,Nat.zero_add,List.append];omega)):Cov X Y:=h
theorem zcv1 {X Y:List Hp}{q:Nat×Obj→Prop}(hq:∀z,q z)(h:∀p,q p→cnt p X.flatten≤cnt p Y.flatten:=by intro p h1;(try simp only[cnt_append,cnt_nil]at h1);simp only[List.flatten_cons,List.flatten_nil,List.flatten_append,List.append_nil,List.nil_append,cnt_append,cnt_cons,cnt_nil,List.set_cons_zero,List.set_cons_succ,List.length_nil,List.length_cons,Nat.zero_add,List.append];omega):Cov X Y:=fun p=>h p (hq p)
theorem zcv2 {X Y:List Hp}{q r:Nat×Obj→Prop}(hq:∀z,q z)(hr:∀z,r z)(h:∀p,q p→r p→cnt p X.flatten≤cnt p Y.flatten:=by intro p h1 h2;(try simp only[cnt_append,cnt_nil]at h1);(try simp only[cnt_append,cnt_nil]at h2);simp only[List.flatten_cons,List.flatten_nil,List.flatten_append,List.append_nil,List.nil_append,cnt_append,cnt_cons,cnt_nil,List.set_cons_zero,List.set_cons_succ,List.length_nil,List.length_cons,Nat.zero_add,List.append];omega):Cov X Y:=fun p=>h p (hq p) (hr p)
theorem zenv {p:Prop}(h:p:=by repeat (first|exact True.intro|refine And.intro rfl ?_)):p:=h
theorem zsel {G:List Hp}{c:Hp}{R:Hp→List Hp}(h:Sel G c R:=by repeat (first|exact Sel.here|apply Sel.there)):Sel G c R:=h
theorem zhas {c:Hp}{G:List Hp}(h:Go.Sl.Sub c G:=by repeat (first|exact Sub.here|exact Sub.nil|assumption|refine Sub.there ?_)):Go.Sl.Sub c G:=h
theorem zthr {c:Hp}{G:List Hp}(h:Go.Sl.Sub c G:=by repeat (first|assumption|refine Sub.there ?_)):Go.Sl.Sub c G:=h
theorem zra {p:Prop}(h:p:=by first|rfl|assumption):p:=h
theorem zao {p:Prop}(h:p:=by first|assumption|exact allOne rfl|simp):p:=h
theorem zsa {p:Prop}(h:p:=by first|rfl|assumption|simp_all):p:=h
theorem zdn {p:Prop}(h:p:=by first|decide|exact Nat.le_of_ble_eq_true rfl):p:=h
theorem zlo {p:Prop}(h:p:=by first|omega|(simp only[List.length_append,List.length_take,List.length_drop,List.length_nil,List.length_cons];omega)):p:=h
theorem zom {p:Prop}(h:p:=by omega):p:=h
theorem zdo {p:Prop}(h:p:=by dsimp only;omega):p:=h
theorem zdk {p:Prop}(h:p:=by decide+kernel):p:=h
theorem zas {p:Prop}(h:p:=by assumption):p:=h
theorem zta {p:Prop}(h:p:=by first|trivial|assumption):p:=h
end Go.Sl
namespace Go.Proofs.YtnlaffkihohfkaaGreat
open Go Go.Sl Go.Proofs
variable {B:Nat}{w0:World}{G:List Hp}{R:Hp→List Hp}
set_option maxRecDepth 100000
theorem Ty.mixed:Tryz.prog.follows .mixedOrders=true:=by kernel_rfl
theorem Ty.sc3:Scalar Tryz.prog 3:=Scalar.of Tryz.underlying3 rfl (by kernel_rfl)
theorem Ty.ze3:Zero Tryz.prog 3 [.int .i64 0]:=Zero.of (z:=.int .i64 0) (by kernel_rfl) rfl
theorem Ty.sc4:Scalar Tryz.prog 4:=Scalar.of Tryz.underlying4 rfl (by kernel_rfl)
theorem Ty.sc5:Scalar Tryz.prog 5:=Scalar.of Tryz.underlying5 rfl (by kernel_rfl)
theorem Ty.sc27:Scalar Tryz.prog 27:=Scalar.of Tryz.underlying27 rfl (by kernel_rfl)
theorem Ty.ze27:Zero Tryz.prog 27 [.int .u64 0]:=Zero.of (z:=.int .u64 0) (by kernel_rfl) rfl
theorem Ty.sc28:Scalar Tryz.prog 28:=Scalar.of Tryz.underlying28 rfl (by kernel_rfl)
theorem Ty.el28:(Tryz.prog.info? 5).map (·.size)=some 1:=by kernel_rfl
theorem Ty.em28:Elem Tryz.prog 5 1 1:=Elem.of (by kernel_rfl)
theorem Ty.ag30:Agg Tryz.prog 30 7:=Agg.of Tryz.underlying30 rfl (by kernel_rfl)
theorem Ty.fd30_0:Fld Tryz.prog 30 0 0:=Fld.of (n:=0) Tryz.underlying30 rfl rfl (by kernel_rfl) -- Kind
theorem Ty.fd30_1:Fld Tryz.prog 30 1 1:=Fld.of (n:=0) Tryz.underlying30 rfl rfl (by kernel_rfl) -- Id
theorem Ty.fd30_2:Fld Tryz.prog 30 2 2:=Fld.of (n:=0) Tryz.underlying30 rfl rfl (by kernel_rfl) -- Data
theorem Ty.fd30_3:Fld Tryz.prog 30 3 3:=Fld.of (n:=0) Tryz.underlying30 rfl rfl (by kernel_rfl) -- Many
theorem Ty.fd30_4:Fld Tryz.prog 30 4 4:=Fld.of (n:=0) Tryz.underlying30 rfl rfl (by kernel_rfl) -- Side
theorem Ty.fd30_5:Fld Tryz.prog 30 5 5:=Fld.of (n:=0) Tryz.underlying30 rfl rfl (by kernel_rfl) -- Uni
theorem Ty.fd30_6:Fld Tryz.prog 30 6 6:=Fld.of (n:=0) Tryz.underlying30 rfl rfl (by kernel_rfl) -- Lose
theorem Ty.ze30:Zero Tryz.prog 30 [.int .u8 0,.int .u8 0,.slice none 0 0,.int .u8 0,.bool false,.bool false,.int .u8 0]:=Zero.of (z:=.agg #[.int .u8 0,.int .u8 0,.slice none 0 0,.int .u8 0,.bool false,.bool false,.int .u8 0]) (by kernel_rfl) rfl
theorem Ty.em34:Elem Tryz.prog 27 1 8:=Elem.of (by kernel_rfl)
theorem Ty.sc35:Scalar Tryz.prog 35:=Scalar.of Tryz.underlying35 rfl (by kernel_rfl)
theorem Ty.el36:(Tryz.prog.info? 35).map (·.size)=some 1:=by kernel_rfl
theorem Ty.sc37:Scalar Tryz.prog 37:=Scalar.of Tryz.underlying37 rfl (by kernel_rfl)
theorem Ty.el38:(Tryz.prog.info? 37).map (·.size)=some 1:=by kernel_rfl
theorem Ty.sc39:Scalar Tryz.prog 39:=Scalar.of Tryz.underlying39 rfl (by kernel_rfl)
theorem Ty.el40:(Tryz.prog.info? 39).map (·.size)=some 1:=by kernel_rfl
theorem Ty.fd42_0:Fld Tryz.prog 42 0 0:=Fld.of (n:=1) Tryz.underlying42 rfl rfl (by kernel_rfl) -- s
theorem Ty.fd42_1:Fld Tryz.prog 42 1 2:=Fld.of (n:=1) Tryz.underlying42 rfl rfl (by kernel_rfl) -- wrote
theorem Ty.fd42_2:Fld Tryz.prog 42 2 4:=Fld.of (n:=1) Tryz.underlying42 rfl rfl (by kernel_rfl) -- read
theorem Ty.fd42_3:Fld Tryz.prog 42 3 6:=Fld.of (n:=1) Tryz.underlying42 rfl rfl (by kernel_rfl) -- ends
theorem Ty.fd42_4:Fld Tryz.prog 42 4 8:=Fld.of (n:=0) Tryz.underlying42 rfl rfl (by kernel_rfl) -- ok
theorem Ty.sc47:Scalar Tryz.prog 47:=Scalar.of Tryz.underlying47 rfl (by kernel_rfl)
theorem Ty.sc48:Scalar Tryz.prog 48:=Scalar.of Tryz.underlying48 rfl (by kernel_rfl)
theorem Ty.sc49:Scalar Tryz.prog 49:=Scalar.of Tryz.underlying49 rfl (by kernel_rfl)
theorem Ty.ag51:Agg Tryz.prog 51 5:=Agg.of Tryz.underlying51 rfl (by kernel_rfl)
theorem Ty.fd51_0:Fld Tryz.prog 51 0 0:=Fld.of (n:=0) Tryz.underlying51 rfl rfl (by kernel_rfl) -- Limit
theorem Ty.fd51_1:Fld Tryz.prog 51 1 1:=Fld.of (n:=0) Tryz.underlying51 rfl rfl (by kernel_rfl) -- Used
theorem Ty.fd51_2:Fld Tryz.prog 51 2 2:=Fld.of (n:=0) Tryz.underlying51 rfl rfl (by kernel_rfl) -- Taken
theorem Ty.fd51_3:Fld Tryz.prog 51 3 3:=Fld.of (n:=0) Tryz.underlying51 rfl rfl (by kernel_rfl) -- Ahead
theorem Ty.fd51_4:Fld Tryz.prog 51 4 4:=Fld.of (n:=0) Tryz.underlying51 rfl rfl (by kernel_rfl) -- told
theorem Ty.ze51:Zero Tryz.prog 51 [.int .u64 0,.int .u64 0,.int .u64 0,.int .u64 0,.int .u64 0]:=Zero.of (z:=.agg #[.int .u64 0,.int .u64 0,.int .u64 0,.int .u64 0,.int .u64 0]) (by kernel_rfl) rfl
theorem Ty.ag53:Agg Tryz.prog 53 3:=Agg.of Tryz.underlying53 rfl (by kernel_rfl)
theorem Ty.fd53_0:Fld Tryz.prog 53 0 0:=Fld.of (n:=0) Tryz.underlying53 rfl rfl (by kernel_rfl) -- Limit
theorem Ty.fd53_1:Fld Tryz.prog 53 1 1:=Fld.of (n:=0) Tryz.underlying53 rfl rfl (by kernel_rfl) -- Used
theorem Ty.ze53:Zero Tryz.prog 53 [.int .u64 0,.int .u64 0,.int .u64 0]:=Zero.of (z:=.agg #[.int .u64 0,.int .u64 0,.int .u64 0]) (by kernel_rfl) rfl
theorem Ty.fd55_0:Fld Tryz.prog 55 0 0:=Fld.of (n:=0) Tryz.underlying55 rfl rfl (by kernel_rfl) -- Id
theorem Ty.fd55_1:Fld Tryz.prog 55 1 1:=Fld.of (n:=0) Tryz.underlying55 rfl rfl (by kernel_rfl) -- Send
theorem Ty.fd55_2:Fld Tryz.prog 55 2 2:=Fld.of (n:=0) Tryz.underlying55 rfl rfl (by kernel_rfl) -- Recv
theorem Ty.fd55_3:Fld Tryz.prog 55 3 3:=Fld.of (n:=0) Tryz.underlying55 rfl rfl (by kernel_rfl) -- in
theorem Ty.fd55_4:Fld Tryz.prog 55 4 4:=Fld.of (n:=0) Tryz.underlying55 rfl rfl (by kernel_rfl) -- out
theorem Ty.fd55_5:Fld Tryz.prog 55 5 5:=Fld.of (n:=4) Tryz.underlying55 rfl rfl (by kernel_rfl) -- given
theorem Ty.fd55_6:Fld Tryz.prog 55 6 10:=Fld.of (n:=2) Tryz.underlying55 rfl rfl (by kernel_rfl) -- got
theorem Ty.fd55_7:Fld Tryz.prog 55 7 13:=Fld.of (n:=0) Tryz.underlying55 rfl rfl (by kernel_rfl) -- code
theorem Ty.fd55_8:Fld Tryz.prog 55 8 14:=Fld.of (n:=0) Tryz.underlying55 rfl rfl (by kernel_rfl) -- reset
theorem Ty.fd55_9:Fld Tryz.prog 55 9 15:=Fld.of (n:=0) Tryz.underlying55 rfl rfl (by kernel_rfl) -- resets
theorem Ty.fd55_10:Fld Tryz.prog 55 10 16:=Fld.of (n:=0) Tryz.underlying55 rfl rfl (by kernel_rfl) -- stop
theorem Ty.fd55_11:Fld Tryz.prog 55 11 17:=Fld.of (n:=0) Tryz.underlying55 rfl rfl (by kernel_rfl) -- stops
theorem Ty.fd55_12:Fld Tryz.prog 55 12 18:=Fld.of (n:=0) Tryz.underlying55 rfl rfl (by kernel_rfl) -- stopped
theorem Ty.fd55_13:Fld Tryz.prog 55 13 19:=Fld.of (n:=0) Tryz.underlying55 rfl rfl (by kernel_rfl) -- counted
theorem Ty.ag59:Agg Tryz.prog 59 3:=Agg.of Tryz.underlying59 rfl (by kernel_rfl)
theorem Ty.fd59_0:Fld Tryz.prog 59 0 0:=Fld.of (n:=0) Tryz.underlying59 rfl rfl (by kernel_rfl) -- Local
theorem Ty.fd59_1:Fld Tryz.prog 59 1 1:=Fld.of (n:=0) Tryz.underlying59 rfl rfl (by kernel_rfl) -- Remote
theorem Ty.fd59_2:Fld Tryz.prog 59 2 2:=Fld.of (n:=0) Tryz.underlying59 rfl rfl (by kernel_rfl) -- Uni
theorem Ty.ze59:Zero Tryz.prog 59 [.int .u64 0,.int .u64 0,.int .u64 0]:=Zero.of (z:=.agg #[.int .u64 0,.int .u64 0,.int .u64 0]) (by kernel_rfl) rfl
theorem Ty.sc68:Scalar Tryz.prog 68:=Scalar.of Tryz.underlying68 rfl (by kernel_rfl)
theorem Ty.sc69:Scalar Tryz.prog 69:=Scalar.of Tryz.underlying69 rfl (by kernel_rfl)
theorem Ty.em69:Elem Tryz.prog 103 3 24:=Elem.of (by kernel_rfl)
theorem Ty.ze69:Zero Tryz.prog 69 [.slice none 0 0]:=Zero.of (z:=.slice none 0 0) (by kernel_rfl) rfl
theorem Ty.el70:(Tryz.prog.info? 69).map (·.size)=some 1:=by kernel_rfl
theorem Ty.el71:(Tryz.prog.info? 27).map (·.size)=some 1:=by kernel_rfl
theorem Ty.fd73_0:Fld Tryz.prog 73 0 0:=Fld.of (n:=4) Tryz.underlying73 rfl rfl (by kernel_rfl) -- Given
theorem Ty.fd73_1:Fld Tryz.prog 73 1 5:=Fld.of (n:=2) Tryz.underlying73 rfl rfl (by kernel_rfl) -- Got
theorem Ty.fd73_2:Fld Tryz.prog 73 2 8:=Fld.of (n:=0) Tryz.underlying73 rfl rfl (by kernel_rfl) -- client
theorem Ty.fd73_3:Fld Tryz.prog 73 3 9:=Fld.of (n:=2) Tryz.underlying73 rfl rfl (by kernel_rfl) -- own
theorem Ty.fd73_4:Fld Tryz.prog 73 4 12:=Fld.of (n:=2) Tryz.underlying73 rfl rfl (by kernel_rfl) -- theirs
theorem Ty.fd73_5:Fld Tryz.prog 73 5 15:=Fld.of (n:=0) Tryz.underlying73 rfl rfl (by kernel_rfl) -- made
theorem Ty.fd73_6:Fld Tryz.prog 73 6 16:=Fld.of (n:=1) Tryz.underlying73 rfl rfl (by kernel_rfl) -- runs
theorem Ty.fd73_7:Fld Tryz.prog 73 7 18:=Fld.of (n:=1) Tryz.underlying73 rfl rfl (by kernel_rfl) -- opened
theorem Ty.fd73_8:Fld Tryz.prog 73 8 20:=Fld.of (n:=1) Tryz.underlying73 rfl rfl (by kernel_rfl) -- may
theorem Ty.fd73_9:Fld Tryz.prog 73 9 22:=Fld.of (n:=1) Tryz.underlying73 rfl rfl (by kernel_rfl) -- came
theorem Ty.fd73_10:Fld Tryz.prog 73 10 24:=Fld.of (n:=1) Tryz.underlying73 rfl rfl (by kernel_rfl) -- given
theorem Ty.fd73_11:Fld Tryz.prog 73 11 26:=Fld.of (n:=1) Tryz.underlying73 rfl rfl (by kernel_rfl) -- told
theorem Ty.sc76:Scalar Tryz.prog 76:=Scalar.of Tryz.underlying76 rfl (by kernel_rfl)
theorem Ty.sc77:Scalar Tryz.prog 77:=Scalar.of Tryz.underlying77 rfl (by kernel_rfl)
theorem Ty.el77:(Tryz.prog.info? 137).map (·.size)=some 2:=by kernel_rfl
theorem Ty.zo77:Zone Tryz.prog 137:=by unfold Zone;kernel_rfl
theorem Ty.em77:Elem Tryz.prog 137 2 16:=Elem.of (by kernel_rfl)
theorem Ty.ag82:Agg Tryz.prog 82 39:=Agg.of Tryz.underlying82 rfl (by kernel_rfl)
theorem Ty.fd82_0:Fld Tryz.prog 82 0 0:=Fld.of (n:=0) Tryz.underlying82 rfl rfl (by kernel_rfl) -- Kind
theorem Ty.fd82_1:Fld Tryz.prog 82 1 1:=Fld.of (n:=0) Tryz.underlying82 rfl rfl (by kernel_rfl) -- Stream
theorem Ty.fd82_2:Fld Tryz.prog 82 2 2:=Fld.of (n:=0) Tryz.underlying82 rfl rfl (by kernel_rfl) -- Offset
theorem Ty.fd82_3:Fld Tryz.prog 82 3 3:=Fld.of (n:=0) Tryz.underlying82 rfl rfl (by kernel_rfl) -- Limit
theorem Ty.fd82_4:Fld Tryz.prog 82 4 4:=Fld.of (n:=0) Tryz.underlying82 rfl rfl (by kernel_rfl) -- Code
theorem Ty.fd82_5:Fld Tryz.prog 82 5 5:=Fld.of (n:=0) Tryz.underlying82 rfl rfl (by kernel_rfl) -- Data
theorem Ty.fd82_6:Fld Tryz.prog 82 6 6:=Fld.of (n:=0) Tryz.underlying82 rfl rfl (by kernel_rfl) -- Fin
theorem Ty.ze82:Zero Tryz.prog 82 [.int .u8 0,.int .u64 0,.int .u64 0,.int .u64 0,.int .u64 0,.slice none 0 0,.bool false,.slice none 0 0,.int .u64 0,.int .u64 0,.int .u64 0,.int .u64 0,.int .u64 0,.int .u64 0,.slice none 0 0,.int .u8 0,.int .u8 0,.int .u8 0,.int .u8 0,.int .u8 0,.int .u8 0,.int .u8 0,.int .u8 0,.int .u8 0,.int .u8 0,.int .u8 0,.int .u8 0,.int .u8 0,.int .u8 0,.int .u8 0,.int .u8 0,.int .u8 0,.int .u8 0,.int .u8 0,.int .u8 0,.int .u8 0,.int .u8 0,.int .u8 0,.int .u8 0]:=Zero.of (z:=.agg #[.int .u8 0,.int .u64 0,.int .u64 0,.int .u64 0,.int .u64 0,.slice none 0 0,.bool false,.slice none 0 0,.int .u64 0,.int .u64 0,.int .u64 0,.int .u64 0,.int .u64 0,.int .u64 0,.slice none 0 0,.int .u8 0,.int .u8 0,.int .u8 0,.int .u8 0,.int .u8 0,.int .u8 0,.int .u8 0,.int .u8 0,.int .u8 0,.int .u8 0,.int .u8 0,.int .u8 0,.int .u8 0,.int .u8 0,.int .u8 0,.int .u8 0,.int .u8 0,.int .u8 0,.int .u8 0,.int .u8 0,.int .u8 0,.int .u8 0,.int .u8 0,.int .u8 0]) (by kernel_rfl) rfl
theorem Ty.ag103:Agg Tryz.prog 103 3:=Agg.of Tryz.underlying103 rfl (by kernel_rfl)
theorem Ty.fd103_1:Fld Tryz.prog 103 1 1:=Fld.of (n:=0) Tryz.underlying103 rfl rfl (by kernel_rfl) -- to
theorem Ty.fd103_2:Fld Tryz.prog 103 2 2:=Fld.of (n:=0) Tryz.underlying103 rfl rfl (by kernel_rfl) -- got
theorem Ty.el110:(Tryz.prog.info? 76).map (·.size)=some 1:=by kernel_rfl
theorem Ty.ag113:Agg Tryz.prog 113 3:=Agg.of Tryz.underlying113 rfl (by kernel_rfl)
theorem Ty.fd113_0:Fld Tryz.prog 113 0 0:=Fld.of (n:=0) Tryz.underlying113 rfl rfl (by kernel_rfl) -- At
theorem Ty.fd113_1:Fld Tryz.prog 113 1 1:=Fld.of (n:=0) Tryz.underlying113 rfl rfl (by kernel_rfl) -- Data
theorem Ty.fd113_2:Fld Tryz.prog 113 2 2:=Fld.of (n:=0) Tryz.underlying113 rfl rfl (by kernel_rfl) -- Fin
theorem Ty.ze113:Zero Tryz.prog 113 [.int .u64 0,.slice none 0 0,.bool false]:=Zero.of (z:=.agg #[.int .u64 0,.slice none 0 0,.bool false]) (by kernel_rfl) rfl
theorem Ty.sc129:Scalar Tryz.prog 129:=Scalar.of Tryz.underlying129 rfl (by kernel_rfl)
theorem Ty.fd131_0:Fld Tryz.prog 131 0 0:=Fld.of (n:=0) Tryz.underlying131 rfl rfl (by kernel_rfl) -- data
theorem Ty.fd131_1:Fld Tryz.prog 131 1 1:=Fld.of (n:=0) Tryz.underlying131 rfl rfl (by kernel_rfl) -- base
theorem Ty.fd131_2:Fld Tryz.prog 131 2 2:=Fld.of (n:=0) Tryz.underlying131 rfl rfl (by kernel_rfl) -- pending
theorem Ty.fd131_3:Fld Tryz.prog 131 3 3:=Fld.of (n:=0) Tryz.underlying131 rfl rfl (by kernel_rfl) -- came
theorem Ty.fd131_4:Fld Tryz.prog 131 4 4:=Fld.of (n:=0) Tryz.underlying131 rfl rfl (by kernel_rfl) -- finished
theorem Ty.fd131_5:Fld Tryz.prog 131 5 5:=Fld.of (n:=0) Tryz.underlying131 rfl rfl (by kernel_rfl) -- endWaits
theorem Ty.fd131_6:Fld Tryz.prog 131 6 6:=Fld.of (n:=0) Tryz.underlying131 rfl rfl (by kernel_rfl) -- endCame
theorem Ty.ag137:Agg Tryz.prog 137 2:=Agg.of Tryz.underlying137 rfl (by kernel_rfl)
theorem Ty.fd137_0:Fld Tryz.prog 137 0 0:=Fld.of (n:=0) Tryz.underlying137 rfl rfl (by kernel_rfl) -- From
theorem Ty.fd137_1:Fld Tryz.prog 137 1 1:=Fld.of (n:=0) Tryz.underlying137 rfl rfl (by kernel_rfl) -- To
theorem Ty.ze137:Zero Tryz.prog 137 [.int .u64 0,.int .u64 0]:=Zero.of (z:=.agg #[.int .u64 0,.int .u64 0]) (by kernel_rfl) rfl
theorem Ty.sc153:Scalar Tryz.prog 153:=Scalar.of Tryz.underlying153 rfl (by kernel_rfl)
theorem Ty.fd155_0:Fld Tryz.prog 155 0 0:=Fld.of (n:=0) Tryz.underlying155 rfl rfl (by kernel_rfl) -- read
theorem Ty.fd155_1:Fld Tryz.prog 155 1 1:=Fld.of (n:=0) Tryz.underlying155 rfl rfl (by kernel_rfl) -- high
theorem Ty.fd155_2:Fld Tryz.prog 155 2 2:=Fld.of (n:=0) Tryz.underlying155 rfl rfl (by kernel_rfl) -- final
theorem Ty.fd155_3:Fld Tryz.prog 155 3 3:=Fld.of (n:=0) Tryz.underlying155 rfl rfl (by kernel_rfl) -- known
theorem Ty.fd155_4:Fld Tryz.prog 155 4 4:=Fld.of (n:=0) Tryz.underlying155 rfl rfl (by kernel_rfl) -- places
theorem Ty.fd155_5:Fld Tryz.prog 155 5 5:=Fld.of (n:=0) Tryz.underlying155 rfl rfl (by kernel_rfl) -- bytes
theorem Ty.fd169_0:Fld Tryz.prog 169 0 0:=Fld.of (n:=0) Tryz.underlying169 rfl rfl (by kernel_rfl) -- limit
theorem Ty.fd169_1:Fld Tryz.prog 169 1 1:=Fld.of (n:=0) Tryz.underlying169 rfl rfl (by kernel_rfl) -- list
theorem Ty.sc178:Scalar Tryz.prog 178:=Scalar.of Tryz.underlying178 rfl (by kernel_rfl)
theorem Ty.ze178:Zero Tryz.prog 178 [.int .u64 0]:=Zero.of (z:=.int .u64 0) (by kernel_rfl) rfl
end Go.Proofs.YtnlaffkihohfkaaGreat
namespace Go.Proofs.YtnlaffkihohfkaaGreat
structure Rg where
 a:Int
 b:Int
deriving DecidableEq
def RgOk (r:Rg):Prop:=0≤r.a∧r.a<r.b∧r.b≤18446744073709551615
def Good (l:List Rg):Prop:=(∀r∈l,RgOk r)∧l.Pairwise fun x y=>x.b<y.a
def InR (l:List Rg)(n:Int):Prop:=∃r∈l,r.a≤n∧n<r.b
theorem InR.nil {n:Int}:¬InR [] n:=fun⟨r,h,_⟩=>by simp at h
theorem InR.cons {r:Rg}{l:List Rg}{n:Int}:InR (r::l) n↔(r.a≤n∧n<r.b)∨InR l n:=by
 constructor
 ·rintro⟨x,hx,h⟩
  rcases List.mem_cons.1 hx with rfl|hx
  ·exact .inl h
  ·exact .inr ⟨x,hx,h⟩
 ·rintro (h|⟨x,hx,h⟩)
  ·exact⟨r,List.mem_cons_self,h⟩
  ·exact⟨x,List.mem_cons_of_mem _ hx,h⟩
theorem InR.append {l l':List Rg}{n:Int}:InR (l++l') n↔InR l n∨InR l' n:=by
 induction l with
 |nil=>simp[InR.nil]
 |cons x l ih=>rw[List.cons_append,InR.cons,InR.cons,ih,or_assoc]
theorem Good.nil:Good []:=⟨by simp,by simp⟩
theorem Good.cons {r:Rg}{l:List Rg}:Good (r::l)↔RgOk r∧(∀x∈l,r.b<x.a)∧Good l:=by
 unfold Good
 simp only[List.mem_cons,forall_eq_or_imp,List.pairwise_cons]
 constructor
 ·rintro⟨⟨h1,h2⟩,h3,h4⟩;exact⟨h1,h3,h2,h4⟩
 ·rintro⟨h1,h3,h2,h4⟩;exact⟨⟨h1,h2⟩,h3,h4⟩
theorem Good.append {l l':List Rg}:Good (l++l')↔Good l∧Good l'∧∀x∈l,∀y∈l',x.b<y.a:=by
 unfold Good
 simp only[List.mem_append,List.pairwise_append]
 constructor
 ·rintro⟨h1,h2,h3,h4⟩;exact⟨⟨fun r hr=>h1 r (.inl hr),h2⟩,⟨fun r hr=>h1 r (.inr hr),h3⟩,h4⟩
 ·rintro⟨⟨h1,h2⟩,⟨h3,h4⟩,h5⟩;exact⟨fun r hr=>hr.elim (h1 r) (h3 r),h2,h4,h5⟩
theorem Good.ext {l:List Rg}:∀{l':List Rg},Good l→Good l'→(∀n,InR l n↔InR l' n)→l=l':=by
 induction l with
 |nil=>
  intro l' _ h' hn
  cases l' with
  |nil=>rfl
  |cons y l'=>
   have:=(Good.cons.1 h').1
   exact absurd ((hn y.a).2 (InR.cons.2 (.inl ⟨Int.le_refl _,this.2.1⟩))) InR.nil
 |cons x l ih=>
  intro l' h h' hn
  cases l' with
  |nil=>
   have:=(Good.cons.1 h).1
   exact absurd ((hn x.a).1 (InR.cons.2 (.inl ⟨Int.le_refl _,this.2.1⟩))) InR.nil
  |cons y l'=>
   obtain⟨hx,hxl,hl⟩:=Good.cons.1 h
   obtain⟨hy,hyl,hl'⟩:=Good.cons.1 h'
   have hx2:=hx.2.1
   have hy2:=hy.2.1
   have ha:x.a=y.a:=by
    have h1:y.a≤x.a:=by
     rcases InR.cons.1 ((hn x.a).1 (InR.cons.2 (.inl ⟨Int.le_refl _,hx2⟩)))with h1|⟨r,hr,h1⟩
     ·exact h1.1
     ·have:=hyl r hr;omega
    have h2:x.a≤y.a:=by
     rcases InR.cons.1 ((hn y.a).2 (InR.cons.2 (.inl ⟨Int.le_refl _,hy2⟩)))with h1|⟨r,hr,h1⟩
     ·exact h1.1
     ·have:=hxl r hr;omega
    omega
   have hb:x.b=y.b:=by
    rcases Int.lt_trichotomy x.b y.b with h1|h1|h1
    ·rcases InR.cons.1 ((hn x.b).2 (InR.cons.2 (.inl ⟨by omega,h1⟩)))with h2|⟨r,hr,h2⟩
     ·omega
     ·have:=hxl r hr;omega
    ·exact h1
    ·rcases InR.cons.1 ((hn y.b).1 (InR.cons.2 (.inl ⟨by omega,h1⟩)))with h2|⟨r,hr,h2⟩
     ·omega
     ·have:=hyl r hr;omega
   have hxy:x=y:=by cases x;cases y;simp_all
   subst hxy
   have:=ih hl hl' fun n=>by
    constructor
    ·intro hi
     obtain⟨r,hr,h1⟩:=hi
     have h2:=hxl r hr
     rcases InR.cons.1 ((hn n).1 (InR.cons.2 (.inr ⟨r,hr,h1⟩)))with h3|h3
     ·omega
     ·exact h3
    ·intro hi
     obtain⟨r,hr,h1⟩:=hi
     have h2:=hyl r hr
     rcases InR.cons.1 ((hn n).2 (InR.cons.2 (.inr ⟨r,hr,h1⟩)))with h3|h3
     ·omega
     ·exact h3
   rw[this]
def cutAt (p:Rg→Bool)(l:List Rg):Nat:=l.findIdx p
theorem cutAt_le {p:Rg→Bool}{l:List Rg}:cutAt p l≤l.length:=List.findIdx_le_length
theorem cutAt_pre {p:Rg→Bool}{l:List Rg}:∀x∈l.take (cutAt p l),p x=false:=by
 intro x hx
 obtain⟨i,hi,rfl⟩:=List.mem_iff_getElem.1 hx
 rw[List.getElem_take]
 have:i<cutAt p l:=by simp at hi;omega
 simpa using List.not_of_lt_findIdx this
theorem cutAt_post {p:Rg→Bool}{l:List Rg}(hm:l.Pairwise fun x y=>p x=true→p y=true):∀x∈l.drop (cutAt p l),p x=true:=by
 intro x hx
 obtain⟨i,hi,rfl⟩:=List.mem_iff_getElem.1 hx
 rw[List.getElem_drop]
 rw[List.length_drop]at hi
 have h0:cutAt p l<l.length:=by omega
 have h1:p l[cutAt p l]=true:=List.findIdx_getElem (w:=h0)
 by_cases hi0:i=0
 ·subst hi0;exact h1
 ·exact List.pairwise_iff_getElem.1 hm (cutAt p l) (cutAt p l+i) h0 (by omega) (by omega) h1
theorem Good.mono {l:List Rg}(h:Good l):l.Pairwise fun x y=>x.b<y.b:=by
 refine h.2.imp_of_mem fun hx hy hxy=>?_
 have:=(h.1 _ hy).2.1
 omega
theorem Good.ends {l:List Rg}(h:Good l)(n:Int):l.Pairwise fun x y=>(decide (n≤x.b))=true→(decide (n≤y.b))=true:=h.mono.imp fun hxy hx=>by simp at *;omega
theorem Good.behinds {l:List Rg}(h:Good l)(n:Int):l.Pairwise fun x y=>(decide (n<x.b))=true→(decide (n<y.b))=true:=h.mono.imp fun hxy hx=>by simp at *;omega
def mrg (r:Rg):List Rg→Rg×Nat
 |[]=>(r,0)
 |x::l=>if x.a≤r.b then ((mrg ⟨min r.a x.a,max r.b x.b⟩ l).1,(mrg ⟨min r.a x.a,max r.b x.b⟩ l).2+1) else (r,0)
def addL (l:List Rg)(r:Rg):List Rg:=
 l.take (cutAt (fun x=>decide (r.a≤x.b)) l)++([(mrg r (l.drop (cutAt (fun x=>decide (r.a≤x.b)) l))).1]++l.drop (cutAt (fun x=>decide (r.a≤x.b)) l+(mrg r (l.drop (cutAt (fun x=>decide (r.a≤x.b)) l))).2))
structure MrgS (r:Rg)(B:List Rg)(w:Rg)(k:Nat):Prop where
 le:k≤B.length
 lo:w.a≤r.a
 hi:r.b≤w.b
 ok:RgOk w
 mem:∀n,(w.a≤n∧n<w.b)↔(r.a≤n∧n<r.b)∨InR (B.take k) n
 post:∀x∈B.drop k,w.b<x.a
 pre:∀c,c<r.a→(∀x∈B,c<x.a)→c<w.a
theorem mrgS {B:List Rg}:∀{r:Rg},Good B→RgOk r→(∀x∈B,r.a≤x.b)→MrgS r B (mrg r B).1 (mrg r B).2:=by
 induction B with
 |nil=>intro r _ hr _;exact⟨by simp[mrg],Int.le_refl _,Int.le_refl _,hr,fun n=>by simp[mrg,InR.nil],by simp,fun c hc _=>hc⟩
 |cons x B ih=>
  intro r hB hr hx
  obtain⟨hxo,hxB,hBg⟩:=Good.cons.1 hB
  have hxr:=hx x (List.mem_cons_self)
  obtain⟨r1,r2,r3⟩:=hr
  obtain⟨x1,x2,x3⟩:=hxo
  by_cases hc:x.a≤r.b
  ·have hr':RgOk ⟨min r.a x.a,max r.b x.b⟩:=⟨by dsimp only;omega,by dsimp only;omega,by dsimp only;omega⟩
   have h:=ih hBg hr' fun y hy=>by
    have:=hxB y hy
    have:=(hBg.1 y hy).2.1
    dsimp only
    omega
   have e1:(mrg r (x::B)).1=(mrg ⟨min r.a x.a,max r.b x.b⟩ B).1:=by rw[mrg,if_pos hc]
   have e2:(mrg r (x::B)).2=(mrg ⟨min r.a x.a,max r.b x.b⟩ B).2+1:=by rw[mrg,if_pos hc]
   have hlo:=h.lo
   have hhi:=h.hi
   dsimp only at hlo hhi
   rw[e1,e2]
   refine⟨by have:=h.le;simp;omega,by omega,by omega,h.ok,fun n=>?_,fun y hy=>h.post y (by simpa using hy),fun c h1 h2=>h.pre c (by have:=h2 x (List.mem_cons_self);dsimp only;omega) fun y hy=>h2 y (List.mem_cons_of_mem _ hy)⟩
   rw[h.mem n,List.take_succ_cons,InR.cons]
   dsimp only
   constructor
   ·rintro (h1|h1)
    ·by_cases h2:r.a≤n∧n<r.b
     ·exact .inl h2
     ·exact .inr (.inl (by omega))
    ·exact .inr (.inr h1)
   ·rintro (h1|h1|h1)
    ·exact .inl (by omega)
    ·exact .inl (by omega)
    ·exact .inr h1
  ·have e1:mrg r (x::B)=(r,0):=by rw[mrg,if_neg hc]
   rw[e1]
   refine⟨by simp,Int.le_refl _,Int.le_refl _,⟨r1,r2,r3⟩,fun n=>by simp[InR.nil],fun y hy=>?_,fun c h1 _=>h1⟩
   rcases List.mem_cons.1 (by simpa using hy)with rfl|hy
   ·dsimp only;omega
   ·have:=hxB y hy;dsimp only;omega
theorem addS {l:List Rg}{r:Rg}(hl:Good l)(hr:RgOk r):MrgS r (l.drop (cutAt (fun x=>decide (r.a≤x.b)) l)) (mrg r (l.drop (cutAt (fun x=>decide (r.a≤x.b)) l))).1 (mrg r (l.drop (cutAt (fun x=>decide (r.a≤x.b)) l))).2:=by
 refine mrgS ?_ hr fun x hx=>by simpa using cutAt_post (hl.ends r.a) x hx
 have:=hl
 rw[←List.take_append_drop (cutAt (fun x=>decide (r.a≤x.b)) l) l]at this
 exact(Good.append.1 this).2.1
theorem add_spec {l:List Rg}{r:Rg}(hl:Good l)(hr:RgOk r):Good (addL l r)∧(∀n,InR (addL l r) n↔InR l n∨(r.a≤n∧n<r.b))∧(addL l r).length≤l.length+1:=by
 have h:=addS hl hr
 unfold addL
 have hp:∀x∈l.take (cutAt (fun x=>decide (r.a≤x.b)) l),x.b<r.a:=fun x hx=>by simpa using cutAt_pre x hx
 have hc:=@cutAt_le (fun x=>decide (r.a≤x.b)) l
 generalize cutAt (fun x=>decide (r.a≤x.b)) l=f at *
 generalize mrg r (l.drop f)=m at *
 obtain⟨w,k⟩:=m
 dsimp only at *
 have hl0:=hl
 rw[←List.take_append_drop f l]at hl0
 obtain⟨g1,g2,g3⟩:=Good.append.1 hl0
 have g4:=g2
 rw[←List.take_append_drop k (l.drop f)]at g4
 obtain⟨g5,g6,g7⟩:=Good.append.1 g4
 rw[List.drop_drop]at g6 g7
 have hpost:=h.post
 rw[List.drop_drop]at hpost
 have hle:=h.le
 rw[List.length_drop]at hle
 refine⟨Good.append.2 ⟨g1,Good.append.2 ⟨Good.cons.2 ⟨h.ok,by simp,Good.nil⟩,g6,fun x hx y hy=>?_⟩,fun x hx y hy=>?_⟩,fun n=>?_,?_⟩
 ·simp at hx;subst hx;exact hpost y hy
 ·rcases List.mem_append.1 hy with hy|hy
  ·simp at hy
   subst hy
   exact h.pre _ (hp x hx) fun z hz=>g3 x hx z hz
  ·refine g3 x hx y ?_
   rw[←List.drop_drop]at hy
   exact List.mem_of_mem_drop hy
 ·conv=>rhs;rw[←List.take_append_drop f l,←List.take_append_drop k (l.drop f),List.drop_drop]
  simp only[InR.append,InR.cons,h.mem n]
  have:=@InR.nil n
  constructor
  ·rintro (h1|((h1|h1)|h1)|h1)
   ·exact .inl (.inl h1)
   ·exact .inr h1
   ·exact .inl (.inr (.inl h1))
   ·exact absurd h1 this
   ·exact .inl (.inr (.inr h1))
  ·rintro ((h1|h1|h1)|h1)
   ·exact .inl h1
   ·exact .inr (.inl (.inl (.inr h1)))
   ·exact .inr (.inr h1)
   ·exact .inr (.inl (.inl (.inl h1)))
 ·simp only[List.length_append,List.length_take,List.length_drop,List.length_singleton]
  omega
def below (r x:Rg):List Rg:=if x.a<r.a then [⟨x.a,r.a⟩] else []
def above (r x:Rg):List Rg:=if r.b<x.b then [⟨r.b,x.b⟩] else []
def cutM (r:Rg):List Rg→List Rg×Nat
 |[]=>([],0)
 |x::l=>if x.a<r.b then (below r x++(above r x++(cutM r l).1),(cutM r l).2+1) else ([],0)
def cutL (l:List Rg)(r:Rg):List Rg:=
 l.take (cutAt (fun x=>decide (r.a<x.b)) l)++((cutM r (l.drop (cutAt (fun x=>decide (r.a<x.b)) l))).1++l.drop (cutAt (fun x=>decide (r.a<x.b)) l+(cutM r (l.drop (cutAt (fun x=>decide (r.a<x.b)) l))).2))
structure CutS (r:Rg)(B:List Rg)(L:List Rg)(k:Nat):Prop where
 le:k≤B.length
 good:Good L
 mem:∀n,InR L n↔InR (B.take k) n∧¬(r.a≤n∧n<r.b)
 post:∀x∈B.drop k,∀s∈L,s.b<x.a
 postr:∀x∈B.drop k,r.b≤x.a
 pre:∀c,c<r.b→(∀x∈B,c<x.a)→∀s∈L,c<s.a
 len:L.length≤k+1
theorem cutM_none {r:Rg}{B:List Rg}(h:∀x∈B,r.b≤x.a):cutM r B=([],0):=by
 cases B with
 |nil=>rfl
 |cons x B=>rw[cutM,if_neg (by have:=h x (List.mem_cons_self);omega)]
theorem CutS.none {r:Rg}{B:List Rg}(h:∀x∈B,r.b≤x.a):CutS r B [] 0:=
 ⟨by simp,Good.nil,fun n=>by simp[InR.nil],by simp,fun x hx=>h x (by simpa using hx),by simp,by simp⟩
theorem cutT {r:Rg}(hr:RgOk r):∀{B:List Rg},Good B→(∀x∈B,r.a≤x.a)→CutS r B (cutM r B).1 (cutM r B).2∧(cutM r B).1.length≤(cutM r B).2∧∀s∈(cutM r B).1,s.a=r.b:=by
 obtain⟨r1,r2,r3⟩:=hr
 intro B
 induction B with
 |nil=>intro _ _;exact⟨CutS.none (by simp),by simp[cutM],by simp[cutM]⟩
 |cons x B ih=>
  intro hB hx
  obtain⟨⟨x1,x2,x3⟩,hxB,hBg⟩:=Good.cons.1 hB
  have hxr:=hx x (List.mem_cons_self)
  by_cases hc:x.a<r.b
  ·have hbe:below r x=[]:=if_neg (by omega)
   by_cases hab:r.b<x.b
   ·have h0:cutM r B=([],0):=cutM_none fun y hy=>by have:=hxB y hy;omega
    have e:cutM r (x::B)=([⟨r.b,x.b⟩],1):=by rw[cutM,if_pos hc,h0,hbe,above,if_pos hab];rfl
    rw[e]
    refine⟨⟨by simp,Good.cons.2 ⟨⟨by dsimp only;omega,hab,x3⟩,by simp,Good.nil⟩,fun n=>?_,fun y hy s hs=>?_,fun y hy=>?_,fun c h1 _ s hs=>?_,by simp⟩,by simp,by simp⟩
    ·simp only[List.take_succ_cons,List.take_zero,InR.cons]
     have:=@InR.nil n
     constructor
     ·rintro (h|h)
      ·exact⟨.inl (by omega),by omega⟩
      ·exact absurd h this
     ·rintro⟨h|h,h2⟩
      ·exact .inl (by omega)
      ·exact absurd h this
    ·simp at hs hy;subst hs;exact hxB y hy
    ·simp at hy;have:=hxB y hy;omega
    ·simp at hs;subst hs;exact h1
   ·obtain⟨h,hlen,hsa⟩:=ih hBg fun y hy=>hx y (List.mem_cons_of_mem _ hy)
    have e1:(cutM r (x::B)).1=(cutM r B).1:=by rw[cutM,if_pos hc,hbe,above,if_neg hab];rfl
    have e2:(cutM r (x::B)).2=(cutM r B).2+1:=by rw[cutM,if_pos hc]
    rw[e1,e2]
    refine⟨⟨by have:=h.le;simp;omega,h.good,fun n=>?_,fun y hy=>h.post y (by simpa using hy),fun y hy=>h.postr y (by simpa using hy),fun c h1 _ s hs=>by rw[hsa s hs];exact h1,by omega⟩,by omega,hsa⟩
    rw[h.mem n,List.take_succ_cons,InR.cons]
    constructor
    ·rintro⟨h1,h2⟩;exact⟨.inr h1,h2⟩
    ·rintro⟨h1|h1,h2⟩
     ·omega
     ·exact⟨h1,h2⟩
  ·have h0:∀y∈x::B,r.b≤y.a:=fun y hy=>by
    rcases List.mem_cons.1 hy with rfl|hy
    ·omega
    ·have:=hxB y hy;omega
   rw[cutM_none h0]
   exact⟨CutS.none h0,by simp,by simp⟩
theorem cutS {r:Rg}(hr:RgOk r){B:List Rg}(hB:Good B)(hx:∀x∈B,r.a<x.b):CutS r B (cutM r B).1 (cutM r B).2:=by
 obtain⟨r1,r2,r3⟩:=hr
 cases B with
 |nil=>exact CutS.none (by simp)
 |cons x B=>
  obtain⟨⟨x1,x2,x3⟩,hxB,hBg⟩:=Good.cons.1 hB
  have hxr:=hx x (List.mem_cons_self)
  by_cases hxa:r.a≤x.a
  ·exact(cutT ⟨r1,r2,r3⟩ hB fun y hy=>by
    rcases List.mem_cons.1 hy with rfl|hy
    ·exact hxa
    ·have:=hxB y hy;omega).1
  ·have hbe:below r x=[⟨x.a,r.a⟩]:=if_pos (by omega)
   have hc:x.a<r.b:=by omega
   by_cases hab:r.b<x.b
   ·have h0:cutM r B=([],0):=cutM_none fun y hy=>by have:=hxB y hy;omega
    have e:cutM r (x::B)=([⟨x.a,r.a⟩,⟨r.b,x.b⟩],1):=by rw[cutM,if_pos hc,h0,hbe,above,if_pos hab];rfl
    rw[e]
    refine⟨by simp,Good.cons.2 ⟨⟨by dsimp only;omega,by dsimp only;omega,by dsimp only;omega⟩,by simp;omega,Good.cons.2 ⟨⟨by dsimp only;omega,hab,x3⟩,by simp,Good.nil⟩⟩,fun n=>?_,fun y hy s hs=>?_,fun y hy=>?_,fun c h1 h2 s hs=>?_,by simp⟩
    ·simp only[List.take_succ_cons,List.take_zero,InR.cons]
     have:=@InR.nil n
     constructor
     ·rintro (h|h|h)
      ·exact⟨.inl (by omega),by omega⟩
      ·exact⟨.inl (by omega),by omega⟩
      ·exact absurd h this
     ·rintro⟨h|h,h2⟩
      ·skip
       by_cases h3:n<r.a
       ·exact .inl (by omega)
       ·exact .inr (.inl (by omega))
      ·exact absurd h this
    ·simp at hs hy
     have:=hxB y hy
     rcases hs with rfl|rfl
     ·dsimp only;omega
     ·exact this
    ·simp at hy;have:=hxB y hy;omega
    ·have:=h2 x (List.mem_cons_self)
     simp at hs
     rcases hs with rfl|rfl
     ·exact this
     ·exact h1
   ·obtain⟨h,hlen,hsa⟩:=cutT ⟨r1,r2,r3⟩ hBg fun y hy=>by have:=hxB y hy;omega
    have e1:(cutM r (x::B)).1=⟨x.a,r.a⟩::(cutM r B).1:=by rw[cutM,if_pos hc,hbe,above,if_neg hab];rfl
    have e2:(cutM r (x::B)).2=(cutM r B).2+1:=by rw[cutM,if_pos hc]
    rw[e1,e2]
    refine⟨by have:=h.le;simp;omega,Good.cons.2 ⟨⟨by dsimp only;omega,by dsimp only;omega,by dsimp only;omega⟩,fun s hs=>by rw[hsa s hs];exact r2,h.good⟩,fun n=>?_,fun y hy s hs=>?_,fun y hy=>h.postr y (by simpa using hy),fun c h1 h2 s hs=>?_,by simp;omega⟩
    ·rw[List.take_succ_cons,InR.cons,InR.cons,h.mem n]
     dsimp only
     constructor
     ·rintro (h1|⟨h1,h2⟩)
      ·exact⟨.inl (by omega),by omega⟩
      ·exact⟨.inr h1,h2⟩
     ·rintro⟨h1|h1,h2⟩
      ·exact .inl (by omega)
      ·exact .inr ⟨h1,h2⟩
    ·have hy2:y∈B.drop (cutM r B).2:=by simpa using hy
     rcases List.mem_cons.1 hs with rfl|hs
     ·have:=h.postr y hy2;dsimp only;omega
     ·exact h.post y hy2 s hs
    ·have:=h2 x (List.mem_cons_self)
     rcases List.mem_cons.1 hs with rfl|hs
     ·exact this
     ·rw[hsa s hs];exact h1
theorem cut_spec {l:List Rg}{r:Rg}(hl:Good l)(hr:RgOk r):Good (cutL l r)∧(∀n,InR (cutL l r) n↔InR l n∧¬(r.a≤n∧n<r.b))∧(cutL l r).length≤l.length+1:=by
 have hB:Good (l.drop (cutAt (fun x=>decide (r.a<x.b)) l)):=by
  have:=hl
  rw[←List.take_append_drop (cutAt (fun x=>decide (r.a<x.b)) l) l]at this
  exact(Good.append.1 this).2.1
 have h:=cutS hr hB fun x hx=>by simpa using cutAt_post (hl.behinds r.a) x hx
 unfold cutL
 have hp:∀x∈l.take (cutAt (fun x=>decide (r.a<x.b)) l),x.b≤r.a:=fun x hx=>by simpa using cutAt_pre x hx
 have hc:=@cutAt_le (fun x=>decide (r.a<x.b)) l
 generalize cutAt (fun x=>decide (r.a<x.b)) l=f at *
 generalize cutM r (l.drop f)=m at *
 obtain⟨L,k⟩:=m
 dsimp only at *
 have hl0:=hl
 rw[←List.take_append_drop f l]at hl0
 obtain⟨g1,g2,g3⟩:=Good.append.1 hl0
 have g4:=g2
 rw[←List.take_append_drop k (l.drop f)]at g4
 obtain⟨g5,g6,g7⟩:=Good.append.1 g4
 rw[List.drop_drop]at g6 g7
 have hpost:=h.post
 have hpostr:=h.postr
 rw[List.drop_drop]at hpost hpostr
 have hle:=h.le
 rw[List.length_drop]at hle
 obtain⟨r1,r2,r3⟩:=hr
 refine⟨Good.append.2 ⟨g1,Good.append.2 ⟨h.good,g6,fun x hx y hy=>hpost y hy x hx⟩,fun x hx y hy=>?_⟩,fun n=>?_,?_⟩
 ·rcases List.mem_append.1 hy with hy|hy
  ·exact h.pre _ (by have:=hp x hx;omega) (fun z hz=>g3 x hx z hz) y hy
  ·refine g3 x hx y ?_
   rw[←List.drop_drop]at hy
   exact List.mem_of_mem_drop hy
 ·conv=>rhs;rw[←List.take_append_drop f l,←List.take_append_drop k (l.drop f),List.drop_drop]
  simp only[InR.append,h.mem n]
  constructor
  ·rintro (⟨x,hx,h1⟩|h1|⟨x,hx,h1⟩)
   ·have:=hp x hx
    exact⟨.inl ⟨x,hx,h1⟩,by omega⟩
   ·exact⟨.inr (.inl h1.1),h1.2⟩
   ·have:=hpostr x hx
    exact⟨.inr (.inr ⟨x,hx,h1⟩),by omega⟩
  ·rintro⟨h1|h1|h1,h2⟩
   ·exact .inl h1
   ·exact .inr (.inl ⟨h1,h2⟩)
   ·exact .inr (.inr h1)
 ·have:=h.len
  simp only[List.length_append,List.length_take,List.length_drop]
  omega
def cntR (l:List Rg):Int:=(l.map fun r=>r.b-r.a).foldl (· +·) 0
theorem cntR_cons {r:Rg}{l:List Rg}:cntR (r::l)=(r.b-r.a)+cntR l:=by
 have key:∀(l:List Int) (x:Int),l.foldl (· +·) x=x+l.foldl (· +·) 0:=by
  intro l
  induction l with
  |nil=>simp
  |cons y l ih=>intro x;simp only[List.foldl_cons];rw[ih (x+y),ih (0+y)];omega
 unfold cntR
 rw[List.map_cons,List.foldl_cons,key]
 omega
theorem cntR_append {l l':List Rg}:cntR (l++l')=cntR l+cntR l':=by
 induction l with
 |nil=>simp[cntR]
 |cons x l ih=>rw[List.cons_append,cntR_cons,cntR_cons,ih];omega
theorem cntR_le {l:List Rg}:∀{u v:Int},Good l→u≤v→(∀x∈l,u≤x.a∧x.b≤v)→0≤cntR l∧cntR l≤v-u:=by
 induction l with
 |nil=>intro u v _ h _;simp[cntR];omega
 |cons x l ih=>
  intro u v hg huv hx
  obtain⟨hxo,hxl,hl⟩:=Good.cons.1 hg
  have h1:=hx x (List.mem_cons_self)
  have:=ih (u:=x.b) (v:=v) hl (by omega) fun y hy=>⟨by have:=hxl y hy;omega,(hx y (List.mem_cons_of_mem _ hy)).2⟩
  have:=hxo.2.1
  rw[cntR_cons]
  omega
theorem Good.noRange {l:List Rg}{r:Rg}(h:¬r.a<r.b)(n:Int):¬(r.a≤n∧n<r.b):=by omega
theorem cntR_max {l:List Rg}(hl:Good l):0≤cntR l∧cntR l≤18446744073709551615:=by
 have:=cntR_le (u:=0) (v:=18446744073709551615) hl (by decide) fun x hx=>⟨(hl.1 x hx).1,(hl.1 x hx).2.2⟩
 omega
structure SetM where
 limit:Int
 l:List Rg
def RgIn (r:Rg):Prop:=(0≤r.a∧r.a≤18446744073709551615)∧(0≤r.b∧r.b≤18446744073709551615)
theorem RgIn.ok {r:Rg}(h:RgIn r)(h1:r.a<r.b):RgOk r:=⟨h.1.1,h1,h.2.2⟩
theorem RgOk.inn {r:Rg}(h:RgOk r):RgIn r:=by obtain⟨h1,h2,h3⟩:=h;exact⟨by omega,by omega⟩
def addE (l:List Rg)(r:Rg):List Rg:=if r.a<r.b then addL l r else l
def cutE (l:List Rg)(r:Rg):List Rg:=if r.a<r.b then cutL l r else l
theorem addE_spec {l:List Rg}{r:Rg}(hl:Good l)(hr:RgIn r):Good (addE l r)∧(∀n,InR (addE l r) n↔InR l n∨(r.a≤n∧n<r.b))∧(addE l r).length≤l.length+1:=by
 unfold addE
 split
 ·rename_i h;exact add_spec hl (hr.ok h)
 ·rename_i h
  refine⟨hl,fun n=>⟨.inl,fun h1=>h1.elim id fun h2=>absurd h2 (by omega)⟩,by omega⟩
theorem cutE_spec {l:List Rg}{r:Rg}(hl:Good l)(hr:RgIn r):Good (cutE l r)∧(∀n,InR (cutE l r) n↔InR l n∧¬(r.a≤n∧n<r.b))∧(cutE l r).length≤l.length+1:=by
 unfold cutE
 split
 ·rename_i h;exact cut_spec hl (hr.ok h)
 ·rename_i h
  refine⟨hl,fun n=>⟨fun h1=>⟨h1,by omega⟩,And.left⟩,by omega⟩
def SetM.add (m:SetM)(r:Rg):SetM×Int:=if ¬r.a<r.b then (m,0) else if max m.limit 1<((addL m.l r).length:Int) then (m,7) else (⟨m.limit,addL m.l r⟩,0)
def SetM.cut (m:SetM)(r:Rg):SetM×Int:=if ¬r.a<r.b then (m,0) else if max m.limit 1<((cutL m.l r).length:Int) then (m,7) else (⟨m.limit,cutL m.l r⟩,0)
theorem SetM.addOk {m:SetM}{r:Rg}(h:((addE m.l r).length:Int)≤max m.limit 1):m.add r=(⟨m.limit,addE m.l r⟩,0):=by
 unfold SetM.add addE at *
 by_cases h1:r.a<r.b
 ·rw[if_pos h1]at h⊢
  rw[if_neg (by omega),if_neg (by omega)]
 ·rw[if_pos h1,if_neg h1]
theorem SetM.cutOk {m:SetM}{r:Rg}(h:((cutE m.l r).length:Int)≤max m.limit 1):m.cut r=(⟨m.limit,cutE m.l r⟩,0):=by
 unfold SetM.cut cutE at *
 by_cases h1:r.a<r.b
 ·rw[if_pos h1]at h⊢
  rw[if_neg (by omega),if_neg (by omega)]
 ·rw[if_pos h1,if_neg h1]
theorem Good.drop {l:List Rg}(h:Good l)(n:Nat):Good (l.drop n):=by
 rw[←List.take_append_drop n l]at h
 exact(Good.append.1 h).2.1
end Go.Proofs.YtnlaffkihohfkaaGreat
namespace Go.Sl
open Go.RowKit Go
variable {P:Program}{ops:Array Oper}{md:Region.Mode}{B:Nat}{w0:World}{Q:Exit→Act→World→Prop}{N:Nat}{G:List Hp}{E:Env}
theorem aw_stepN (is:List Nat){fuel:Nat}{listed:Array Bool}(hr:decide (Region.ready md ops listed=is)=true)(hne:is≠[])(h:∀j∈is,∃o,ops[j]?=some o∧OW P ops (Nx (wpAny P md ops Q fuel (listed.setIfInBounds j true)) Q) B w0 N G E [o]):AW P md ops Q B w0 N G E (fuel+1) listed:=fun a w ha hw=>by
 have hr':Region.ready md ops listed=is:=by simpa using hr
 refine⟨fun h0=>absurd (hr'.symm.trans h0) hne,fun j hj=>?_⟩
 rw[hr']at hj
 obtain⟨o,ho,h1⟩:=h j hj
 exact wpOp_of_list ho (h1 a w ha hw)
theorem aw_step3 (i k m:Nat){d0:Option Tmp}{op0:Op}{t0:TypeId}{pos0:String}{af0:Array Edge}{g0:Option (Nat×Bool)}{d1:Option Tmp}{op1:Op}{t1:TypeId}{pos1:String}{af1:Array Edge}{g1:Option (Nat×Bool)}{d2:Option Tmp}{op2:Op}{t2:TypeId}{pos2:String}{af2:Array Edge}{g2:Option (Nat×Bool)}{fuel:Nat}{listed:Array Bool}(hr:decide (Region.ready md ops listed=[i,k,m])=true)(hi0:ops[i]?=some ⟨d0,op0,t0,pos0,af0,g0⟩)(hi1:ops[k]?=some ⟨d1,op1,t1,pos1,af1,g1⟩)(hi2:ops[m]?=some ⟨d2,op2,t2,pos2,af2,g2⟩)(h0:OW P ops (Nx (wpAny P md ops Q fuel (listed.setIfInBounds i true)) Q) B w0 N G E [⟨d0,op0,t0,pos0,af0,g0⟩])(h1:OW P ops (Nx (wpAny P md ops Q fuel (listed.setIfInBounds k true)) Q) B w0 N G E [⟨d1,op1,t1,pos1,af1,g1⟩])(h2:OW P ops (Nx (wpAny P md ops Q fuel (listed.setIfInBounds m true)) Q) B w0 N G E [⟨d2,op2,t2,pos2,af2,g2⟩]):AW P md ops Q B w0 N G E (fuel+1) listed:=
 aw_stepN [i,k,m] hr (by simp) fun j hj=>by
  simp only[List.mem_cons,List.not_mem_nil,or_false]at hj
  rcases hj with rfl|rfl|rfl
  ·exact⟨_,hi0,h0⟩
  ·exact⟨_,hi1,h1⟩
  ·exact⟨_,hi2,h2⟩
theorem aw_step4 (i k m n:Nat){d0:Option Tmp}{op0:Op}{t0:TypeId}{pos0:String}{af0:Array Edge}{g0:Option (Nat×Bool)}{d1:Option Tmp}{op1:Op}{t1:TypeId}{pos1:String}{af1:Array Edge}{g1:Option (Nat×Bool)}{d2:Option Tmp}{op2:Op}{t2:TypeId}{pos2:String}{af2:Array Edge}{g2:Option (Nat×Bool)}{d3:Option Tmp}{op3:Op}{t3:TypeId}{pos3:String}{af3:Array Edge}{g3:Option (Nat×Bool)}{fuel:Nat}{listed:Array Bool}(hr:decide (Region.ready md ops listed=[i,k,m,n])=true)(hi0:ops[i]?=some ⟨d0,op0,t0,pos0,af0,g0⟩)(hi1:ops[k]?=some ⟨d1,op1,t1,pos1,af1,g1⟩)(hi2:ops[m]?=some ⟨d2,op2,t2,pos2,af2,g2⟩)(hi3:ops[n]?=some ⟨d3,op3,t3,pos3,af3,g3⟩)(h0:OW P ops (Nx (wpAny P md ops Q fuel (listed.setIfInBounds i true)) Q) B w0 N G E [⟨d0,op0,t0,pos0,af0,g0⟩])(h1:OW P ops (Nx (wpAny P md ops Q fuel (listed.setIfInBounds k true)) Q) B w0 N G E [⟨d1,op1,t1,pos1,af1,g1⟩])(h2:OW P ops (Nx (wpAny P md ops Q fuel (listed.setIfInBounds m true)) Q) B w0 N G E [⟨d2,op2,t2,pos2,af2,g2⟩])(h3:OW P ops (Nx (wpAny P md ops Q fuel (listed.setIfInBounds n true)) Q) B w0 N G E [⟨d3,op3,t3,pos3,af3,g3⟩]):AW P md ops Q B w0 N G E (fuel+1) listed:=
 aw_stepN [i,k,m,n] hr (by simp) fun j hj=>by
  simp only[List.mem_cons,List.not_mem_nil,or_false]at hj
  rcases hj with rfl|rfl|rfl|rfl
  ·exact⟨_,hi0,h0⟩
  ·exact⟨_,hi1,h1⟩
  ·exact⟨_,hi2,h2⟩
  ·exact⟨_,hi3,h3⟩
def wpHeadR (P:Program)(ops:Array Oper)(B:Nat)(w0:World)(G:List Hp)(Q:Act→Prop):List Oper→Act→Prop
 |[],a=>Q a
 |o::rest,a=>if Region.wanted o (yielded ops a.tmps) then ∃v,(∀X:List Hp,headAt P o a (St B w0 (X++G)) v)∧wpHeadR P ops B w0 G Q rest (a.put o.dst v) else wpHeadR P ops B w0 G Q rest (a.put o.dst undef)
def YieldsR (P:Program)(ops:Array Oper)(B:Nat)(w0:World)(G:List Hp)(o:Oper)(v:Value)(a:Act):Prop:=∀X:List Hp,YieldsH P ops (St B w0 (X++G)) o v a
theorem YieldsR.more {o:Oper}{a:Act}{v:Value}{c:Hp}(h:YieldsR P ops B w0 G o v a):YieldsR P ops B w0 (c::G) o v a:=fun X=>by
 have:=h (X++[c])
 rwa [List.append_assoc]at this
theorem headAt.moreN {o:Oper}{a:Act}{v:Value}(hn:noCall o=true)(h:headAt P o a (St B w0 G) v):∀X:List Hp,headAt P o a (St B w0 (X++G)) v
 |[]=>h
 |_::X=>(headAt.moreN hn h X).more hn
theorem hOp_putR {j:Nat}{oi oj:Oper}{v:Value}(hj:ops[j]?=some oj)(hap:oi.apart ops oj=true)
  (hsi:∀cs b,oi.op≠.select cs b) (hsj:∀cs b,oj.op≠.select cs b) {K:Act→Prop} {a:Act}
  (hy:YieldsR P ops B w0 G oi v a) (h:hOp P ops (St B w0 G) j K (a.put oi.dst v)):
  hOp P ops (St B w0 G) j (fun a'=>YieldsR P ops B w0 G oi v a'∧K (a'.put oi.dst v)) a:=by
 obtain⟨h1,h2,h3⟩:=Oper.apart_spec hap
 have keep:∀(a:Act),YieldsR P ops B w0 G oi v a→∀u,YieldsR P ops B w0 G oi v (a.put oj.dst u):=fun a hy u X=>
  (hy X).of_same (execOp_put oi hsi a oj.dst u h3) (wanted_put oi a oj.dst u h3)
 unfold hOp at *
 simp only[hj]at *
 rw[wanted_put oj a oi.dst v h1]at h
 split
 ·rename_i hw
  simp only[hw,if_true]at h
  obtain⟨u,hu,hn⟩:=h
  refine⟨u,?_,keep a hy u,by rw[←Act.put_comm a v u h2];exact hn⟩
  unfold headAt Oper.quietAt at *
  rwa [execOp_put oj hsj a oi.dst v h1]at hu
 ·rename_i hw
  simp only[hw]at h
  exact⟨keep a hy _,by rw[←Act.put_comm a v undef h2];exact h⟩
theorem wpM_firstR {sf tl:List Nat}{Q:Exit→Act→World→Prop}{i:Nat}{oi:Oper}{v:Value}(hi:ops[i]?=some oi)(hsel:∀(j:Nat) (o:Oper) cs b,ops[j]?=some o→o.op≠.select cs b)
  (hQ:∀c a w,¬Q (.panic c) a w) (hit:tl.contains i=false) (his:sf.contains i=false)
  (hwait:readsMem oi=true→∀t∈tl,reaches md ops i 99 t=true):
  ∀(fuel:Nat) (listed:Array Bool) (G:List Hp) (a:Act),Closed md ops listed→
   (∀j oj,ops[j]?=some oj→j≠i→listed.getD j true=false→(∀e∈oj.after,Region.binds md e=true→e.on≠i)→oi.apart ops oj=true)→
   i∈Region.ready md ops listed→YieldsR P ops B w0 G oi v a→
   wpM P md ops B w0 sf tl Q fuel (listed.setIfInBounds i true) G (a.put oi.dst v)→wpM P md ops B w0 sf tl Q (fuel+1) listed G a:=by
 intro fuel
 induction fuel with
 |zero=>
  intro listed G a _ _ hr hy H
  refine⟨fun h=>(by rw[h]at hr;cases hr),fun j hj=>?_⟩
  by_cases hji:j=i
  ·subst hji;rw[if_neg (by simp at hit⊢;exact hit),if_neg (by simp at his⊢;exact his)];exact(hy []).hOp hi H
  ·have:=ready_mono hj hji
   rw[H.1]at this
   cases this
 |succ fuel ih=>
  intro listed G a hcl hfree hr hy H
  refine⟨fun h=>(by rw[h]at hr;cases hr),fun j hj=>?_⟩
  by_cases hji:j=i
  ·subst hji;rw[if_neg (by simp at hit⊢;exact hit),if_neg (by simp at his⊢;exact his)];exact(hy []).hOp hi H
  ·have h1:=H.2 j (ready_mono hj hji)
   obtain⟨hjun,oj,hoj,hall⟩:=mem_ready.1 hj
   have hnot:∀e∈oj.after,Region.binds md e=true→e.on≠i:=fun e he hb heq=>by
    have h1:=hall e he hb
    have h0:=(mem_ready.1 hr).1
    rw[heq]at h1
    rcases Nat.lt_or_ge i listed.size with h'|h'
    ·simp[h']at h0 h1;rw[h0]at h1;cases h1
    ·simp[Array.getElem?_eq_none h']at h1
   have hap:=hfree j oj hoj hji hjun hnot
   have hfree':∀k ok,ops[k]?=some ok→k≠i→(listed.setIfInBounds j true).getD k true=false→
     (∀e∈ok.after,Region.binds md e=true→e.on≠i)→oi.apart ops ok=true:=fun k ok hk hki hun hno=>by
    refine hfree k ok hk hki ?_ hno
    by_cases hjk:j=k
    ·subst hjk;exact hjun
    ·rw[getD_set_ne true hjk]at hun;exact hun
   split at h1
   ·rename_i htl
    rw[if_pos htl]
    -- a tail operation:then i is pure
    have hpure:readsMem oi=false:=by
     cases hrm:readsMem oi with
     |false=>rfl
     |true=>
      have h5:=reaches_listed hcl 99 j oj hoj hall (hwait hrm j (by simpa using htl))
      rw[not_listed (mem_ready.1 hr).1]at h5
      cases h5
    intro w hw
    have hyp:=(hy []).pure hpure
    have h2:=wpOp_put hoj hap (fun cs b=>hsel i oi cs b hi) (fun cs b=>hsel j oj cs b hoj) (Q:=Q) (fun c a w hq=>absurd hq (hQ c _ w)) hyp (h1 w hw)
    refine wpOp_mono (fun a' w' h3=>?_) h2
    refine wpAny_first hi hsel (fun c a w hq=>absurd hq (hQ c _ w)) fuel (listed.setIfInBounds j true) a' w' hfree' (ready_mono hr (Ne.symm hji)) h3.1 ?_
    rw[Array.setIfInBounds_comm _ _ hji]
    exact h3.2
   ·rename_i htl
    rw[if_neg htl]
    split at h1
    ·rename_i hsfj
     rw[if_pos hsfj]
     obtain⟨p1,p2,p3⟩:=Oper.apart_spec hap
     have keep:∀u,YieldsR P ops B w0 G oi v (a.put oj.dst u):=fun u X=>
      (hy X).of_same (execOp_put oi (fun cs b=>hsel i oi cs b hi) a oj.dst u p3) (wanted_put oi a oj.dst u p3)
     unfold sOp at h1⊢
     simp only[hoj]at h1⊢
     rw[wanted_put oj a oi.dst v p1]at h1
     split
     ·rename_i hw
      simp only[hw,if_true]at h1
      obtain⟨obj,mk,g1,g2⟩:=h1
      refine⟨obj,mk,fun w hw=>?_,fun b=>?_⟩
      ·have:=g1 w hw
       rwa [execOp_put oj (fun cs b=>hsel j oj cs b hoj) a oi.dst v p1]at this
      ·refine ih (listed.setIfInBounds j true) _ _ (hcl.add hj) hfree' (ready_mono hr (Ne.symm hji)) (keep _).more ?_
       rw[Array.setIfInBounds_comm _ _ hji,←Act.put_comm a v _ p2]
       exact g2 b
     ·rename_i hw
      simp only[hw]at h1
      refine ih (listed.setIfInBounds j true) _ _ (hcl.add hj) hfree' (ready_mono hr (Ne.symm hji)) (keep _) ?_
      rw[Array.setIfInBounds_comm _ _ hji,←Act.put_comm a v _ p2]
      exact h1
    ·rename_i hsfj
     rw[if_neg hsfj]
     have h2:=hOp_putR hoj hap (fun cs b=>hsel i oi cs b hi) (fun cs b=>hsel j oj cs b hoj) hy h1
     refine hOp_mono (fun a' h3=>ih (listed.setIfInBounds j true) _ a' (hcl.add hj) hfree' (ready_mono hr (Ne.symm hji)) h3.1 ?_) h2
     rw[Array.setIfInBounds_comm _ _ hji]
     exact h3.2
def mixR (md:Region.Mode)(ops:Array Oper)(sf tl:List Nat):List Nat→Array Bool→Bool
 |[],listed=>seqS md ops tl sf listed
 |i::r,listed=>(Region.ready md ops listed).contains i&&Region.free md ops listed i&&!tl.contains i&&!sf.contains i&&
   (match ops[i]? with|some o=>(!readsMem o||tl.all (waitsFor md ops · i))|none=>false)&&mixR md ops sf tl r (listed.setIfInBounds i true)
theorem wpM_of_mixR {sf tl:List Nat}{ss ts:List Oper}{Q:Exit→Act→World→Prop}{G:List Hp}(hs:Region.noSelect ops=true)(hQ:∀c a w,¬Q (.panic c) a w)(hss:sf.mapM (fun i=>ops[i]?)=some ss)(hts:tl.mapM (fun i=>ops[i]?)=some ts):
  ∀(hd:List Nat) (os:List Oper) (listed:Array Bool) (a:Act),Closed md ops listed→hd.mapM (fun i=>ops[i]?)=some os→mixR md ops sf tl hd listed=true→
   wpHeadR P ops B w0 G (fun a'=>wpSoft P ops B w0 Q ts ss G a') os a→wpM P md ops B w0 sf tl Q (hd.length+(sf.length+tl.length)) listed G a:=by
 intro hd
 induction hd with
 |nil=>
  intro os listed a hcl hos hB h
  simp at hos
  subst hos
  simp only[List.length_nil,Nat.zero_add]
  exact wpM_of_soft hts sf ss listed G a (fun x hx=>hx) hss hB h
 |cons i r ih=>
  intro os listed a hcl hos hB h
  simp only[List.mapM_cons]at hos
  cases h0:ops[i]? with
  |none=>rw[h0]at hos;simp at hos
  |some o=>
   rw[h0]at hos
   cases h1:r.mapM (fun i=>ops[i]?)with
   |none=>rw[h1]at hos;simp at hos
   |some os'=>
    rw[h1]at hos
    simp at hos
    subst hos
    simp only[mixR,Bool.and_eq_true,h0]at hB
    obtain⟨⟨⟨⟨⟨hr,hf⟩,ht⟩,hsf⟩,hm⟩,hB'⟩:=hB
    have hst:∃v,YieldsR P ops B w0 G o v a∧wpHeadR P ops B w0 G (fun a'=>wpSoft P ops B w0 Q ts ss G a') os' (a.put o.dst v):=by
     unfold wpHeadR at h
     by_cases hw:Region.wanted o (yielded ops a.tmps)=true
     ·rw[if_pos hw]at h
      obtain⟨v,h1,h2⟩:=h
      exact⟨v,fun X=>.inl ⟨hw,h1 X⟩,h2⟩
     ·rw[if_neg hw]at h
      exact⟨undef,fun X=>.inr ⟨by simpa using hw,rfl⟩,h⟩
    obtain⟨v,hy,hK⟩:=hst
    have hlen:(i::r).length+(sf.length+tl.length)=(r.length+(sf.length+tl.length))+1:=by simp;omega
    rw[hlen]
    refine wpM_firstR h0 (Region.noSelect_spec hs) hQ (by simpa using ht) (by simpa using hsf) (fun hrm=>?_) (r.length+(sf.length+tl.length)) listed G a hcl (Region.free_spec h0 hf) (by simpa using hr) hy ?_
    ·have h3:=hm
     rw[hrm]at h3
     exact waits_spec (by simpa using h3)
    ·exact ih os' (listed.setIfInBounds i true) (a.put o.dst v) (hcl.add (by simpa using hr)) h1 hB' hK
variable {S:World→Prop}{ty T:TypeId}
def HWR (P:Program)(ops:Array Oper)(Q:Exit→Act→World→Prop)(B:Nat)(w0:World)(N:Nat)(G:List Hp)(E:Env)(rest:List Oper)(tail:List Oper×List Oper):Prop:=
 ∀a,EnvOK N E a→wpHeadR P ops B w0 G (fun a'=>wpSoft P ops B w0 (NP Q) tail.2 tail.1 G a') rest a
theorem cw_mixR {id:Nat}{l:List Oper}(sf tl hd:List Nat){ss ts hs:List Oper}(hm:P.follows .mixedOrders=true)(hss:picks l sf=some ss)(hts:picks l tl=some ts)(hhs:picks l hd=some hs)(hlen:hd.length+(sf.length+tl.length)=l.length)
  (hB:(Region.noSelect l.toArray&&mixR .any l.toArray sf tl hd (Array.replicate l.length false))=true) (h:HWR P l.toArray Q B w0 N G E hs (ss,ts)):CW P Q B w0 N G E (.region id l.toArray true):=fun a w ha hw=>by
 simp only[Bool.and_eq_true]at hB
 refine wp_mono (Q:=NP Q) ?_ (fun e a w hq=>by cases e<;>first|exact hq|exact hq.elim)
 refine wp_region_any hm ?_
 have h1:=wpM_of_mixR (md:=.any) (Q:=NP Q) hB.1 (fun c a w hq=>hq) (by rw[picks_eq]at hss;simpa using hss) (by rw[picks_eq]at hts;simpa using hts) hd hs (Array.replicate l.length false) a (Closed.start _) (by rw[picks_eq]at hhs;simpa using hhs) hB.2 (h a ha)
 have h2:=wpAny_of_M (w:={w with drawn:=w.drawn+1}) _ _ _ _ hw.drewEq h1
 rw[hlen]at h2
 simpa using h2
theorem hwr_pure {d:Nat}{op:Op}{pos:String}{af:Array Edge}{g:Option (Nat×Bool)}{rest:List Oper}{tail:List Oper×List Oper}{v:Value}(hg:Env.guard E ops g=some true)(hd:Nat.blt d N=true)
  (hv : OpV P (fun _ => True) N E op ty v) (hc : readsMem ⟨none, op, ty, "", #[], none⟩ = false) (h : HWR P ops Q B w0 N G ((d, v) :: E) rest tail) :
  HWR P ops Q B w0 N G E (⟨some d,op,ty,pos,af,g⟩::rest) tail:=fun a ha=>by
 unfold wpHeadR
 rw[if_pos (ha.guard (o:=⟨some d,op,ty,pos,af,g⟩) hg)]
 have key : ∀ w, (execOp a.eval ⟨none, op, ty, "", #[], none⟩).run P w = .ok (.value v) w := fun w => by
  have h1:=hv a w ha trivial
  cases hr : (execOp a.eval ⟨none, op, ty, "", #[], none⟩).run P w with
  |halt x w'=>rw[hr]at h1;simp[Oper.quietUpon]at h1
  |ok n w'=>
   obtain⟨u,hu⟩:=pure_value hc hr
   subst hu
   rw[hr]at h1
   simp only[Oper.quietUpon]at h1
   rw[h1.1,h1.2]
 refine⟨v,fun X=>⟨fun w' _=>?_,fun _ w=>key w⟩,h _ (ha.put (by simpa using hd) v)⟩
 have he : execOp a.eval ⟨some d, op, ty, pos, af, g⟩ = execOp a.eval ⟨none, op, ty, "", #[], none⟩ := rfl
 unfold Oper.quietAt
 rw[he,key w']
 exact⟨rfl,rfl⟩
theorem hwr_load {d:Nat}{op:Op}{pos:String}{af:Array Edge}{g:Option (Nat×Bool)}{rest:List Oper}{tail:List Oper×List Oper}{v:Value}(hg:Env.guard E ops g=some true)(hd:Nat.blt d N=true)
  (hr:readsMem ⟨some d,op,ty,pos,af,g⟩=true) (hn:noCall ⟨some d,op,ty,pos,af,g⟩=true) (hv:OpV P (St B w0 G) N E op ty v) (h:HWR P ops Q B w0 N G ((d,v)::E) rest tail):
  HWR P ops Q B w0 N G E (⟨some d,op,ty,pos,af,g⟩::rest) tail:=fun a ha=>by
 unfold wpHeadR
 rw[if_pos (ha.guard (o:=⟨some d,op,ty,pos,af,g⟩) hg)]
 exact⟨v,headAt.moreN hn ⟨fun w' hw'=>hv.quietAt ha w' hw',fun h0=>by rw[hr]at h0;cases h0⟩,h _ (ha.put (by simpa using hd) v)⟩
theorem hwr_call {d:Nat}{op:Op}{pos:String}{af:Array Edge}{g:Option (Nat×Bool)}{rest:List Oper}{tail:List Oper×List Oper}{v:Value}(hg:Env.guard E ops g=some true)(hd:Nat.blt d N=true)
  (hr:readsMem ⟨some d,op,ty,pos,af,g⟩=true) (hv:∀X:List Hp,OpV P (St B w0 (X++G)) N E op ty v) (h:HWR P ops Q B w0 N G ((d,v)::E) rest tail):
  HWR P ops Q B w0 N G E (⟨some d,op,ty,pos,af,g⟩::rest) tail:=fun a ha=>by
 unfold wpHeadR
 rw[if_pos (ha.guard (o:=⟨some d,op,ty,pos,af,g⟩) hg)]
 exact⟨v,fun X=>⟨fun w' hw'=>(hv X).quietAt ha w' hw',fun h0=>by rw[hr]at h0;cases h0⟩,h _ (ha.put (by simpa using hd) v)⟩
theorem hwr_nil {s t:List Oper}(h:SW P ops Q B w0 N G E s t):HWR P ops Q B w0 N G E [] (s,t):=fun a ha=>h a ha
theorem ow_copyD {d dl:Nat}{x y:Operand}{e size n cap k m sLen sCap q:Nat}{ao so:Option Addr}{c:Hp}{xs vs:List Value}{R:Hp→List Hp}{tys:Array TypeId}{pos:String}{af:Array Edge}{g:Option (Nat×Bool)}{rest:List Oper}(hg:Env.guard E ops g=some true)(hd:Nat.blt d N=true)
  (ht:tys[0]?=some T) (hT:P.underlying T=some (.slice e)) (he:(P.info? e).map (·.size)=some size)
  (hx:Env.ev E x=some (.slice (cutA ao cap k size) dl q)) (hy:Env.ev E y=some (.slice so sLen sCap)) (hm:Nat.min sLen dl=m) (hk:k+m≤n) (hsl:IsSl e size (.slice ao n cap) c n xs)
  (hr:Reads P (St B w0 G) size (.slice so sLen sCap) m vs) (h1:∀u∈vs,u.oneCell'=true) (hs:Sel G c R)
  (h:∀c',IsSl e size (.slice ao n cap) c' n (xs.take (k*size)++(vs++xs.drop (k*size+m*size)))→OW P ops Q B w0 N (R c') ((d,.int .i64 m)::E) rest):OW P ops Q B w0 N G E (⟨some d,.call {callee:=.builtin .copy,args:=#[x,y],argTypes:=tys},ty,pos,af,g⟩::rest):=by
 by_cases h0:m=0
 ·subst h0
  have hvs:vs=[]:=by have:=hr.len;simp at this;exact this
  subst hvs
  have h2:=h c (by simpa using hsl)
  intro a w ha hw
  unfold wpList
  rw[if_pos (ha.guard (o:=⟨some d,.call {callee:=.builtin .copy,args:=#[x,y],argTypes:=tys},ty,pos,af,g⟩) hg)]
  refine .inl ?_
  unfold Oper.wp
  have h3:(execOp a.eval ⟨some d,.call {callee:=.builtin .copy,args:=#[x,y],argTypes:=tys},ty,pos,af,g⟩).run P w=.ok (.value (.int .i64 0)) w:=by
   have h4:=hr.run w hw
   cases hc:cutA ao cap k size<;>simp[execOp,resolve,ha.ev hx,hc,ha.ev hy,invoke,builtin,Builtin.copy_,ht,run_underlying hT,Builtin.lenOf,run_sizeOf he w,h4,goInt,hm,storeCells]
  rw[h3]
  exact h2 _ _ (ha.put (by simpa using hd) _) (by rw[hs.eq];exact hw)
 ·have hmn:m≤n-k:=by omega
  have hkm:(k+m)*size≤n*size:=Nat.mul_le_mul_right _ (by omega)
  rw[Nat.add_mul]at hkm
  by_cases hz:size=0
  ·subst hz
   have hvs:vs=[]:=by have:=hr.len;simp at this;exact this
   subst hvs
   have hxs:=hsl.length
   have h2:=h c (by simpa using hsl)
   intro a w ha hw
   unfold wpList
   rw[if_pos (ha.guard (o:=⟨some d,.call {callee:=.builtin .copy,args:=#[x,y],argTypes:=tys},ty,pos,af,g⟩) hg)]
   refine .inl ?_
   unfold Oper.wp
   have h3:(execOp a.eval ⟨some d,.call {callee:=.builtin .copy,args:=#[x,y],argTypes:=tys},ty,pos,af,g⟩).run P w=.ok (.value (.int .i64 m)) w:=by
    have h4:=hr.run w hw
    cases hc:cutA ao cap k 0<;>simp[execOp,resolve,ha.ev hx,hc,ha.ev hy,invoke,builtin,Builtin.copy_,ht,run_underlying hT,Builtin.lenOf,run_sizeOf he w,h4,goInt,hm,storeCells]
   rw[h3]
   exact h2 _ _ (ha.put (by simpa using hd) _) (by rw[hs.eq];exact hw)
  ·have hpos:0<m*size:=Nat.mul_pos (by omega) (by omega)
   obtain⟨obj,obj',rfl,e2,e3⟩:=hsl.set' (i:=k*size) (by omega) (m*size) (by omega) hr.len
   obtain⟨e4,_⟩:=hsl.reads (by omega)
   obtain⟨_,_,hv,hcap⟩:=hsl.view
   injection hv with _ _ hcc
   subst hcc
   have hcut:cutA ao cap k size=some ⟨bOf ao,oOf ao+k*size,none⟩:=by
    rw[e4,cutA_some (by omega)];simp
   rw[hcut]at hx
   exact ow_copy hg hd ht hT he hx hy hm hr h1 hs e2 (h _ e3)
theorem rep_eq4 {β:Type}{A M C V:List β}{a v c mm:Nat}(hA:A.length=a)(hV:V.length=v)(hC:C.length=c)(hM:M.length=mm)(hv:v≤mm):
  ((A++(M++C)).take a++(V++(A++(M++C)).drop (a+v))).drop (a+mm)=C∧
  (((A++(M++C)).take a++(V++(A++(M++C)).drop (a+v))).take (a+v)++(C++((A++(M++C)).take a++(V++(A++(M++C)).drop (a+v))).drop (a+v+c))).take (a+v+c)=A++(V++C):=by
 subst hA hV hC hM
 have h1:(A++(M++C)).take A.length=A:=List.take_left
 have h2:(A++(M++C)).drop (A.length+V.length)=M.drop V.length++C:=by
  rw[List.drop_append,List.drop_eq_nil_of_le (by omega),Nat.add_sub_cancel_left,List.nil_append,List.drop_append_of_le_length hv]
 rw[h1,h2]
 constructor
 ·rw[List.drop_append,List.drop_eq_nil_of_le (by omega),Nat.add_sub_cancel_left,List.nil_append,List.drop_append,List.drop_eq_nil_of_le (by omega),List.nil_append]
  have:M.length-V.length=(M.drop V.length).length:=by rw[List.length_drop]
  rw[this,List.drop_left]
 ·have h3:(A++(V++(M.drop V.length++C))).take (A.length+V.length)=A++V:=by
   rw[←List.append_assoc,List.take_append_of_le_length (by simp),List.take_of_length_le (by simp)]
  rw[h3,List.append_assoc,←List.append_assoc V,←List.append_assoc A,List.take_append_of_le_length (by simp;omega),List.take_of_length_le (by simp;omega)]
theorem rep_eq5 {β:Type}{A M C V ys:List β}{a v c:Nat}(hA:A.length=a)(hV:V.length=v)(hC:C.length=c)(hM:M.length≤v)(hy:ys.length+M.length=v):
  ((((A++(M++C))++ys).take (a+v)++(C++((A++(M++C))++ys).drop (a+v+c))).take a++(V++(((A++(M++C))++ys).take (a+v)++(C++((A++(M++C))++ys).drop (a+v+c))).drop (a+v)))=A++(V++C):=by
 subst hA hV hC
 have h1:((A++(M++C))++ys).drop (A.length+V.length+C.length)=[]:=List.drop_eq_nil_of_le (by simp only[List.length_append];omega)
 have h2:(((A++(M++C))++ys).take (A.length+V.length)).length=A.length+V.length:=by simp only[List.length_append,List.length_take];omega
 rw[h1,List.append_nil,List.drop_append,List.drop_eq_nil_of_le (by omega),h2,Nat.sub_self,List.drop_zero,List.nil_append,List.take_append_of_le_length (by omega),List.take_take,Nat.min_eq_left (by omega),List.append_assoc,List.take_left]
end Go.Sl
namespace Go.Proofs.YtnlaffkihohfkaaGreat
open Go Go.Sl Go.Proofs
variable {B:Nat}{w0:World}{G:List Hp}{R:Hp→List Hp}
instance:Inhabited Rg:=⟨⟨0,0⟩⟩
def Rg.cells (r:Rg):List Value:=[.int .u64 r.a,.int .u64 r.b]
def enR:Enc Rg:=⟨Rg.cells,2,fun r=>.agg r.cells.toArray,RgIn⟩
theorem rTy:EncTy Tryz.prog 137 enR:=EncTy.agg Ty.ag137 (by decide) (fun _=>rfl) (fun _ _=>rfl) (fun a _ u hu=>by
 simp only[enR,Rg.cells,List.mem_cons,List.not_mem_nil,or_false]at hu
 rcases hu with rfl|rfl<;>rfl)
theorem cloneR_c {v:Value}{l}(hV:Vw enR (St B w0 G) v l)(hb:l.length≤100000000):
  Go.Sl.Fn Tryz.prog 117 #[v] B w0 G fun u G'=>∃x:Option Addr×Nat×Hp,u=.slice x.1 l.length x.2.1∧Ls enR 137 (.slice x.1 l.length x.2.1) x.2.2 l∧G'=[x.2.2]++G:=by
 refine Fn.new ?_
 obtain⟨ao,cap,rfl,hcap⟩:=hV.view
 refine fn_enter Tryz.func117 rfl (by kernel_rfl) Tryz.ntmps117 (by simp) ?_
 refine qs<|qa<|qt<|cw_seq<|qs<|qm<|qv (v_eql_slnil Tryz.underlying77 rfl)<|qt ?_
 refine cw_bool rfl (fun hc4=>?_) (fun hc4=>?_)
 refine qs<|qa<|qt<|cw_ret<|xw_then_ret<|ret1 rfl (res_tmp rfl) ?_
 rotate_left
 refine cw_skip<|xw_then<|qs ?_
 (refine ow_buildL (es:=[]) rfl rfl Tryz.underlying77 Ty.em77 (rTy) rfl rfl (by first|(simp[*];done)|(repeat (first|exact List.forall_mem_nil _|refine List.forall_mem_cons.2 ⟨?_,?_⟩|assumption|(show _∧_;omega)))) (by simp only[List.length_cons,List.length_nil];decide) ?_;intro ao5 c5 hL5)
 refine qm ?_
 (refine ow_appendL rfl rfl Tryz.underlying77 Tryz.underlying77 Ty.em77 (rTy) rfl rfl zas zsel (hV.there) zlo zlo ?_;intro ao7 cap7 c7 hL7)
 refine qa<|qt<|cw_ret<|ret1 rfl (res_tmp rfl) ?_
 rotate_left
 ·have hao:ao=none:=by simpa using hc4
  have hl:l=[]:=by
   cases l with
   |nil=>rfl
   |cons a l=>have:=(hV.get _ _ _ rfl (by simp)).1;rw[hao]at this;simp at this
  subst hl
  exact⟨(none,0,[]),rfl,Ls.nil,zcov⟩
 ·exact⟨(ao7,cap7,c7),by simp,by simpa using hL7,zcov⟩
theorem insertR_c {v v2:Value}{c c2:Hp}{l l2}{i:Nat}{x:Int}(hx:x=(i:Int))(hs:Sel G c R)(hL:Ls enR 137 v c l)(hL2:Ls enR 137 v2 c2 l2)(hc2:Cov [c,c2] G)(hl2:0<l2.length)(hi:i≤l.length)(hb:l.length+l2.length≤100000000):
  Go.Sl.Fn Tryz.prog 125 #[v,.int .i64 x,v2] B w0 G fun u G'=>∃x:Option Addr×Nat×Hp,u=.slice x.1 (l.take i++(l2++l.drop i)).length x.2.1∧Ls enR 137 (.slice x.1 (l.take i++(l2++l.drop i)).length x.2.1) x.2.2 (l.take i++(l2++l.drop i))∧G'=R x.2.2:=by
 subst hx
 refine Fn.sel0 hs fun F hR _=>?_
 have hc3:∀c',Cov [c',c2] (c'::F):=fun c'=>cov_swap hs hR hc2
 obtain⟨ao,cap,rfl,hcap⟩:=hL.view
 obtain⟨ao2,cap2,rfl,hcap2⟩:=hL2.view
 refine fn_enter Tryz.func125 rfl (by kernel_rfl) Tryz.ntmps125 (by simp) ?_
 refine qs<|qa<|qt<|qs<|qm<|qm ?_
 refine qv (v_slice_ln Tryz.underlying77 Ty.el77 rfl rfl rfl zom)<|qt<|qs<|qm ?_
 refine qv (v_len rfl Tryz.underlying77 rfl)<|qa ?_
 refine qt<|cw_seq<|qs<|qm ?_
 refine qv (v_eql rfl rfl)<|qt ?_
 refine cw_dec rfl (fun hc16=>?_) (fun hc16=>?_)
 (exfalso;omega)
 refine cw_skip<|xw_then<|qs<|qm ?_
 refine qv (v_len rfl Tryz.underlying77 rfl)<|qa<|qt<|cw_seq<|qs<|qm<|qm ?_
 refine qv (v_eql rfl rfl) ?_
 refine qt ?_
 refine cw_dec rfl (fun hc22=>?_) (fun hc22=>?_)
 refine qs<|qm<|qm ?_
 (refine ow_appendL rfl rfl Tryz.underlying77 Tryz.underlying77 Ty.em77 (rTy) rfl rfl zas zsel (hL2.vw (cov_sub (hc3 _))) zlo zlo ?_;intro ao25 cap25 c25 hL25)
 refine qa<|qt ?_
 refine cw_ret ?_
 refine xw_then_ret ?_
 refine ret1 rfl (res_tmp rfl) ?_
 rotate_left
 refine cw_skip<|xw_then<|cw_seq<|qs<|qm<|qm ?_
 refine qv (v_add rfl rfl (nw_i64 zom zom))<|qm ?_
 refine qv (v_cap rfl Tryz.underlying77 rfl) ?_
 refine qv (v_gtr rfl rfl)<|qt ?_
 refine cw_dec rfl (fun hc31=>?_) (fun hc31=>?_)
 refine qs<|qm<|qm ?_
 refine qv (v_slice_nh Tryz.underlying77 Ty.el77 rfl rfl rfl zom)<|qm<|qm ?_
 refine qv (v_add rfl rfl (nw_i64 zom zom))<|qm ?_
 refine qv (v_sub rfl rfl (nw_i64 zom zom)) ?_
 rotate_left
 refine cw_skip<|xw_then<|qs<|qm<|qm<|qm ?_
 refine qv (v_add rfl rfl (nw_i64 zom zom)) ?_
 refine qv (v_slice_nh Tryz.underlying77 Ty.el77 rfl rfl rfl zom)<|qa<|qt<|cw_seq<|qs ?_
 refine qm<|qm<|qm<|qm ?_
 refine qv (v_add rfl rfl (nw_i64 zom zom)) ?_
 refine qv (v_slice_ln Tryz.underlying77 Ty.el77 rfl rfl rfl zom) ?_
 rotate_left
 ·have hil:i=l.length:=by omega
  subst hil
  exact⟨(ao25,cap25,c25),by simp,by simpa using hL25,zcov⟩
 ·have hX:=fm_len (f:=enR.f) (k:=2) (l:=l) fun a ha=>rTy.len a (hL.ok a ha)
  have hV:=fm_len (f:=enR.f) (k:=2) (l:=l2) fun a ha=>rTy.len a (hL2.ok a ha)
  have h1:IsSl 137 2 (.slice ao i cap) c i ((l.flatMap enR.f).take (i*2)):=hL.sl.take' hi
  have h2:IsSl 137 2 (.slice (cutA ao cap i 2) (l.length-i) (cap-i)) c (l.length-i) ((l.flatMap enR.f).drop (i*2)):=hL.sl.drop' hi
  refine ow_appendZ (m:=l.length+l2.length-i) rfl rfl Tryz.underlying77 Tryz.underlying3 Ty.em77 rfl rfl zom zom h1 .here zom zom zom ?_
  intro ao40 cap40 c40 ys hys hcap40 h40
  refine qa<|qt<|qs<|qm<|qm ?_
  refine qv (v_slice_ln Tryz.underlying77 Ty.el77 rfl rfl rfl zom)<|qm ?_
  have hr2:∀c',Reads Tryz.prog (St B w0 (c'::c::F)) 2 (.slice ao2 l2.length cap2) l2.length (l2.flatMap enR.f):=fun c'=>(hL2.vw (cov_sub (hc3 c)).there).reads_all rTy
  refine ow_copyL (k:=i) (n:=i+(l.length+l2.length-i)) (size:=2) (m:=l2.length) rfl rfl rfl Tryz.underlying77 rTy.size rfl rfl (by simp only[Nat.min_def];split<;>omega) zom h40 (hr2 _) (enc_one rTy hL2.ok) .here ?_
  intro c45 h45
  refine qt<|cw_seq ?_
  refine cw_mix [] [8] [0,1,2,3,4,5,6,7] Ty.mixed rfl rfl rfl rfl zdk ?_
  refine hmv ?_
  refine hmv ?_
  refine hmv ?_
  refine hw_pure rfl rfl (v_add rfl rfl (nw_i64 zom zom)) rfl ?_
  refine hw_pure rfl rfl (v_slice_ln Tryz.underlying77 Ty.el77 rfl rfl rfl zom) rfl ?_
  refine hmv ?_
  refine hmv ?_
  refine hw_pure rfl rfl (v_slice_ln Tryz.underlying77 Ty.el77 rfl rfl rfl zom) rfl ?_
  refine hw_nil ?_
  refine sw_nil ?_
  have hr3:Reads Tryz.prog (St B w0 (c45::c::F)) 2 (.slice (cutA ao cap i 2) (l.length-i) (cap-i)) (l.length-i) ((l.flatMap enR.f).drop (i*2)):=h2.readsA Sub.here.there
  have hone:∀u∈(l.flatMap enR.f).drop (i*2),u.oneCell'=true:=fun u hu=>enc_one rTy hL.ok u (List.mem_of_mem_drop hu)
  refine ow_copyL (k:=i+l2.length) (n:=i+(l.length+l2.length-i)) (size:=2) (m:=l.length-i) rfl rfl rfl Tryz.underlying77 rTy.size rfl rfl (by simp only[Nat.min_def];split<;>omega) zom h45 hr3 hone .here ?_
  intro c54 h54
  have hfin:=ins_eq2 (A:=(l.flatMap enR.f).take (i*2)) (Bl:=(l.flatMap enR.f).drop (i*2)) (ys:=ys) (V:=l2.flatMap enR.f) (a:=i*2) (b:=(l.length-i)*2) (m:=l2.length*2) (by rw[List.length_take,hX];omega) (by rw[List.length_drop,hX];omega) (by rw[hys];omega) hV
  rw[←Nat.add_mul]at h54 hfin
  rw[hfin,fm_take (f:=enR.f) (k:=2) i (fun a ha=>rTy.len a (hL.ok a ha)),fm_drop (f:=enR.f) (k:=2) i (fun a ha=>rTy.len a (hL.ok a ha))]at h54
  have hlen:(l.take i++(l2++l.drop i)).length=i+(l.length+l2.length-i):=by rw[List.length_append,List.length_append,List.length_take,List.length_drop];omega
  have hLf:Ls enR 137 (.slice ao40 (l.take i++(l2++l.drop i)).length cap40) c54 (l.take i++(l2++l.drop i)):=⟨by rw[hlen,List.flatMap_append,List.flatMap_append];exact h54,fun a ha=>by
   rcases List.mem_append.1 ha with h|h
   ·exact hL.ok a (List.mem_of_mem_take h)
   ·rcases List.mem_append.1 h with h|h
    ·exact hL2.ok a h
    ·exact hL.ok a (List.mem_of_mem_drop h)⟩
  refine ow_nil ?_
  refine xw_np<|xw_then<|qs<|qm<|qa<|qt ?_
  refine cw_ret ?_
  refine xw_then_ret ?_
  refine ret1 rfl (res_tmp rfl) ?_
  exact⟨(ao40,cap40,c54),by rw[hlen],hLf,zcov⟩
 ·have hX:=fm_len (f:=enR.f) (k:=2) (l:=l) fun a ha=>rTy.len a (hL.ok a ha)
  have hV:=fm_len (f:=enR.f) (k:=2) (l:=l2) fun a ha=>rTy.len a (hL2.ok a ha)
  have h2:IsSl 137 2 (.slice (cutA ao cap i 2) (l.length-i) (cap-i)) c (l.length-i) ((l.flatMap enR.f).drop (i*2)):=hL.sl.drop' hi
  obtain⟨ys,hys,hg⟩:=IsSl.grow (e:=137) (size:=2) hL.sl (k:=l.length+l2.length) zom zom
  have h3:IsSl 137 2 (.slice (cutA ao cap (i+l2.length) 2) (l.length+l2.length-(i+l2.length)) (cap-(i+l2.length))) c (l.length+l2.length-(i+l2.length)) ((l.flatMap enR.f++ys).drop ((i+l2.length)*2)):=hg.drop' zom
  refine ow_overlaps (tR:=4) (size:=2) (e:=137) rfl rfl Tryz.func126 rfl rfl (by kernel_rfl) (by kernel_rfl) Tryz.underlying77 rTy.size (by decide) rfl rfl hL2.sl h3 zom zom (fun p=>by have:=hc3 c p;simp only[List.flatten_cons,List.flatten_nil,List.append_nil,cnt_append]at *;omega) ?_
  refine qv (v_not_false rfl)<|qt ?_
  refine cw_true rfl<|cw_seq ?_
  refine cw_mix [] [8] [0,1,2,3,4,5,6,7] Ty.mixed rfl rfl rfl rfl zdk ?_
  refine hmv ?_
  refine hmv ?_
  refine hmv ?_
  refine hw_pure rfl rfl (v_add rfl rfl (nw_i64 zom zom)) rfl ?_
  refine hw_pure rfl rfl (v_slice_ln Tryz.underlying77 Ty.el77 rfl rfl rfl zom) rfl ?_
  refine hmv ?_
  refine hmv ?_
  refine hw_pure rfl rfl (v_slice_ln Tryz.underlying77 Ty.el77 rfl rfl rfl zom) rfl ?_
  refine hw_nil ?_
  refine sw_nil ?_
  have hr3:Reads Tryz.prog (St B w0 (c::F)) 2 (.slice (cutA ao cap i 2) (l.length+l2.length-i) (cap-i)) (l.length-i) (((l.flatMap enR.f++ys).drop (i*2)).take ((l.length-i)*2)):=(IsSl.drop' hg (l:=i) zom).readsR Sub.here zom
  have hcells:((l.flatMap enR.f++ys).drop (i*2)).take ((l.length-i)*2)=(l.flatMap enR.f).drop (i*2):=by
   rw[List.drop_append_of_le_length (by rw[hX];omega),List.take_append_of_le_length (by rw[List.length_drop,hX];omega),List.take_of_length_le (by rw[List.length_drop,hX];omega)]
  rw[hcells]at hr3
  have hone:∀u∈(l.flatMap enR.f).drop (i*2),u.oneCell'=true:=fun u hu=>enc_one rTy hL.ok u (List.mem_of_mem_drop hu)
  refine ow_copyL (k:=i+l2.length) (n:=l.length+l2.length) (size:=2) (m:=l.length-i) rfl rfl rfl Tryz.underlying77 rTy.size rfl rfl (by simp only[Nat.min_def];split<;>omega) zom hg hr3 hone .here ?_
  intro c77 h77
  refine ow_nil ?_
  refine xw_np<|xw_then<|qs<|qm<|qm ?_
  refine qv (v_slice_ln Tryz.underlying77 Ty.el77 rfl rfl rfl zom)<|qm ?_
  have hr2:∀c',Reads Tryz.prog (St B w0 (c'::F)) 2 (.slice ao2 l2.length cap2) l2.length (l2.flatMap enR.f):=fun c'=>(hL2.vw (cov_sub (hc3 c'))).reads_all rTy
  refine ow_copyL (k:=i) (n:=l.length+l2.length) (size:=2) (m:=l2.length) rfl rfl rfl Tryz.underlying77 rTy.size rfl rfl (by simp only[Nat.min_def];split<;>omega) zom h77 (hr2 _) (enc_one rTy hL2.ok) .here ?_
  intro c82 h82
  have hfin:=ins_eq (A:=(l.flatMap enR.f).take (i*2)) (Bl:=(l.flatMap enR.f).drop (i*2)) (ys:=ys) (V:=l2.flatMap enR.f) (a:=i*2) (b:=(l.length-i)*2) (m:=l2.length*2) (by rw[List.length_take,hX];omega) (by rw[List.length_drop,hX];omega) (by rw[hys];omega)
  rw[List.take_append_drop]at hfin
  simp only[Nat.add_mul]at h82 hfin
  rw[hfin,fm_take (f:=enR.f) (k:=2) i (fun a ha=>rTy.len a (hL.ok a ha)),fm_drop (f:=enR.f) (k:=2) i (fun a ha=>rTy.len a (hL.ok a ha))]at h82
  have hlen:(l.take i++(l2++l.drop i)).length=l.length+l2.length:=by rw[List.length_append,List.length_append,List.length_take,List.length_drop];omega
  have hLf:Ls enR 137 (.slice ao (l.take i++(l2++l.drop i)).length cap) c82 (l.take i++(l2++l.drop i)):=⟨by rw[hlen,List.flatMap_append,List.flatMap_append];exact h82,fun a ha=>by
   rcases List.mem_append.1 ha with h|h
   ·exact hL.ok a (List.mem_of_mem_take h)
   ·rcases List.mem_append.1 h with h|h
    ·exact hL2.ok a h
    ·exact hL.ok a (List.mem_of_mem_drop h)⟩
  refine qt<|qs<|qm<|qa<|qt ?_
  refine cw_ret ?_
  refine xw_then_ret ?_
  refine ret1 rfl (res_tmp rfl) ?_
  exact⟨(ao,cap,c82),by rw[hlen],hLf,zcov⟩
theorem insertR0_c {ao ao2:Option Addr}{n cap cap2 i:Nat}{x:Int}(hx:x=(i:Int))(hi:i≤n)(hn:n≤cap)(hb:n≤100000000):
  Go.Sl.Fn Tryz.prog 125 #[.slice ao n cap,.int .i64 x,.slice ao2 0 cap2] B w0 G fun u G'=>u=.slice ao n cap∧G'=G:=by
 subst hx
 refine Fn.pure ?_
 refine fn_enter Tryz.func125 rfl (by kernel_rfl) Tryz.ntmps125 (by simp) ?_
 refine qs<|qa<|qt<|qs<|qm<|qm ?_
 refine qv (v_slice_ln Tryz.underlying77 Ty.el77 rfl rfl rfl zom)<|qt<|qs<|qm ?_
 refine qv (v_len rfl Tryz.underlying77 rfl)<|qa ?_
 refine qt<|cw_seq<|qs<|qm ?_
 refine qv (v_eql rfl rfl)<|qt ?_
 refine cw_true rfl<|qs<|qm<|qa<|qt ?_
 refine cw_ret ?_
 refine xw_then_ret ?_
 refine ret1 rfl (res_tmp rfl) ?_
 exact⟨rfl,zcov⟩
theorem replaceR_c {v v2:Value}{c c2:Hp}{l l2}{i j:Nat}{x y:Int}(hx:x=(i:Int))(hy:y=(j:Int))(hs:Sel G c R)(hL:Ls enR 137 v c l)(hL2:Ls enR 137 v2 c2 l2)(hc2:Cov [c,c2] G)(hij:i≤j)(hj:j≤l.length)(hb:l.length+l2.length≤100000000):
  Go.Sl.Fn Tryz.prog 111 #[v,.int .i64 x,.int .i64 y,v2] B w0 G fun u G'=>∃x:Option Addr×Nat×Hp,u=.slice x.1 (l.take i++(l2++l.drop j)).length x.2.1∧Ls enR 137 (.slice x.1 (l.take i++(l2++l.drop j)).length x.2.1) x.2.2 (l.take i++(l2++l.drop j))∧G'=R x.2.2:=by
 subst hx
 subst hy
 refine Fn.sel0 hs fun F hR _=>?_
 have hc3:∀c',Cov [c',c2] (c'::F):=fun c'=>cov_swap hs hR hc2
 obtain⟨ao,cap,rfl,hcap⟩:=hL.view
 obtain⟨ao2,cap2,rfl,hcap2⟩:=hL2.view
 have hlen:(l.take i++(l2++l.drop j)).length=i+l2.length+(l.length-j):=by rw[List.length_append,List.length_append,List.length_take,List.length_drop];omega
 have hokR:∀a∈l.take i++(l2++l.drop j),enR.ok a:=fun a ha=>by
  rcases List.mem_append.1 ha with h|h
  ·exact hL.ok a (List.mem_of_mem_take h)
  ·rcases List.mem_append.1 h with h|h
   ·exact hL2.ok a h
   ·exact hL.ok a (List.mem_of_mem_drop h)
 have hX:=fm_len (f:=enR.f) (k:=2) (l:=l) fun a ha=>rTy.len a (hL.ok a ha)
 have hV:=fm_len (f:=enR.f) (k:=2) (l:=l2) fun a ha=>rTy.len a (hL2.ok a ha)
 refine fn_enter Tryz.func111 rfl (by kernel_rfl) Tryz.ntmps111 (by simp) ?_
 refine qs<|qa<|qt<|qs<|qm<|qm<|qm ?_
 refine qv (v_slice_lh Tryz.underlying77 Ty.el77 rfl rfl rfl rfl rfl zom zom)<|qt<|cw_seq<|qs<|qm ?_
 refine qm ?_
 refine qv (v_eql rfl rfl)<|qt ?_
 refine cw_dec rfl (fun hc21=>?_) (fun hc21=>?_)
 refine qs<|qm<|qm<|qm ?_
 rotate_left
 refine cw_skip<|xw_then<|cw_seq<|qs<|qm<|qm ?_
 refine qv (v_len rfl Tryz.underlying77 rfl) ?_
 refine qv (v_eql rfl rfl)<|qt ?_
 refine cw_dec rfl (fun hc29=>?_) (fun hc29=>?_)
 refine qs<|qm<|qm ?_
 refine qv (v_slice_nh Tryz.underlying77 Ty.el77 rfl rfl rfl zom)<|qm ?_
 rotate_left
 refine cw_skip<|xw_then<|cw_seq ?_
 refine cw_quiet Ty.mixed zdk ?_
 refine kmv ?_
 refine kmv ?_
 refine kv (v_slice_nh Tryz.underlying77 Ty.el77 rfl rfl rfl zom) ?_
 refine kv (v_len rfl Tryz.underlying77 rfl) ?_
 refine kmv ?_
 refine kv (v_len rfl Tryz.underlying77 rfl) ?_
 refine kv (v_add rfl rfl (nw_i64 zom zom)) ?_
 refine kmv ?_
 refine kmv ?_
 refine kv (v_slice_ln Tryz.underlying77 Ty.el77 rfl rfl rfl zom) ?_
 refine kv (v_len rfl Tryz.underlying77 rfl) ?_
 refine kv (v_add rfl rfl (nw_i64 zom zom)) ?_
 refine kv (v_assign rfl) ?_
 refine kw_nil<|xw_then<|cw_seq<|qs<|qm<|qm ?_
 refine qv (v_cap rfl Tryz.underlying77 rfl) ?_
 refine qv (v_gtr rfl rfl)<|qt ?_
 refine cw_dec rfl (fun hc60=>?_) (fun hc60=>?_)
 refine qs<|qm<|qm ?_
 refine qv (v_slice_nh Tryz.underlying77 Ty.el77 rfl rfl rfl zom)<|qm<|qm ?_
 refine qv (v_sub rfl rfl (nw_i64 zom zom)) ?_
 rotate_left
 refine cw_skip<|xw_then<|qs<|qm<|qm ?_
 refine qv (v_slice_nh Tryz.underlying77 Ty.el77 rfl rfl rfl zom)<|qa<|qt<|cw_seq<|qs<|qm<|qm ?_
 refine qv (v_len rfl Tryz.underlying77 rfl) ?_
 refine qv (v_add rfl rfl (nw_i64 zom zom))<|qm ?_
 refine qv (v_leq rfl rfl)<|qt ?_
 refine cw_dec rfl (fun hc92=>?_) (fun hc92=>?_)
 refine qs<|qm<|qm ?_
 refine qv (v_slice_ln Tryz.underlying77 Ty.el77 rfl rfl rfl zom)<|qm ?_
 rotate_left
 refine cw_skip<|xw_then<|cw_seq<|qs<|qm<|qm<|qm ?_
 refine qv (v_len rfl Tryz.underlying77 rfl) ?_
 refine qv (v_add rfl rfl (nw_i64 zom zom)) ?_
 refine qv (v_slice_ln Tryz.underlying77 Ty.el77 rfl rfl rfl zom)<|qm ?_
 rotate_left
 ·have hij':i=j:=by omega
  subst hij'
  by_cases h0:l2=[]
  ·subst h0
   refine qv (v_call rfl rfl (insertR0_c rfl zom hcap zom))<|qa<|qt ?_
   refine cw_ret ?_
   refine xw_then_ret ?_
   refine ret1 rfl (res_tmp rfl) ?_
   exact⟨(ao,cap,c),by simp,by simpa using hL,zcov⟩
  ·have h1:0<l2.length:=List.length_pos_iff.2 h0
   (refine ow_call rfl rfl rfl rfl (insertR_c (i:=i) (l2:=l2) rfl zsel hL hL2 (hc3 c) h1 zom zom) ?_;rintro _ _ ⟨x25,rfl,hq25,rfl⟩)
   refine qa<|qt ?_
   refine cw_ret ?_
   refine xw_then_ret ?_
   refine ret1 rfl (res_tmp rfl) ?_
   exact⟨x25,rfl,hq25,zcov⟩
 ·have hjl:l.drop j=[]:=List.drop_eq_nil_of_le zom
  have hL1:=hL.take rTy (m:=i) zom
  have hV2:Vw enR (St B w0 (c::F)) (.slice ao2 l2.length cap2) l2:=hL2.vw (cov_sub (hc3 c))
  rw[hjl,List.append_nil]
  rw[hjl,List.append_nil]at hlen
  by_cases hroom:i+l2.length≤cap
  ·refine ow_appendL_room rfl rfl Tryz.underlying77 Tryz.underlying77 rTy rfl rfl hL1 .here hV2 (by rw[List.length_take];omega) ?_
   intro c34 hL34
   refine qa<|qt<|cw_seq<|qs<|qm ?_
   refine qv (v_len rfl Tryz.underlying77 rfl)<|qm ?_
   refine qv (v_len rfl Tryz.underlying77 rfl) ?_
   refine qv (v_lss rfl rfl)<|qt ?_
   refine cw_dec rfl (fun hc39=>?_) (fun hc39=>?_)
   refine cw_region<|qm<|qm ?_
   refine qv (v_len rfl Tryz.underlying77 rfl) ?_
   refine qv (v_slice_ln Tryz.underlying77 Ty.el77 rfl rfl rfl zom) ?_
   rotate_left
   refine cw_skip<|xw_then<|qs<|qm<|qa<|qt ?_
   refine cw_ret ?_
   refine xw_then_ret ?_
   refine ret1 rfl (res_tmp rfl) ?_
   rotate_left
   ·refine ow_clearL (En:=enR) (e:=137) rfl Tryz.underlying77 Ty.em77 Ty.zo77 rfl zom hL34 .here ?_
    intro c43 hL43
    refine qt<|qs<|qm<|qa<|qt ?_
    refine cw_ret ?_
    refine xw_then_ret ?_
    refine ret1 rfl (res_tmp rfl) ?_
    exact⟨(ao,cap,c43),rfl,hL43,zcov⟩
   ·exact⟨(ao,cap,c34),rfl,hL34,zcov⟩
  ·(refine ow_appendL rfl rfl Tryz.underlying77 Tryz.underlying77 Ty.em77 (rTy) rfl rfl zas zsel (hV2) zlo zlo ?_;intro ao34 cap34 c34 hL34)
   refine qa<|qt<|cw_seq<|qs<|qm ?_
   refine qv (v_len rfl Tryz.underlying77 rfl)<|qm ?_
   refine qv (v_len rfl Tryz.underlying77 rfl) ?_
   refine qv (v_lss rfl rfl)<|qt ?_
   refine cw_dec rfl (fun hc39=>?_) (fun hc39=>?_)
   (exfalso;omega)
   refine cw_skip<|xw_then<|qs<|qm<|qa<|qt ?_
   refine cw_ret ?_
   refine xw_then_ret ?_
   refine ret1 rfl (res_tmp rfl) ?_
   exact⟨(ao34,cap34,c34),rfl,hL34,zcov⟩
 ·have h1:IsSl 137 2 (.slice ao i cap) c i ((l.flatMap enR.f).take (i*2)):=hL.sl.take' zom
  have h2:IsSl 137 2 (.slice (cutA ao cap j 2) (l.length-j) (cap-j)) c (l.length-j) ((l.flatMap enR.f).drop (j*2)):=hL.sl.drop' hj
  refine ow_appendZ (m:=l2.length+(l.length-j)) rfl rfl Tryz.underlying77 Tryz.underlying3 Ty.em77 rfl rfl zom zom h1 .here zom zom zom ?_
  intro ao67 cap67 c67 ys hys hcap67 h67
  refine qa<|qt<|qs<|qm<|qm ?_
  refine qv (v_slice_ln Tryz.underlying77 Ty.el77 rfl rfl rfl zom)<|qm ?_
  have hr2:∀c',Reads Tryz.prog (St B w0 (c'::c::F)) 2 (.slice ao2 l2.length cap2) l2.length (l2.flatMap enR.f):=fun c'=>(hL2.vw (cov_sub (hc3 c)).there).reads_all rTy
  refine ow_copyD (k:=i) (n:=i+(l2.length+(l.length-j))) (size:=2) (m:=l2.length) rfl rfl rfl Tryz.underlying77 rTy.size rfl rfl (by simp only[Nat.min_def];split<;>omega) zom h67 (hr2 _) (enc_one rTy hL2.ok) .here ?_
  intro c72 h72
  refine qt<|cw_seq ?_
  refine cw_mix [] [9] [0,1,2,3,4,5,6,7,8] Ty.mixed rfl rfl rfl rfl zdk ?_
  refine hmv ?_
  refine hmv ?_
  refine hmv ?_
  refine hw_pure rfl rfl (v_len rfl Tryz.underlying77 rfl) rfl ?_
  refine hw_pure rfl rfl (v_add rfl rfl (nw_i64 zom zom)) rfl ?_
  refine hw_pure rfl rfl (v_slice_ln Tryz.underlying77 Ty.el77 rfl rfl rfl zom) rfl ?_
  refine hmv ?_
  refine hmv ?_
  refine hw_pure rfl rfl (v_slice_ln Tryz.underlying77 Ty.el77 rfl rfl rfl zom) rfl ?_
  refine hw_nil ?_
  refine sw_nil ?_
  have hr3:Reads Tryz.prog (St B w0 (c72::c::F)) 2 (.slice (cutA ao cap j 2) (l.length-j) (cap-j)) (l.length-j) ((l.flatMap enR.f).drop (j*2)):=h2.readsA Sub.here.there
  have hone:∀u∈(l.flatMap enR.f).drop (j*2),u.oneCell'=true:=fun u hu=>enc_one rTy hL.ok u (List.mem_of_mem_drop hu)
  refine ow_copyD (k:=i+l2.length) (n:=i+(l2.length+(l.length-j))) (size:=2) (m:=l.length-j) rfl rfl rfl Tryz.underlying77 rTy.size rfl rfl (by simp only[Nat.min_def];split<;>omega) zom h72 hr3 hone .here ?_
  intro c82 h82
  have hfin:=ins_eq2 (A:=(l.flatMap enR.f).take (i*2)) (Bl:=(l.flatMap enR.f).drop (j*2)) (ys:=ys) (V:=l2.flatMap enR.f) (a:=i*2) (b:=(l.length-j)*2) (m:=l2.length*2) (by rw[List.length_take,hX];omega) (by rw[List.length_drop,hX];omega) (by rw[hys];omega) hV
  rw[←Nat.add_mul]at h82 hfin
  rw[hfin,fm_take (f:=enR.f) (k:=2) i (fun a ha=>rTy.len a (hL.ok a ha)),fm_drop (f:=enR.f) (k:=2) j (fun a ha=>rTy.len a (hL.ok a ha))]at h82
  have hLf:Ls enR 137 (.slice ao67 (l.take i++(l2++l.drop j)).length cap67) c82 (l.take i++(l2++l.drop j)):=⟨by rw[hlen,List.flatMap_append,List.flatMap_append,Nat.add_assoc];exact h82,hokR⟩
  refine ow_nil ?_
  refine xw_np<|xw_then<|qs<|qm<|qa<|qt ?_
  refine cw_ret ?_
  refine xw_then_ret ?_
  refine ret1 rfl (res_tmp rfl) ?_
  exact⟨(ao67,cap67,c82),by rw[hlen,Nat.add_assoc],hLf,zcov⟩
 ·have hsplit:l.flatMap enR.f=(l.flatMap enR.f).take (i*2)++(((l.flatMap enR.f).drop (i*2)).take ((j-i)*2)++(l.flatMap enR.f).drop (j*2)):=by
   have h1:(l.flatMap enR.f).drop (j*2)=((l.flatMap enR.f).drop (i*2)).drop ((j-i)*2):=by rw[List.drop_drop];congr 1;omega
   rw[h1,List.take_append_drop,List.take_append_drop]
  have hr2:∀c',Reads Tryz.prog (St B w0 (c'::F)) 2 (.slice ao2 l2.length cap2) l2.length (l2.flatMap enR.f):=fun c'=>(hL2.vw (cov_sub (hc3 c'))).reads_all rTy
  obtain⟨q1,q2⟩:=rep_eq4 (A:=(l.flatMap enR.f).take (i*2)) (M:=((l.flatMap enR.f).drop (i*2)).take ((j-i)*2)) (C:=(l.flatMap enR.f).drop (j*2)) (V:=l2.flatMap enR.f) (a:=i*2) (v:=l2.length*2) (c:=(l.length-j)*2) (mm:=(j-i)*2) (by rw[List.length_take,hX];omega) hV (by rw[List.length_drop,hX];omega) (by rw[List.length_take,List.length_drop,hX];omega) zom
  rw[←hsplit]at q1 q2
  refine ow_copyD (k:=i) (n:=l.length) (size:=2) (m:=l2.length) rfl rfl rfl Tryz.underlying77 rTy.size rfl rfl (by simp only[Nat.min_def];split<;>omega) zom hL.sl (hr2 _) (enc_one rTy hL2.ok) .here ?_
  intro c97 h97
  refine qt<|cw_seq ?_
  refine cw_mix [] [9] [0,1,2,3,4,5,6,7,8] Ty.mixed rfl rfl rfl rfl zdk ?_
  refine hmv ?_
  refine hmv ?_
  refine hmv ?_
  refine hw_pure rfl rfl (v_len rfl Tryz.underlying77 rfl) rfl ?_
  refine hw_pure rfl rfl (v_add rfl rfl (nw_i64 zom zom)) rfl ?_
  refine hw_pure rfl rfl (v_slice_ln Tryz.underlying77 Ty.el77 rfl rfl rfl zom) rfl ?_
  refine hmv ?_
  refine hmv ?_
  refine hw_pure rfl rfl (v_slice_ln Tryz.underlying77 Ty.el77 rfl rfl rfl zom) rfl ?_
  refine hw_nil ?_
  refine sw_nil ?_
  have h97d:=h97.drop' hj
  rw[show i*2+(j-i)*2=j*2 by omega]at q1
  rw[q1]at h97d
  have hr3:Reads Tryz.prog (St B w0 (c97::F)) 2 (.slice (cutA ao cap j 2) (l.length-j) (cap-j)) (l.length-j) ((l.flatMap enR.f).drop (j*2)):=h97d.readsA Sub.here
  have hone:∀u∈(l.flatMap enR.f).drop (j*2),u.oneCell'=true:=fun u hu=>enc_one rTy hL.ok u (List.mem_of_mem_drop hu)
  refine ow_copyD (k:=i+l2.length) (n:=l.length) (size:=2) (m:=l.length-j) rfl rfl rfl Tryz.underlying77 rTy.size rfl rfl (by simp only[Nat.min_def];split<;>omega) zom h97 hr3 hone .here ?_
  intro c107 h107
  have h107t:=h107.take' (m:=i+l2.length+(l.length-j)) zom
  rw[show (i+l2.length)*2=i*2+l2.length*2 by omega,show (i+l2.length+(l.length-j))*2=i*2+l2.length*2+(l.length-j)*2 by omega,q2,fm_take (f:=enR.f) (k:=2) i (fun a ha=>rTy.len a (hL.ok a ha)),fm_drop (f:=enR.f) (k:=2) j (fun a ha=>rTy.len a (hL.ok a ha))]at h107t
  have hLf:Ls enR 137 (.slice ao (l.take i++(l2++l.drop j)).length cap) c107 (l.take i++(l2++l.drop j)):=⟨by rw[hlen,List.flatMap_append,List.flatMap_append];exact h107t,hokR⟩
  refine ow_nil ?_
  refine xw_np<|xw_then<|qs<|qm<|qm ?_
  refine qv (v_slice_ln Tryz.underlying77 Ty.el77 rfl rfl rfl zom) ?_
  have hcl:∀{z:Nat},z=i+l2.length+(l.length-j)→Ls enR 137 (.slice ao z cap) c107 (l.take i++(l2++l.drop j)):=fun hz=>by rw[hz,←hlen];exact hLf
  refine ow_clearL (En:=enR) (e:=137) rfl Tryz.underlying77 Ty.em77 Ty.zo77 rfl zom (hcl zom) .here ?_
  intro c110 hL110
  refine qt<|qs<|qm<|qa<|qt ?_
  refine cw_ret ?_
  refine xw_then_ret ?_
  refine ret1 rfl (res_tmp rfl) ?_
  have hLz:Ls enR 137 (.slice ao (l.take i++(l2++l.drop j)).length cap) c110 (l.take i++(l2++l.drop j)):=by
   have h:=hL110
   rw[h.len]at h
   exact h
  exact⟨(ao,cap,c110),by rw[hlen],hLz,zcov⟩
 ·obtain⟨ys,hys,hg⟩:=IsSl.grow (e:=137) (size:=2) hL.sl (k:=i+l2.length+(l.length-j)) zom zom
  have h3:IsSl 137 2 (.slice (cutA ao cap (i+l2.length) 2) (i+l2.length+(l.length-j)-(i+l2.length)) (cap-(i+l2.length))) c (i+l2.length+(l.length-j)-(i+l2.length)) ((l.flatMap enR.f++ys).drop ((i+l2.length)*2)):=hg.drop' zom
  have h3':∀{z:Nat},z=i+l2.length+(l.length-j)-(i+l2.length)→IsSl 137 2 (.slice (cutA ao cap (i+l2.length) 2) z (cap-(i+l2.length))) c z ((l.flatMap enR.f++ys).drop ((i+l2.length)*2)):=fun hz=>by rw[hz];exact h3
  refine ow_overlaps (tR:=4) (size:=2) (e:=137) rfl rfl Tryz.func126 rfl rfl (by kernel_rfl) (by kernel_rfl) Tryz.underlying77 rTy.size (by decide) rfl rfl (h3' zom) hL2.sl zom zom (fun p=>by have:=hc3 c p;simp only[List.flatten_cons,List.flatten_nil,List.append_nil,cnt_append]at *;omega) ?_
  refine qv (v_not_false rfl)<|qt ?_
  refine cw_true rfl<|cw_seq ?_
  refine cw_mix [] [9] [0,1,2,3,4,5,6,7,8] Ty.mixed rfl rfl rfl rfl zdk ?_
  refine hmv ?_
  refine hmv ?_
  refine hmv ?_
  refine hw_pure rfl rfl (v_len rfl Tryz.underlying77 rfl) rfl ?_
  refine hw_pure rfl rfl (v_add rfl rfl (nw_i64 zom zom)) rfl ?_
  refine hw_pure rfl rfl (v_slice_ln Tryz.underlying77 Ty.el77 rfl rfl rfl zom) rfl ?_
  refine hmv ?_
  refine hmv ?_
  refine hw_pure rfl rfl (v_slice_ln Tryz.underlying77 Ty.el77 rfl rfl rfl zom) rfl ?_
  refine hw_nil ?_
  refine sw_nil ?_
  have hsplit:l.flatMap enR.f=(l.flatMap enR.f).take (i*2)++(((l.flatMap enR.f).drop (i*2)).take ((j-i)*2)++(l.flatMap enR.f).drop (j*2)):=by
   have h1:(l.flatMap enR.f).drop (j*2)=((l.flatMap enR.f).drop (i*2)).drop ((j-i)*2):=by rw[List.drop_drop];congr 1;omega
   rw[h1,List.take_append_drop,List.take_append_drop]
  have q:=rep_eq5 (A:=(l.flatMap enR.f).take (i*2)) (M:=((l.flatMap enR.f).drop (i*2)).take ((j-i)*2)) (C:=(l.flatMap enR.f).drop (j*2)) (V:=l2.flatMap enR.f) (ys:=ys) (a:=i*2) (v:=l2.length*2) (c:=(l.length-j)*2) (by rw[List.length_take,hX];omega) hV (by rw[List.length_drop,hX];omega) (by rw[List.length_take,List.length_drop,hX];omega) (by rw[List.length_take,List.length_drop,hX,hys];omega)
  rw[←hsplit]at q
  have hr3:Reads Tryz.prog (St B w0 (c::F)) 2 (.slice (cutA ao cap j 2) (l.length-j) (cap-j)) (l.length-j) ((l.flatMap enR.f).drop (j*2)):=(IsSl.drop' hL.sl hj).readsA Sub.here
  have hone:∀u∈(l.flatMap enR.f).drop (j*2),u.oneCell'=true:=fun u hu=>enc_one rTy hL.ok u (List.mem_of_mem_drop hu)
  refine ow_copyD (k:=i+l2.length) (n:=i+l2.length+(l.length-j)) (size:=2) (m:=l.length-j) rfl rfl rfl Tryz.underlying77 rTy.size rfl rfl (by simp only[Nat.min_def];split<;>omega) zom hg hr3 hone .here ?_
  intro c130 h130
  refine ow_nil ?_
  refine xw_np<|xw_then<|qs<|qm<|qm ?_
  refine qv (v_slice_ln Tryz.underlying77 Ty.el77 rfl rfl rfl zom)<|qm ?_
  have hr2:∀c',Reads Tryz.prog (St B w0 (c'::F)) 2 (.slice ao2 l2.length cap2) l2.length (l2.flatMap enR.f):=fun c'=>(hL2.vw (cov_sub (hc3 c'))).reads_all rTy
  refine ow_copyD (k:=i) (n:=i+l2.length+(l.length-j)) (size:=2) (m:=l2.length) rfl rfl rfl Tryz.underlying77 rTy.size rfl rfl (by simp only[Nat.min_def];split<;>omega) zom h130 (hr2 _) (enc_one rTy hL2.ok) .here ?_
  intro c135 h135
  rw[show (i+l2.length)*2=i*2+l2.length*2 by omega,q,fm_take (f:=enR.f) (k:=2) i (fun a ha=>rTy.len a (hL.ok a ha)),fm_drop (f:=enR.f) (k:=2) j (fun a ha=>rTy.len a (hL.ok a ha))]at h135
  have hLf:Ls enR 137 (.slice ao (l.take i++(l2++l.drop j)).length cap) c135 (l.take i++(l2++l.drop j)):=⟨by rw[hlen,List.flatMap_append,List.flatMap_append];exact h135,hokR⟩
  refine qt<|qs<|qm<|qa<|qt ?_
  refine cw_ret ?_
  refine xw_then_ret ?_
  refine ret1 rfl (res_tmp rfl) ?_
  exact⟨(ao,cap,c135),by rw[hlen],hLf,zcov⟩
theorem search_c {n k:Nat}{f:FuncId}{cs:List Value}{p:Nat→Bool}(hn:n≤100000000)(hk:k≤n)(hlo:∀i,i<k→p i=false)(hhi:∀i,k≤i→i<n→p i=true)
  (hf:∀i,i<n→Go.Sl.Fn Tryz.prog f ([]++[Value.int .i64 (i:Int)]++cs).toArray B w0 G fun u G'=>u=.bool (p i)∧G'=G):
  Go.Sl.Fn Tryz.prog 42 #[.int .i64 n,.func (.func f) #[] cs.toArray] B w0 G fun u G'=>u=.int .i64 k∧G'=G:=by
 refine Fn.pure ?_
 refine fn_enter Tryz.func42 rfl (by kernel_rfl) Tryz.ntmps42 (by simp) ?_
 refine qs<|qa<|qt<|qs<|qm<|qa<|qa<|qt<|cw_seq ?_
 refine cw_block ?_
 refine cw_loop2 (ι:=((Nat×Nat))) [(1,_),(4,_)] ⟨rfl,rfl,trivial⟩ ((fun x=>[(5,.int .i64 x.1),(6,.int .i64 x.2)])) ((fun x=>x.1≤k∧k≤x.2∧x.2≤n)) ((fun x=>x.2-x.1)) ((fun _=>G)) (((0,n):Nat×Nat)) zenv zcov ?_ ?_
 ·exact⟨Nat.zero_le _,hk,Nat.le_refl _⟩
 rintro⟨i,j⟩ ⟨hi,hj,hjn⟩
 dsimp only at hi hj hjn⊢
 refine cw_seq<|qs<|qm<|qm ?_
 refine qv (v_lss rfl rfl)<|qt ?_
 refine cw_dec rfl (fun hc11=>?_) (fun hc11=>?_)
 refine cw_skip<|xw_then ?_
 refine cw_block<|qs<|qm<|qm ?_
 refine qv (v_add rfl rfl (nw_i64 zom zom)) ?_
 refine qv (v_convert Tryz.underlying3 Tryz.underlying99 rfl (nw_u64 zom zom)) ?_
 refine qv (v_shr rfl rfl zom rfl) ?_
 refine qv (v_convert Tryz.underlying99 Tryz.underlying3 rfl rfl)<|qa<|qt ?_
 rotate_left
 refine cw_exit ?_
 refine xw_then_exit ?_
 refine xw_round_exit ?_
 refine xw_block_exit<|xw_then<|qs<|qm<|qa<|qt ?_
 refine cw_ret ?_
 refine ret1 rfl (res_tmp rfl) ?_
 rotate_left
 ·have hh:(i+j)/2<n:=by omega
  have he:IntKind.i64.wrap (((i:Int)+(j:Int)).fdiv (2 ^ min (Int.toNat 1) IntKind.u64.bits))=(((i+j)/2:Nat):Int):=by
   have h2:(2:Int) ^ min (Int.toNat 1) IntKind.u64.bits=2:=by decide
   rw[h2,Int.fdiv_eq_ediv_of_nonneg _ (by decide),nw_i64 zom zom]
   omega
  rw[he]
  refine qs<|qm<|qm ?_
  refine ow_val rfl rfl (v_call rfl rfl (hf ((i+j)/2) hh)) ?_
  refine qv (v_not_bool rfl)<|qt ?_
  refine cw_bool rfl (fun hc21=>?_) (fun hc21=>?_)
  refine cw_region<|qm ?_
  refine qv (v_add rfl rfl (nw_i64 zom zom))<|qa<|ow_nil ?_
  refine xw_block ?_
  rotate_left
  refine cw_region<|qm<|qa<|ow_nil ?_
  refine xw_block ?_
  rotate_left
  ·have hik:(i+j)/2+1≤k:=by
    refine Nat.lt_of_not_le fun h=>?_
    have:=hhi _ h hh
    rw[this]at hc21
    cases hc21
   exact xw_round (((i+j)/2+1,j):Nat×Nat) ⟨hik,hj,hjn⟩ zdo zcov zenv
  ·have hik:k≤(i+j)/2:=by
    refine Nat.le_of_not_lt fun h=>?_
    have:=hlo _ h
    rw[this]at hc21
    cases hc21
   exact xw_round ((i,(i+j)/2):Nat×Nat) ⟨hi,hik,by dsimp only;omega⟩ zdo zcov zenv
 ·refine⟨?_,zcov⟩
  rw[show i=k by omega]
end Go.Proofs.YtnlaffkihohfkaaGreat
namespace Go.Proofs.YtnlaffkihohfkaaGreat
open Go Go.Sl Go.Proofs
variable {B:Nat}{w0:World}{G:List Hp}{R:Hp→List Hp}
def SetAt (m:SetM)(b:Nat)(c:Hp):Prop:=∃ao cap cl,c=[(b,.cells [.int .i64 m.limit,.slice ao m.l.length cap].toArray 169 (0,0))]++cl∧Ls enR 137 (.slice ao m.l.length cap) cl m.l
structure SetM.WF (m:SetM):Prop where
 good:Good m.l
 len:m.l.length≤1000000
 lim: -9223372036854775808≤m.limit∧m.limit≤9223372036854775807
theorem b_set {m:Int}:Build Tryz.prog 169 #[(0,.int .i64 m)] (.agg [Value.int .i64 m,.slice none 0 0].toArray):=fun w=>by kernel_rfl
theorem b_rng {m n:Int}:Build Tryz.prog 137 #[(0,.int .u64 m),(1,.int .u64 n)] (.agg (Rg.cells ⟨m,n⟩).toArray):=fun w=>by kernel_rfl
theorem b_rng0:Build Tryz.prog 137 #[] (.agg (Rg.cells ⟨0,0⟩).toArray):=fun w=>by kernel_rfl
theorem ok_z:enR.ok ⟨0,0⟩:=by simp[enR,RgIn]
theorem len2 (e:Rg)(h:enR.ok e):e.cells.length=2:=rTy.len e h
theorem one2 (e:Rg)(h:enR.ok e):∀u∈e.cells,u.oneCell'=true:=rTy.one e h
theorem enR_f (x:Rg):enR.f x=[.int .u64 x.a,.int .u64 x.b]:=rfl
theorem one_lit (a b:Int):∀u∈[Value.int .u64 a,Value.int .u64 b],u.oneCell'=true:=fun u hu=>by
 simp only[List.mem_cons,List.not_mem_nil,or_false]at hu
 rcases hu with rfl|rfl<;>rfl
theorem empty_c {r:Rg}:
  Go.Sl.Fn Tryz.prog 108 #[enR.val r] B w0 G fun u G'=>u=.bool (decide (r.b≤r.a))∧G'=G:=by
 refine Fn.pure ?_
 refine fn_enter Tryz.func108 rfl (by kernel_rfl) Tryz.ntmps108 (by simp) ?_
 refine qs<|ow_box rfl rfl rfl rfl fun b1=>qa<|qt<|qs<|qf Ty.fd137_0<|ql (Var.at1 Ty.sc27 .here (GetN.lit rfl))<|qf Ty.fd137_1<|ql (Var.at1 Ty.sc27 .here (GetN.lit rfl))<|qv (v_geq rfl rfl)<|qa<|qt ?_
 refine cw_ret<|ret1 rfl (res_tmp rfl) ?_
 exact⟨rfl,zcov⟩
theorem newSet_c {limit:Int}:
  Go.Sl.Fn Tryz.prog 107 #[.int .i64 limit] B w0 G fun u G'=>∃x:Nat×Hp,u=.pointer (some ⟨x.1,0,none⟩)∧SetAt ⟨limit,[]⟩ x.1 x.2∧G'=[x.2]++G:=by
 refine Fn.new ?_
 refine fn_enter Tryz.func107 rfl (by kernel_rfl) Tryz.ntmps107 (by simp) ?_
 refine qs<|qa<|qt<|qs<|qm<|qv (v_build rfl (b_set))<|ow_box rfl rfl rfl rfl fun b5=>qa<|qt<|cw_ret<|ret1 rfl (res_tmp rfl) ?_
 exact⟨(b5,[(b5,_)]++[]),rfl,⟨none,0,[],rfl,Ls.nil⟩,zcov⟩
theorem most_c {m:SetM}{b:Nat}{c:Hp}(hO:SetAt m b c)(hs:Sub c G):
  Go.Sl.Fn Tryz.prog 110 #[.pointer (some ⟨b,0,none⟩)] B w0 G fun u G'=>u=.int .i64 (max m.limit 1)∧G'=G:=by
 refine Fn.pure ?_
 obtain⟨ao,cap,cl,rfl,hL⟩:=hO
 have hs1:=hs.left
 have hs2:=hs.right
 refine fn_enter Tryz.func110 rfl (by kernel_rfl) Tryz.ntmps110 (by simp) ?_
 refine qs<|qa<|qt<|qs<|qm<|qn<|qf Ty.fd169_0<|ql (Var.sub1 Ty.sc3 zthr (.head _) (GetN.lit rfl))<|qv (v_max rfl rfl)<|qa<|qt<|cw_ret ?_
 refine ret1 rfl (res_tmp rfl) ?_
 exact⟨rfl,zcov⟩
theorem setLen_c {m:SetM}{b:Nat}{c:Hp}(hO:SetAt m b c)(hs:Sub c G):
  Go.Sl.Fn Tryz.prog 72 #[.pointer (some ⟨b,0,none⟩)] B w0 G fun u G'=>u=.int .i64 m.l.length∧G'=G:=by
 refine Fn.pure ?_
 obtain⟨ao,cap,cl,rfl,hL⟩:=hO
 have hs1:=hs.left
 have hs2:=hs.right
 refine fn_enter Tryz.func72 rfl (by kernel_rfl) Tryz.ntmps72 (by simp) ?_
 refine qs<|qa<|qt<|cw_seq<|qs<|qm<|qv (v_eql_nil_some Tryz.underlying129 rfl)<|qt<|cw_false rfl<|cw_skip<|xw_then<|qs ?_
 refine qm<|qn<|qf Ty.fd169_1<|ql (Var.sub1 Ty.sc77 zthr (.head _) (GetN.lit rfl))<|qv (v_len rfl Tryz.underlying77 rfl)<|qa<|qt<|cw_ret<|ret1 rfl (res_tmp rfl) ?_
 exact⟨rfl,zcov⟩
theorem setList_c {m:SetM}{b:Nat}{c:Hp}(hO:SetAt m b c)(hs:Sub c G)(hw:m.WF):
  Go.Sl.Fn Tryz.prog 91 #[.pointer (some ⟨b,0,none⟩)] B w0 G fun u G'=>∃x:Option Addr×Nat×Hp,u=.slice x.1 m.l.length x.2.1∧Ls enR 137 (.slice x.1 m.l.length x.2.1) x.2.2 m.l∧G'=[x.2.2]++G:=by
 obtain⟨ao,cap,cl,rfl,hL⟩:=hO
 refine Fn.new ?_
 have hs1:=hs.left
 have hs2:=hs.right
 have h2:=hw.len
 refine fn_enter Tryz.func91 rfl (by kernel_rfl) Tryz.ntmps91 (by simp) ?_
 refine qs<|qa<|qt<|cw_seq<|qs<|qm<|qv (v_eql_nil_some Tryz.underlying129 rfl)<|qt<|cw_false rfl<|cw_skip<|xw_then<|qs ?_
 refine qm<|qn<|qf Ty.fd169_1<|ql (Var.sub1 Ty.sc77 zthr (.head _) (GetN.lit rfl)) ?_
 (refine ow_call rfl rfl rfl rfl (cloneR_c (hL.vw hs2) zom) ?_;rintro _ _ ⟨x9,rfl,hq9,rfl⟩)
 refine qa<|qt<|cw_ret<|ret1 rfl (res_tmp rfl) ?_
 exact⟨x9,rfl,hq9,zcov⟩
theorem ending1_c {m:SetM}{b b1 b2 i:Nat}{c:Hp}{n:Int}(hO:SetAt m b c)(hs:Sub c G)(h1:Sub [(b1,.cells [Value.pointer (some ⟨b,0,none⟩)].toArray 129 (0,0))] G)(h2:Sub [(b2,.cells [Value.int .u64 n].toArray 27 (0,0))] G)(hi:i<m.l.length):
  Go.Sl.Fn Tryz.prog 131 #[.int .i64 i,.pointer (some ⟨b1,0,none⟩),.pointer (some ⟨b2,0,none⟩)] B w0 G fun u G'=>u=.bool (decide (n≤m.l[i]!.b))∧G'=G:=by
 refine Fn.pure ?_
 obtain⟨ao,cap,cl,rfl,hL⟩:=hO
 have hs1:=hs.left
 have hs2:=hs.right
 rw[getElem!_pos m.l i hi]
 refine fn_enter Tryz.func131 rfl (by kernel_rfl) Tryz.ntmps131 (by simp) ?_
 refine qs<|qa<|qt<|cw_seq<|cw_quiet Ty.mixed zdk<|kv (v_load rfl (Var.sub1 Ty.sc129 zthr (.head _) (GetN.lit rfl)))<|kv (v_nilCheck rfl)<|kv (v_fieldAddr0 Ty.fd169_1 rfl)<|kv (v_load rfl (Var.sub1 Ty.sc77 zthr (.head _) (GetN.lit rfl)))<|kmv ?_
 refine kw_val rfl rfl (v_indexAddr_ls Tryz.underlying77 (rTy) rfl rfl zas rfl zom) ?_
 refine kv (v_fieldAddr Ty.fd137_1 rfl)<|kv (v_load rfl (Go.Sl.Vw.fld1 (rTy) Ty.sc27 (hL.vw hs2) zom rfl))<|kv (v_load rfl (Var.sub1 Ty.sc27 zthr (.head _) (GetN.lit rfl)))<|kv (v_geq rfl rfl)<|kv (v_assign rfl)<|kw_nil<|xw_then<|cw_ret<|ret1 rfl (res_tmp rfl) ?_
 exact⟨rfl,zcov⟩
theorem behind1_c {m:SetM}{b b1 b2 i:Nat}{c:Hp}{n:Int}(hO:SetAt m b c)(hs:Sub c G)(h1:Sub [(b1,.cells [Value.pointer (some ⟨b,0,none⟩)].toArray 129 (0,0))] G)(h2:Sub [(b2,.cells [Value.int .u64 n].toArray 27 (0,0))] G)(hi:i<m.l.length):
  Go.Sl.Fn Tryz.prog 129 #[.int .i64 i,.pointer (some ⟨b1,0,none⟩),.pointer (some ⟨b2,0,none⟩)] B w0 G fun u G'=>u=.bool (decide (n<m.l[i]!.b))∧G'=G:=by
 refine Fn.pure ?_
 obtain⟨ao,cap,cl,rfl,hL⟩:=hO
 have hs1:=hs.left
 have hs2:=hs.right
 rw[getElem!_pos m.l i hi]
 refine fn_enter Tryz.func129 rfl (by kernel_rfl) Tryz.ntmps129 (by simp) ?_
 refine qs<|qa<|qt<|cw_seq<|cw_quiet Ty.mixed zdk<|kv (v_load rfl (Var.sub1 Ty.sc129 zthr (.head _) (GetN.lit rfl)))<|kv (v_nilCheck rfl)<|kv (v_fieldAddr0 Ty.fd169_1 rfl)<|kv (v_load rfl (Var.sub1 Ty.sc77 zthr (.head _) (GetN.lit rfl)))<|kmv ?_
 refine kw_val rfl rfl (v_indexAddr_ls Tryz.underlying77 (rTy) rfl rfl zas rfl zom) ?_
 refine kv (v_fieldAddr Ty.fd137_1 rfl)<|kv (v_load rfl (Go.Sl.Vw.fld1 (rTy) Ty.sc27 (hL.vw hs2) zom rfl))<|kv (v_load rfl (Var.sub1 Ty.sc27 zthr (.head _) (GetN.lit rfl)))<|kv (v_gtr rfl rfl)<|kv (v_assign rfl)<|kw_nil<|xw_then<|cw_ret<|ret1 rfl (res_tmp rfl) ?_
 exact⟨rfl,zcov⟩
theorem at_lo {p:Rg→Bool}{l:List Rg}:∀i,i<cutAt p l→p l[i]! =false:=fun i hi=>by
 have h:=@cutAt_le p l
 rw[getElem!_pos l i zom]
 have hlt:i<(l.take (cutAt p l)).length:=by rw[List.length_take];omega
 have:=cutAt_pre _ (List.getElem_mem hlt)
 rwa [List.getElem_take]at this
theorem at_hi {p:Rg→Bool}{l:List Rg}(hm:l.Pairwise fun x y=>p x=true→p y=true):∀i,cutAt p l≤i→i<l.length→p l[i]! =true:=fun i hi hl=>by
 rw[getElem!_pos l i hl]
 refine cutAt_post hm _ ?_
 rw[List.mem_iff_getElem]
 exact⟨i-cutAt p l,by rw[List.length_drop];omega,by rw[List.getElem_drop];congr 1;omega⟩
theorem ending_c {m:SetM}{b:Nat}{c:Hp}{n:Int}(hO:SetAt m b c)(hs:Sub c G)(hw:m.WF):
  Go.Sl.Fn Tryz.prog 124 #[.pointer (some ⟨b,0,none⟩),.int .u64 n] B w0 G fun u G'=>u=.int .i64 (cutAt (fun x=>decide (n≤x.b)) m.l)∧G'=G:=by
 refine Fn.pure ?_
 have hO':=hO
 obtain⟨ao,cap,cl,rfl,hL⟩:=hO
 have hs1:=hs.left
 have hs2:=hs.right
 have h2:=hw.len
 refine fn_enter Tryz.func124 rfl (by kernel_rfl) Tryz.ntmps124 (by simp) ?_
 refine qs<|ow_box rfl rfl rfl rfl fun b2=>ow_box rfl rfl rfl rfl fun b3=>qa<|qt<|qs<|ql (Var.at1 Ty.sc129 (.there .here) (GetN.lit rfl))<|qn<|qf Ty.fd169_1<|ql (Var.sub1 Ty.sc77 zthr (.head _) (GetN.lit rfl))<|qv (v_len rfl Tryz.underlying77 rfl)<|qv (v_makeFunc rfl rfl) ?_
 refine ow_val rfl rfl (v_call rfl rfl (search_c (k:=cutAt (fun x=>decide (n≤x.b)) m.l) (p:=fun i=>decide (n≤m.l[i]!.b)) zom cutAt_le at_lo (at_hi (hw.good.ends n)) (fun i hi=>ending1_c hO' hs.there.there Sub.here.there Sub.here hi))) ?_
 refine qa<|qt<|cw_ret<|ret1 rfl (res_tmp rfl) ?_
 exact⟨rfl,zcov⟩
theorem behind_c {m:SetM}{b:Nat}{c:Hp}{n:Int}(hO:SetAt m b c)(hs:Sub c G)(hw:m.WF):
  Go.Sl.Fn Tryz.prog 116 #[.pointer (some ⟨b,0,none⟩),.int .u64 n] B w0 G fun u G'=>u=.int .i64 (cutAt (fun x=>decide (n<x.b)) m.l)∧G'=G:=by
 refine Fn.pure ?_
 have hO':=hO
 obtain⟨ao,cap,cl,rfl,hL⟩:=hO
 have hs1:=hs.left
 have hs2:=hs.right
 have h2:=hw.len
 refine fn_enter Tryz.func116 rfl (by kernel_rfl) Tryz.ntmps116 (by simp) ?_
 refine qs<|ow_box rfl rfl rfl rfl fun b2=>ow_box rfl rfl rfl rfl fun b3=>qa<|qt<|qs<|ql (Var.at1 Ty.sc129 (.there .here) (GetN.lit rfl))<|qn<|qf Ty.fd169_1<|ql (Var.sub1 Ty.sc77 zthr (.head _) (GetN.lit rfl))<|qv (v_len rfl Tryz.underlying77 rfl)<|qv (v_makeFunc rfl rfl) ?_
 refine ow_val rfl rfl (v_call rfl rfl (search_c (k:=cutAt (fun x=>decide (n<x.b)) m.l) (p:=fun i=>decide (n<m.l[i]!.b)) zom cutAt_le at_lo (at_hi (hw.good.behinds n)) (fun i hi=>behind1_c hO' hs.there.there Sub.here.there Sub.here hi))) ?_
 refine qa<|qt<|cw_ret<|ret1 rfl (res_tmp rfl) ?_
 exact⟨rfl,zcov⟩
def firstR (l:List Rg)(n:Int):Rg×Bool:=if h:cutAt (fun x=>decide (n<x.b)) l<l.length then (⟨max l[cutAt (fun x=>decide (n<x.b)) l].a n,l[cutAt (fun x=>decide (n<x.b)) l].b⟩,true) else (⟨0,0⟩,false)
theorem setFirst_c {m:SetM}{b:Nat}{c:Hp}{n:Int}(hO:SetAt m b c)(hs:Sub c G)(hw:m.WF):
  Go.Sl.Fn Tryz.prog 86 #[.pointer (some ⟨b,0,none⟩),.int .u64 n] B w0 G fun u G'=>u=.tuple #[enR.val (firstR m.l n).1,.bool (firstR m.l n).2]∧G'=G:=by
 refine Fn.pure ?_
 have hO':=hO
 obtain⟨ao,cap,cl,rfl,hL⟩:=hO
 have hs1:=hs.left
 have hs2:=hs.right
 have h2:=hw.len
 have h3:=@cutAt_le (fun x=>decide (n<x.b)) m.l
 have hz:=len2 _ ok_z
 have hz1:=one2 _ ok_z
 refine fn_enter Tryz.func86 rfl (by kernel_rfl) Tryz.ntmps86 (by simp) ?_
 refine qs<|ow_alloc rfl rfl Ty.ze137 fun b4=>qa<|qt<|cw_seq<|qs<|qm<|qv (v_eql_nil_some Tryz.underlying129 rfl)<|qt<|cw_false rfl<|cw_skip<|xw_then ?_
 refine qs<|qm<|qm ?_
 refine ow_val rfl rfl (v_call rfl rfl (behind_c hO' hs.there hw)) ?_
 refine qa<|qt<|cw_seq<|qs<|qm<|qm<|qn<|qf Ty.fd169_1<|ql (Var.sub1 Ty.sc77 zthr (.head _) (GetN.lit rfl))<|qv (v_len rfl Tryz.underlying77 rfl)<|qv (v_eql rfl rfl)<|qt ?_
 refine cw_dec rfl (fun hc20=>?_) (fun hc20=>?_)
 refine qs<|qv (v_build rfl (b_rng0))<|ow_storeE rfl (rTy) rfl rfl .here zra (ok_z)<|qa<|qt<|cw_ret<|xw_then_ret<|ret2 rfl (res_cell rfl (Var.atN Ty.ag137 .here GetN.all zra)) (res_tmp rfl) ?_
 rotate_left
 refine cw_skip<|xw_then<|qs<|qm<|qn<|qf Ty.fd169_1<|ql (Var.sub1 Ty.sc77 zthr (.head _) (GetN.lit rfl))<|qm ?_
 refine ow_val rfl rfl (v_indexAddr_ls Tryz.underlying77 (rTy) rfl rfl zas rfl zom) ?_
 refine ow_val rfl rfl (v_load rfl (Go.Sl.Vw.var (rTy) (Go.Sl.Ls.vw zas zhas) zom)) ?_
 refine ow_alloc rfl rfl Ty.ze137 fun b7=>ow_storeE rfl (rTy) rfl rfl .here zra (hL.ok _ (List.getElem_mem _))<|qt<|qs<|qf Ty.fd137_0<|ql (Var.at1 Ty.sc27 .here (GetN.lit rfl))<|qm<|qv (v_max rfl rfl)<|qf Ty.fd137_0<|ow_store1 rfl rfl rfl rfl Ty.sc27 .here (SetN.one zdn)<|qt<|qs ?_
 refine ql (Var.atN Ty.ag137 .here GetN.all zra) ?_
 rotate_left
 ·refine⟨?_,zcov⟩
  rw[firstR,dif_neg zom]
  rfl
 ·simp only[enR_f,List.set_cons_zero]
  have hcc:cutAt (fun x=>decide (n<x.b)) m.l<m.l.length:=by omega
  have hq1:=one_lit (max (m.l[cutAt (fun x=>decide (n<x.b)) m.l]'hcc).a n) (m.l[cutAt (fun x=>decide (n<x.b)) m.l]'hcc).b
  refine ow_storeN rfl rfl rfl Ty.ag137 zra (by first|assumption|simp) (.there .here) (SetN.all zsa) ?_
  refine qa<|qt<|cw_ret<|ret2 rfl (res_cell rfl (Var.atN Ty.ag137 (.there .here) GetN.all zra)) (res_tmp rfl) ?_
  refine⟨?_,zcov⟩
  rw[firstR,dif_pos hcc]
  rfl
theorem cntR_succ {l:List Rg}{j:Nat}(h:j<l.length):cntR (l.take (j+1))=cntR (l.take j)+(l[j].b-l[j].a):=by
 rw[List.take_succ_eq_append_getElem h,cntR_append,cntR_cons]
 have:cntR []=0:=rfl
 omega
theorem setCount_c {m:SetM}{b:Nat}{c:Hp}(hO:SetAt m b c)(hs:Sub c G)(hw:m.WF):
  Go.Sl.Fn Tryz.prog 93 #[.pointer (some ⟨b,0,none⟩)] B w0 G fun u G'=>u=.int .u64 (cntR m.l)∧G'=G:=by
 refine Fn.pure ?_
 have hO':=hO
 obtain⟨ao,cap,cl,rfl,hL⟩:=hO
 have hs1:=hs.left
 have hs2:=hs.right
 have h2:=hw.len
 refine fn_enter Tryz.func93 rfl (by kernel_rfl) Tryz.ntmps93 (by simp) ?_
 refine qs<|qa<|qt<|cw_seq<|qs<|qm ?_
 refine qv (v_eql_nil_some Tryz.underlying129 rfl)<|qt ?_
 refine cw_false rfl<|cw_skip<|xw_then<|qs ?_
 refine qa<|qt<|cw_seq<|qs<|qm<|qn ?_
 refine qf Ty.fd169_1 ?_
 refine ql (Var.sub1 Ty.sc77 zthr (.head _) (GetN.lit rfl)) ?_
 refine qv (v_len rfl Tryz.underlying77 rfl)<|qm<|qt ?_
 refine cw_block ?_
 refine cw_loop2 (ι:=(Nat)) [(2,_),(11,_),(12,_)] ⟨rfl,rfl,rfl,trivial⟩ ((fun j=>[(3,.int .u64 (cntR (m.l.take j))),(13,.int .i64 j)])) ((fun j=>j≤m.l.length)) ((fun j=>m.l.length-j)) ((fun _=>G)) (0) zenv zcov ?_ ?_
 ·exact Nat.zero_le _
 rintro j hj
 refine qs ?_
 refine qv (v_lss rfl rfl)<|qt<|cw_seq ?_
 refine cw_dec rfl (fun hc14=>?_) (fun hc14=>?_)
 refine cw_skip<|xw_then<|cw_seq ?_
 refine cw_block<|qs ?_
 rotate_left
 refine cw_exit ?_
 refine xw_then_exit ?_
 refine xw_round_exit ?_
 refine xw_block_exit<|xw_then<|qs<|qm<|qa<|qt ?_
 refine cw_ret ?_
 refine ret1 rfl (res_tmp rfl) ?_
 rotate_left
 ·have hj2:j<m.l.length:=by omega
  have hokj:=hL.ok _ (List.getElem_mem hj2)
  have hgj:=hw.good.1 _ (List.getElem_mem hj2)
  have hcs:=cntR_succ hj2
  have hg1:Good (m.l.take (j+1)):=by
   have h:=hw.good
   rw[←List.take_append_drop (j+1) m.l]at h
   exact(Good.append.1 h).1
  have hg0:Good (m.l.take j):=by
   have h:=hw.good
   rw[←List.take_append_drop j m.l]at h
   exact(Good.append.1 h).1
  have hm1:=cntR_max hg1
  have hm0:=cntR_max hg0
  obtain⟨hg2,hg3,hg4⟩:=hgj
  refine ow_val rfl rfl (v_indexAddr_ls Tryz.underlying77 (rTy) rfl rfl zas rfl zom) ?_
  refine ql (Go.Sl.Vw.var (rTy) ((hL.vw hs2)) zom) ?_
  refine ow_alloc rfl rfl Ty.ze137 fun b5=>?_
  refine ow_storeE rfl (rTy) rfl rfl .here zra zas ?_
  refine qt<|cw_region<|qm ?_
  refine qf Ty.fd137_1 ?_
  refine ql (Var.at1 Ty.sc27 .here (GetN.lit rfl)) ?_
  refine qf Ty.fd137_0 ?_
  refine ql (Var.at1 Ty.sc27 .here (GetN.lit rfl)) ?_
  refine qv (v_sub rfl rfl (nw_u64 zom zom)) ?_
  refine qv (v_add rfl rfl (nw_u64 zom zom))<|qa<|ow_nil ?_
  refine xw_block ?_
  refine xw_then<|cw_region ?_
  refine qv (v_add rfl rfl (nw_i64 zom zom))<|qm<|ow_nil ?_
  exact xw_round (j+1) zom zom zcov ⟨by rw[hcs];rfl,zenv⟩
 ·refine⟨?_,zcov⟩
  rw[List.take_of_length_le zom]
end Go.Proofs.YtnlaffkihohfkaaGreat
namespace Go.Proofs.YtnlaffkihohfkaaGreat
open Go Go.Sl Go.Proofs
variable {B:Nat}{w0:World}{G:List Hp}{R:Hp→List Hp}
theorem mrg_at {r:Rg}{l:List Rg}{i:Nat}(h:i<l.length):mrg r (l.drop i)=if l[i].a≤r.b then ((mrg ⟨min r.a l[i].a,max r.b l[i].b⟩ (l.drop (i+1))).1,(mrg ⟨min r.a l[i].a,max r.b l[i].b⟩ (l.drop (i+1))).2+1) else (r,0):=by
 rw[List.drop_eq_getElem_cons h,mrg]
theorem mrg_end {r:Rg}{l:List Rg}{i:Nat}(h:¬i<l.length):mrg r (l.drop i)=(r,0):=by
 rw[List.drop_eq_nil_of_le zom,mrg]
set_option maxHeartbeats 4000000 in
theorem joined_c {m:SetM}{b f:Nat}{c:Hp}{r:Rg}(hO:SetAt m b c)(hs:Sub c G)(hw:m.WF)(hr:RgIn r)(hf:f=cutAt (fun x=>decide (r.a≤x.b)) m.l):
  Go.Sl.Fn Tryz.prog 109 #[.pointer (some ⟨b,0,none⟩),enR.val r] B w0 G fun u G'=>u=.tuple #[.int .i64 f,.int .i64 ((f+(mrg r (m.l.drop f)).2:Nat):Int),enR.val (mrg r (m.l.drop f)).1]∧G'=G:=by
 refine Fn.pure ?_
 have hO':=hO
 obtain⟨ao,cap,cl,rfl,hL⟩:=hO
 have hs1:=hs.left
 have hs2:=hs.right
 have h2:=hw.len
 have h3:=@cutAt_le (fun x=>decide (r.a≤x.b)) m.l
 rw[←hf]at h3
 have hen:∀{G:List Hp},Go.Sl.Sub ([(b,.cells [.int .i64 m.limit,.slice ao m.l.length cap].toArray 169 (0,0))]++cl) G→Go.Sl.Fn Tryz.prog 124 #[.pointer (some ⟨b,0,none⟩),.int .u64 r.a] B w0 G fun u G'=>u=.int .i64 f∧G'=G:=fun hs=>by rw[hf];exact ending_c hO' hs hw
 have hz:=len2 _ ok_z
 have hz1:=one2 _ ok_z
 have hr2:=len2 _ hr
 have hr3:=one2 _ hr
 refine fn_enter Tryz.func109 rfl (by kernel_rfl) Tryz.ntmps109 (by simp) ?_
 refine qs<|ow_box rfl rfl rfl rfl fun b3=>qa<|qa<|ow_alloc rfl rfl Ty.ze137 fun b6=>qt<|qs<|qm<|qf Ty.fd137_0<|ql (Var.at1 Ty.sc27 (.there .here) (GetN.lit rfl))<|qv (v_call rfl rfl (hen hs.there.there))<|qa ?_
 refine qt<|qs<|qm<|qa<|qt<|cw_seq<|cw_block ?_
 refine cw_loop2 (ι:=((Nat×Rg))) [(0,_),(3,_),(4,_),(6,_),(7,_)] ⟨rfl,rfl,rfl,rfl,rfl,trivial⟩ ((fun x=>[(5,.int .i64 ((f+x.1:Nat):Int))])) ((fun x=>f+x.1≤m.l.length∧enR.ok x.2∧mrg r (m.l.drop f)=((mrg x.2 (m.l.drop (f+x.1))).1,(mrg x.2 (m.l.drop (f+x.1))).2+x.1))) ((fun x=>m.l.length-(f+x.1))) ((fun x=>[(b6,.cells (Rg.cells ⟨0,0⟩).toArray 137 (0,0))]::[(b3,.cells (enR.f x.2).toArray 137 (0,0))]::G)) (((0,r):Nat×Rg)) zenv zcov ?_ ?_
 ·exact⟨by omega,hr,rfl⟩
 rintro⟨k,q⟩ ⟨hk,hq,hm⟩
 dsimp only at hk hq hm⊢
 have hq2:=len2 _ hq
 have hq3:=one2 _ hq
 refine cw_seq<|cw_seq<|cw_quiet Ty.mixed zdk<|kmv<|kmv<|kv (v_nilCheck rfl)<|kv (v_fieldAddr0 Ty.fd169_1 rfl)<|kv (v_load rfl (Var.sub1 Ty.sc77 zthr (.head _) (GetN.lit rfl)))<|kv (v_len rfl Tryz.underlying77 rfl)<|kv (v_lss rfl rfl)<|kmv ?_
 refine kw_dec 19 rfl (fun hc19=>?_) (fun hc19=>?_)
 refine kmv<|kv (v_nilCheck rfl)<|kv (v_fieldAddr0 Ty.fd169_1 rfl)<|kv (v_load rfl (Var.sub1 Ty.sc77 zthr (.head _) (GetN.lit rfl)))<|kmv ?_
 refine kw_val rfl rfl (v_indexAddr_ls Tryz.underlying77 (rTy) rfl rfl zas rfl zom) ?_
 refine kv (v_fieldAddr Ty.fd137_0 rfl)<|kv (v_load rfl (Go.Sl.Vw.fld1 (rTy) Ty.sc27 (hL.vw hs2.there.there) zom rfl))<|kv (v_fieldAddr0 Ty.fd137_1 rfl)<|kv (v_load rfl (Var.at1 Ty.sc27 (.there .here) (GetN.lit rfl)))<|kv (v_leq rfl rfl)<|kv (v_pick_true rfl rfl)<|kw_nil<|xw_then ?_
 refine cw_dec rfl (fun hc31=>?_) (fun hc31=>?_)
 refine cw_skip<|xw_then<|cw_block<|cw_seq ?_
 refine cw_mix [] [12] [0,1,2,3,4,5,6,7,8,9,10,11] Ty.mixed rfl rfl rfl rfl zdk ?_
 refine hw_pure rfl rfl (v_fieldAddr0 Ty.fd137_0 rfl) rfl<|hw_read rfl rfl rfl (v_load rfl (Var.at1 Ty.sc27 (.there .here) (GetN.lit rfl)))<|hmv<|hw_pure rfl rfl (v_nilCheck rfl) rfl<|hw_pure rfl rfl (v_fieldAddr0 Ty.fd169_1 rfl) rfl<|hw_read rfl rfl rfl (v_load rfl (Var.sub1 Ty.sc77 zthr (.head _) (GetN.lit rfl)))<|hmv ?_
 refine hw_pure rfl rfl (v_indexAddr_ls Tryz.underlying77 (rTy) rfl rfl zas rfl zom) rfl ?_
 refine hw_pure rfl rfl (v_fieldAddr Ty.fd137_0 rfl) rfl<|hw_read rfl rfl rfl (v_load rfl (Go.Sl.Vw.fld1 (rTy) Ty.sc27 (hL.vw hs2.there.there) zom rfl))<|hw_pure rfl rfl (v_min rfl rfl) rfl<|hw_pure rfl rfl (v_fieldAddr0 Ty.fd137_0 rfl) rfl<|hw_nil<|sw_nil<|ow_store1 rfl rfl rfl rfl Ty.sc27 (.there .here) (SetN.one zdn)<|ow_nil<|xw_np<|xw_then<|cw_seq ?_
 refine cw_mix [] [12] [0,1,2,3,4,5,6,7,8,9,10,11] Ty.mixed rfl rfl rfl rfl zdk ?_
 refine hw_pure rfl rfl (v_fieldAddr0 Ty.fd137_1 rfl) rfl<|hw_read rfl rfl rfl (v_load rfl (Var.at1 Ty.sc27 (.there .here) (GetN.lit rfl)))<|hmv<|hw_pure rfl rfl (v_nilCheck rfl) rfl<|hw_pure rfl rfl (v_fieldAddr0 Ty.fd169_1 rfl) rfl<|hw_read rfl rfl rfl (v_load rfl (Var.sub1 Ty.sc77 zthr (.head _) (GetN.lit rfl)))<|hmv ?_
 refine hw_pure rfl rfl (v_indexAddr_ls Tryz.underlying77 (rTy) rfl rfl zas rfl zom) rfl ?_
 refine hw_pure rfl rfl (v_fieldAddr Ty.fd137_1 rfl) rfl<|hw_read rfl rfl rfl (v_load rfl (Go.Sl.Vw.fld1 (rTy) Ty.sc27 (hL.vw hs2.there.there) zom rfl))<|hw_pure rfl rfl (v_max rfl rfl) rfl<|hw_pure rfl rfl (v_fieldAddr0 Ty.fd137_1 rfl) rfl<|hw_nil<|sw_nil<|ow_store1 rfl rfl rfl rfl Ty.sc27 (.there .here) (SetN.one zdn)<|ow_nil<|xw_np<|xw_then<|cw_region<|qm ?_
 refine qv (v_add rfl rfl (nw_i64 zom zom))<|qa<|ow_nil<|xw_block ?_
 rotate_left
 refine cw_exit<|xw_then_exit<|xw_round_exit<|xw_block_exit<|xw_then<|cw_seq ?_
 refine cw_mix [] [5] [0,1,2,3,4] Ty.mixed rfl rfl rfl rfl zdk ?_
 refine hmv<|hmv<|hw_read rfl rfl rfl (v_load rfl (Var.atN Ty.ag137 (.there .here) GetN.all zra))<|hw_pure rfl rfl (v_assign rfl) rfl<|hw_pure rfl rfl (v_assign rfl) rfl<|hw_nil<|sw_nil ?_
 refine ow_storeE rfl (rTy) rfl rfl .here zra zas ?_
 refine ow_nil<|xw_np<|xw_then<|cw_ret<|ret3 rfl (res_tmp rfl) (res_tmp rfl) (res_cell rfl (Var.atN Ty.ag137 .here GetN.all zra)) ?_
 rotate_left
 refine kk<|kk<|kk<|kk<|kk<|kk<|kk<|kk<|kk<|kk<|kk<|kv (v_pick_false rfl rfl) ?_
 refine kw_nil<|xw_then<|cw_false rfl<|cw_exit<|xw_then_exit<|xw_round_exit<|xw_block_exit<|xw_then<|cw_seq ?_
 refine cw_mix [] [5] [0,1,2,3,4] Ty.mixed rfl rfl rfl rfl zdk ?_
 refine hmv<|hmv<|hw_read rfl rfl rfl (v_load rfl (Var.atN Ty.ag137 (.there .here) GetN.all zra))<|hw_pure rfl rfl (v_assign rfl) rfl<|hw_pure rfl rfl (v_assign rfl) rfl<|hw_nil<|sw_nil ?_
 refine ow_storeE rfl (rTy) rfl rfl .here zra zas ?_
 refine ow_nil<|xw_np<|xw_then<|cw_ret<|ret3 rfl (res_tmp rfl) (res_tmp rfl) (res_cell rfl (Var.atN Ty.ag137 .here GetN.all zra)) ?_
 rotate_left
 ·have hk2:f+k<m.l.length:=by omega
  have hok:=hL.ok _ (List.getElem_mem hk2)
  have hme:=mrg_at (r:=q) hk2
  rw[if_pos hc31]at hme
  rw[hme]at hm
  exact xw_round ((k+1,⟨min q.a (m.l[f+k]'hk2).a,max q.b (m.l[f+k]'hk2).b⟩):Nat×Rg) ⟨by omega,⟨by have:=hq.1;have:=hok.1;dsimp only;omega,by have:=hq.2;have:=hok.2;dsimp only;omega⟩,by rw[hm];simp only[Prod.mk.injEq,true_and];rw[show f+(k+1)=f+k+1 by omega];exact⟨rfl,by omega⟩⟩ zdo zcov zenv
 ·have hk2:f+k<m.l.length:=by omega
  have hme:=mrg_at (r:=q) hk2
  rw[if_neg hc31]at hme
  rw[hme]at hm
  rw[hm]
  exact⟨by simp only[Nat.zero_add];rfl,zcov⟩
 ·rw[mrg_end (r:=q) (i:=f+k) zom]at hm
  rw[hm]
  exact⟨by simp only[Nat.zero_add];rfl,zcov⟩
structure Join (m:SetM)(r:Rg)(f:Nat)(w:Rg)(k:Nat):Prop where
 at_:f=cutAt (fun x=>decide (r.a≤x.b)) m.l
 mrg_:mrg r (m.l.drop f)=(w,k)
 le:f+k≤m.l.length
 ok:enR.ok w
 add:addL m.l r=m.l.take f++([w]++m.l.drop (f+k))
 len:(addL m.l r).length=f+1+(m.l.length-(f+k))
theorem joinS {m:SetM}{r:Rg}(hw:m.WF)(hr:RgOk r):∃f w k,Join m r f w k:=by
 have hS:=addS hw.good hr
 have hc:=@cutAt_le (fun x=>decide (r.a≤x.b)) m.l
 refine⟨_,(mrg r (m.l.drop (cutAt (fun x=>decide (r.a≤x.b)) m.l))).1,(mrg r (m.l.drop (cutAt (fun x=>decide (r.a≤x.b)) m.l))).2,rfl,rfl,?_,hS.ok.inn,rfl,?_⟩
 ·have:=hS.le
  rw[List.length_drop]at this
  omega
 ·unfold addL
  rw[List.length_append,List.length_append,List.length_take,List.length_drop,List.length_singleton]
  omega
theorem joinedJ_c {m:SetM}{b f k:Nat}{c:Hp}{r w:Rg}(hO:SetAt m b c)(hs:Sub c G)(hw:m.WF)(hr:RgIn r)(hj:Join m r f w k):
  Go.Sl.Fn Tryz.prog 109 #[.pointer (some ⟨b,0,none⟩),enR.val r] B w0 G fun u G'=>u=.tuple #[.int .i64 f,.int .i64 ((f+k:Nat):Int),enR.val w]∧G'=G:=by
 have h:=joined_c (B:=B) (w0:=w0) hO hs hw hr hj.at_
 rw[hj.mrg_]at h
 exact h
set_option maxHeartbeats 4000000 in
theorem setAdd_c {m:SetM}{b:Nat}{c:Hp}{r:Rg}(hsel:Sel G c R)(hO:SetAt m b c)(hw:m.WF)(hr:RgIn r):
  Go.Sl.Fn Tryz.prog 77 #[.pointer (some ⟨b,0,none⟩),enR.val r] B w0 G fun u G'=>∃c':Hp,u=.int .i64 (m.add r).2∧SetAt (m.add r).1 b c'∧G'=R c':=by
 refine Fn.sel0 hsel fun F hR hF=>?_
 have hO':=hO
 obtain⟨ao,cap,cl,rfl,hL⟩:=hO
 have h2:=hw.len
 have hr2:=len2 _ hr
 have hr3:=one2 _ hr
 refine fn_enter Tryz.func77 rfl (by kernel_rfl) Tryz.ntmps77 (by simp) ?_
 refine cw_split ?_
 refine qs ?_
 refine ow_box rfl rfl rfl rfl fun b3=>qa<|qt<|cw_seq<|qs<|qm ?_
 refine qv (v_eql_nil_some Tryz.underlying129 rfl)<|qt ?_
 refine cw_false rfl<|cw_skip<|xw_then ?_
 refine cw_seq<|qs ?_
 refine ql (Var.atN Ty.ag137 .here GetN.all zra) ?_
 refine qv (v_call rfl rfl (empty_c))<|qt ?_
 refine cw_dec rfl (fun hc11=>?_) (fun hc11=>?_)
 refine qs<|qa<|qt ?_
 refine cw_ret ?_
 refine xw_then_ret ?_
 refine ret1 rfl (res_tmp rfl) ?_
 rotate_left
 refine cw_skip<|xw_then ?_
 rotate_left
 ·rw[show m.add r=(m,0) from by rw[SetM.add,if_pos zom]]
  exact⟨_,rfl,⟨ao,cap,cl,rfl,hL⟩,zcov⟩
 ·have hne:r.a<r.b:=by omega
  obtain⟨f,w,k,hj⟩:=joinS hw (hr.ok hne)
  have hj1:=hj.le
  have hj2:=hj.len
  have hj3:=hj.ok
  have hj4:=len2 _ hj.ok
  have hj5:=one2 _ hj.ok
  refine qs<|qm ?_
  refine ql (Var.atN Ty.ag137 .here GetN.all zra) ?_
  refine ow_val rfl rfl (v_call rfl rfl (joinedJ_c hO' (Sub.app zhas zhas) hw hr hj)) ?_
  refine qm ?_
  refine qv (v_extract rfl rfl) ?_
  refine qv (v_extract rfl rfl) ?_
  refine qv (v_extract rfl rfl) ?_
  refine ow_alloc rfl rfl Ty.ze137 fun b7=>qa<|qa ?_
  refine ow_storeE rfl (rTy) rfl rfl .here zra zas ?_
  refine qt<|cw_seq<|cw_seq ?_
  refine cw_quiet Ty.mixed zdk ?_
  refine kmv ?_
  refine kv (v_nilCheck rfl) ?_
  refine kv (v_fieldAddr0 Ty.fd169_1 rfl) ?_
  refine kv (v_load rfl (Var.at1 Ty.sc77 (.there (.there .here)) (GetN.lit rfl))) ?_
  refine kv (v_len rfl Tryz.underlying77 rfl) ?_
  refine kmv ?_
  refine kmv ?_
  refine kv (v_sub rfl rfl (nw_i64 zom zom)) ?_
  refine kv (v_sub rfl rfl (nw_i64 zom zom)) ?_
  refine kv (v_add rfl rfl (nw_i64 zom zom)) ?_
  refine kmv ?_
  refine kw_val rfl rfl (v_call rfl rfl (most_c hO' (Sub.app zhas zhas))) ?_
  refine kv (v_gtr rfl rfl) ?_
  refine kw_nil<|xw_then ?_
  refine cw_dec rfl (fun hc31=>?_) (fun hc31=>?_)
  refine qs<|qa<|qt ?_
  refine cw_ret ?_
  refine xw_then_ret ?_
  refine ret1 rfl (res_tmp rfl) ?_
  rotate_left
  refine cw_skip<|xw_then<|cw_seq ?_
  refine cw_mix [8] [9,10,11,12] [0,1,2,3,4,5,6,7] Ty.mixed rfl rfl rfl rfl zdk ?_
  refine hmv ?_
  refine hmv ?_
  refine hw_pure rfl rfl (v_nilCheck rfl) rfl ?_
  refine hw_pure rfl rfl (v_fieldAddr0 Ty.fd169_1 rfl) rfl ?_
  refine hw_read rfl rfl rfl (v_load rfl (Var.at1 Ty.sc77 (.there (.there .here)) (GetN.lit rfl))) ?_
  refine hmv ?_
  refine hmv ?_
  refine hw_read rfl rfl rfl (v_load rfl (Var.atN Ty.ag137 .here GetN.all zra)) ?_
  refine hw_nil ?_
  (refine sw_buildL (es:=[(w)]) rfl rfl Tryz.underlying77 Ty.em77 (rTy) rfl rfl (by first|(simp[*];done)|(repeat (first|exact List.forall_mem_nil _|refine List.forall_mem_cons.2 ⟨?_,?_⟩|assumption|(show _∧_;omega)))) (by simp only[List.length_cons,List.length_nil];decide) ?_;intro ao40 c40 hL40)
  refine sw_nil ?_
  (refine ow_call rfl rfl rfl rfl (replaceR_c (i:=f) (j:=f+k) (l2:=[w]) rfl rfl zsel hL zas zcov zom zom (by simp;omega)) ?_;rintro _ _ ⟨x41,rfl,hq41,rfl⟩)
  refine qn ?_
  refine qf Ty.fd169_1 ?_
  refine ow_store1 rfl rfl rfl rfl Ty.sc77 (.there (.there (.there .here))) (SetN.one zdn)<|ow_nil ?_
  refine xw_np<|xw_then<|qs<|qa<|qt ?_
  refine cw_ret ?_
  refine ret1 rfl (res_tmp rfl) ?_
  rotate_left
  ·rw[show m.add r=(m,7) from by rw[SetM.add,if_neg zom,if_pos (by rw[hj2];omega)]]
   exact⟨_,rfl,⟨ao,cap,cl,rfl,hL⟩,zcov⟩
  ·rw[show m.add r=(⟨m.limit,addL m.l r⟩,0) from by rw[SetM.add,if_neg zom,if_neg (by rw[hj2];omega)],hj.add]
   exact⟨_,rfl,⟨x41.1,x41.2.1,x41.2.2,rfl,hq41⟩,zcov⟩
theorem cutM_at {r:Rg}{l:List Rg}{i:Nat}(h:i<l.length):cutM r (l.drop i)=if l[i].a<r.b then (below r l[i]++(above r l[i]++(cutM r (l.drop (i+1))).1),(cutM r (l.drop (i+1))).2+1) else ([],0):=by
 rw[List.drop_eq_getElem_cons h,cutM]
theorem cutM_end {r:Rg}{l:List Rg}{i:Nat}(h:¬i<l.length):cutM r (l.drop i)=([],0):=by
 rw[List.drop_eq_nil_of_le zom,cutM]
structure CutIx where
 k:Nat
 l:List Rg
 ao:Option Addr
 cap:Nat
 c:Hp
set_option maxHeartbeats 4000000 in
theorem setCut_c {m:SetM}{b:Nat}{c:Hp}{r:Rg}(hsel:Sel G c R)(hO:SetAt m b c)(hw:m.WF)(hr:RgIn r):
  Go.Sl.Fn Tryz.prog 88 #[.pointer (some ⟨b,0,none⟩),enR.val r] B w0 G fun u G'=>∃c':Hp,u=.int .i64 (m.cut r).2∧SetAt (m.cut r).1 b c'∧G'=R c':=by
 refine Fn.sel0 hsel fun F hR hF=>?_
 have hO':=hO
 obtain⟨ao,cap,cl,rfl,hL⟩:=hO
 have h2:=hw.len
 have hr2:=len2 _ hr
 have hr3:=one2 _ hr
 have hwl:=hw.lim
 refine fn_enter Tryz.func88 rfl (by kernel_rfl) Tryz.ntmps88 (by simp) ?_
 refine cw_split ?_
 refine qs ?_
 refine ow_box rfl rfl rfl rfl fun b3=>qa<|qt<|cw_seq<|qs<|qm ?_
 refine qv (v_eql_nil_some Tryz.underlying129 rfl)<|qt ?_
 refine cw_false rfl<|cw_skip<|xw_then ?_
 refine cw_seq<|qs ?_
 refine ql (Var.atN Ty.ag137 .here GetN.all zra) ?_
 refine qv (v_call rfl rfl (empty_c))<|qt ?_
 refine cw_dec rfl (fun hc14=>?_) (fun hc14=>?_)
 refine qs<|qa<|qt ?_
 refine cw_ret ?_
 refine xw_then_ret ?_
 refine ret1 rfl (res_tmp rfl) ?_
 rotate_left
 refine cw_skip<|xw_then ?_
 rotate_left
 ·rw[show m.cut r=(m,0) from by rw[SetM.cut,if_pos zom]]
  exact⟨_,rfl,⟨ao,cap,cl,rfl,hL⟩,zcov⟩
 ·have hne:r.a<r.b:=by omega
  have h3:=@cutAt_le (fun x=>decide (r.a<x.b)) m.l
  obtain⟨f,hf⟩:∃f,f=cutAt (fun x=>decide (r.a<x.b)) m.l:=⟨_,rfl⟩
  rw[←hf]at h3
  have hbe:∀{G:List Hp},Go.Sl.Sub ([(b,.cells [.int .i64 m.limit,.slice ao m.l.length cap].toArray 169 (0,0))]++cl) G→Go.Sl.Fn Tryz.prog 116 #[.pointer (some ⟨b,0,none⟩),.int .u64 r.a] B w0 G fun u G'=>u=.int .i64 f∧G'=G:=fun hs=>by rw[hf];exact behind_c hO' hs hw
  have hcs:=cutS (hr.ok hne) (hw.good.drop f) fun x hx=>by rw[hf]at hx;simpa using cutAt_post (hw.good.behinds r.a) x hx
  have hcl:=hcs.le
  have hcn:=hcs.len
  have hcd:cutL m.l r=m.l.take f++((cutM r (m.l.drop f)).1++m.l.drop (f+(cutM r (m.l.drop f)).2)):=by unfold cutL;rw[←hf]
  rw[List.length_drop]at hcl
  clear hf
  refine qs<|qm ?_
  refine qf Ty.fd137_0 ?_
  refine ql (Var.at1 Ty.sc27 .here (GetN.lit rfl)) ?_
  refine qv (v_call rfl rfl (hbe (Sub.app zhas zhas)))<|qa<|qt<|qs<|qm<|qa<|qt<|qs ?_
  refine qa<|qt<|cw_seq ?_
  refine cw_block ?_
  refine cw_loop2 (ι:=(CutIx)) [(0,_),(1,_),(3,_),(4,_),(5,_)] ⟨rfl,rfl,rfl,rfl,rfl,trivial⟩ ((fun x=>[(6,.int .i64 ((f+x.k:Nat):Int)),(7,.slice x.ao x.l.length x.cap)])) ((fun x=>f+x.k≤m.l.length∧x.l.length≤2*x.k∧(cutM r (m.l.drop f)).1=x.l++(cutM r (m.l.drop (f+x.k))).1∧(cutM r (m.l.drop f)).2=x.k+(cutM r (m.l.drop (f+x.k))).2∧Ls enR 137 (.slice x.ao x.l.length x.cap) x.c x.l)) ((fun x=>m.l.length-(f+x.k))) ((fun x=>x.c::[(b3,.cells r.cells.toArray 137 (0,0))]::[(b,.cells [.int .i64 m.limit,.slice ao m.l.length cap].toArray 169 (0,0))]::cl::F)) ((⟨0,[],none,0,[]⟩:CutIx)) zenv zcov ?_ ?_
  ·exact⟨by dsimp only;omega,by simp,by simp,by simp,Ls.nil⟩
  rintro⟨k,lt,aoT,capT,ct⟩ ⟨hk,hkl,hm1,hm2,hLt⟩
  dsimp only at hk hkl hm1 hm2 hLt⊢
  refine cw_seq<|cw_seq ?_
  refine cw_quiet Ty.mixed zdk ?_
  refine kmv ?_
  refine kmv ?_
  refine kv (v_nilCheck rfl) ?_
  refine kv (v_fieldAddr0 Ty.fd169_1 rfl) ?_
  refine kv (v_load rfl (Var.at1 Ty.sc77 (.there (.there .here)) (GetN.lit rfl))) ?_
  refine kv (v_len rfl Tryz.underlying77 rfl) ?_
  refine kv (v_lss rfl rfl) ?_
  refine kmv ?_
  refine kw_dec 27 rfl (fun hc27=>?_) (fun hc27=>?_)
  refine kmv ?_
  refine kv (v_nilCheck rfl) ?_
  refine kv (v_fieldAddr0 Ty.fd169_1 rfl) ?_
  refine kv (v_load rfl (Var.at1 Ty.sc77 (.there (.there .here)) (GetN.lit rfl))) ?_
  refine kmv ?_
  refine kw_val rfl rfl (v_indexAddr_ls Tryz.underlying77 (rTy) rfl rfl zas rfl zom) ?_
  refine kv (v_fieldAddr Ty.fd137_0 rfl) ?_
  refine kv (v_load rfl (Go.Sl.Vw.fld1 (rTy) Ty.sc27 (hL.vw zhas) zom rfl)) ?_
  refine kv (v_fieldAddr0 Ty.fd137_1 rfl) ?_
  refine kv (v_load rfl (Var.at1 Ty.sc27 (.there .here) (GetN.lit rfl))) ?_
  refine kv (v_lss rfl rfl) ?_
  refine kv (v_pick_true rfl rfl) ?_
  refine kw_nil<|xw_then ?_
  refine cw_dec rfl (fun hc39=>?_) (fun hc39=>?_)
  refine cw_skip<|xw_then ?_
  refine cw_block ?_
  rotate_left
  refine cw_exit ?_
  refine xw_then_exit ?_
  refine xw_round_exit ?_
  refine xw_block_exit<|xw_then ?_
  rotate_left
  refine kk ?_
  refine kk ?_
  refine kk ?_
  refine kk ?_
  refine kk ?_
  refine kk ?_
  refine kk ?_
  refine kk ?_
  refine kk ?_
  refine kk ?_
  refine kk ?_
  refine kv (v_pick_false rfl rfl) ?_
  refine kw_nil<|xw_then ?_
  refine cw_false rfl ?_
  refine cw_exit ?_
  refine xw_then_exit ?_
  refine xw_round_exit ?_
  refine xw_block_exit<|xw_then ?_
  rotate_left
  ·have hk2:f+k<m.l.length:=by omega
   have hok:=hL.ok _ (List.getElem_mem hk2)
   have hk3:=len2 _ hok
   have hk4:=one2 _ hok
   have hce:=cutM_at (r:=r) hk2
   rw[if_pos hc39]at hce
   rw[hce]at hm1 hm2
   have hb1:enR.ok ⟨(m.l[f+k]'hk2).a,r.a⟩:=⟨hok.1,hr.1⟩
   have hb2:enR.ok ⟨r.b,(m.l[f+k]'hk2).b⟩:=⟨hr.2,hok.2⟩
   have hb3:=len2 _ hb1
   have hb4:=one2 _ hb1
   have hb5:=len2 _ hb2
   have hb6:=one2 _ hb2
   refine qs<|qm<|qn ?_
   refine qf Ty.fd169_1 ?_
   refine ql (Var.at1 Ty.sc77 (.there (.there .here)) (GetN.lit rfl))<|qm ?_
   refine ow_val rfl rfl (v_indexAddr_ls Tryz.underlying77 (rTy) rfl rfl zas rfl zom) ?_
   refine ql (Go.Sl.Vw.var (rTy) (hL.vw zhas) zom) ?_
   refine ow_alloc rfl rfl Ty.ze137 fun b8=>?_
   refine ow_storeE rfl (rTy) rfl rfl .here zra zas ?_
   refine qt<|cw_seq<|qs ?_
   refine qf Ty.fd137_0 ?_
   refine ql (Var.at1 Ty.sc27 .here (GetN.lit rfl)) ?_
   refine qf Ty.fd137_0 ?_
   refine ql (Var.at1 Ty.sc27 (.there (.there .here)) (GetN.lit rfl)) ?_
   refine qv (v_build rfl (b_rng)) ?_
   refine ow_alloc rfl rfl Ty.ze137 fun b9=>?_
   refine ow_storeE rfl (rTy) rfl rfl .here zra zas ?_
   refine qt<|qs ?_
   refine ql (Var.atN Ty.ag137 .here GetN.all zra) ?_
   refine qv (v_call rfl rfl (empty_c)) ?_
   refine qv (v_not rfl)<|qt ?_
   refine cw_dec rfl (fun hc54=>?_) (fun hc54=>?_)
   refine cw_region<|qm ?_
   refine ql (Var.atN Ty.ag137 .here GetN.all zra) ?_
   (refine ow_buildL (es:=[(⟨(m.l[f+k]'hk2).a,r.a⟩)]) rfl rfl Tryz.underlying77 Ty.em77 (rTy) rfl rfl (by first|(simp[*];done)|(repeat (first|exact List.forall_mem_nil _|refine List.forall_mem_cons.2 ⟨?_,?_⟩|assumption|(show _∧_;omega)))) (by simp only[List.length_cons,List.length_nil];decide) ?_;intro ao57 c57 hL57)
   (refine ow_appendL rfl rfl Tryz.underlying77 Tryz.underlying77 Ty.em77 (rTy) rfl rfl zas zsel (Go.Sl.Ls.vw zas zhas) zlo zlo ?_;intro ao58 cap58 c58 hL58)
   refine qa<|qt<|cw_seq<|qs ?_
   refine qf Ty.fd137_1 ?_
   refine ql (Var.at1 Ty.sc27 (.there (.there (.there (.there .here)))) (GetN.lit rfl)) ?_
   refine qf Ty.fd137_1 ?_
   refine ql (Var.at1 Ty.sc27 (.there (.there .here)) (GetN.lit rfl)) ?_
   refine qv (v_build rfl (b_rng)) ?_
   refine ow_alloc rfl rfl Ty.ze137 fun b10=>?_
   refine ow_storeE rfl (rTy) rfl rfl .here zra zas ?_
   refine qt<|qs ?_
   refine ql (Var.atN Ty.ag137 .here GetN.all zra) ?_
   refine qv (v_call rfl rfl (empty_c)) ?_
   refine qv (v_not rfl)<|qt ?_
   refine cw_dec rfl (fun hc66=>?_) (fun hc66=>?_)
   refine cw_region<|qm ?_
   refine ql (Var.atN Ty.ag137 .here GetN.all zra) ?_
   (refine ow_buildL (es:=[(⟨r.b,(m.l[f+k]'hk2).b⟩)]) rfl rfl Tryz.underlying77 Ty.em77 (rTy) rfl rfl (by first|(simp[*];done)|(repeat (first|exact List.forall_mem_nil _|refine List.forall_mem_cons.2 ⟨?_,?_⟩|assumption|(show _∧_;omega)))) (by simp only[List.length_cons,List.length_nil];decide) ?_;intro ao69 c69 hL69)
   (refine ow_appendL rfl rfl Tryz.underlying77 Tryz.underlying77 Ty.em77 (rTy) rfl rfl zas zsel (Go.Sl.Ls.vw zas zhas) zlo zlo ?_;intro ao70 cap70 c70 hL70)
   refine qa<|qt<|cw_region<|qm ?_
   refine qv (v_add rfl rfl (nw_i64 zom zom))<|qa<|ow_nil ?_
   refine xw_block ?_
   rotate_left
   refine cw_skip<|xw_then<|cw_region<|qm ?_
   refine qv (v_add rfl rfl (nw_i64 zom zom))<|qa<|ow_nil ?_
   refine xw_block ?_
   rotate_left
   refine cw_skip<|xw_then<|cw_seq<|qs ?_
   refine qf Ty.fd137_1 ?_
   refine ql (Var.at1 Ty.sc27 (.there (.there (.there .here))) (GetN.lit rfl)) ?_
   refine qf Ty.fd137_1 ?_
   refine ql (Var.at1 Ty.sc27 (.there .here) (GetN.lit rfl)) ?_
   refine qv (v_build rfl (b_rng)) ?_
   refine ow_alloc rfl rfl Ty.ze137 fun b10=>?_
   refine ow_storeE rfl (rTy) rfl rfl .here zra zas ?_
   refine qt<|qs ?_
   refine ql (Var.atN Ty.ag137 .here GetN.all zra) ?_
   refine qv (v_call rfl rfl (empty_c)) ?_
   refine qv (v_not rfl)<|qt ?_
   refine cw_dec rfl (fun hc66=>?_) (fun hc66=>?_)
   refine cw_region<|qm ?_
   refine ql (Var.atN Ty.ag137 .here GetN.all zra) ?_
   (refine ow_buildL (es:=[(⟨r.b,(m.l[f+k]'hk2).b⟩)]) rfl rfl Tryz.underlying77 Ty.em77 (rTy) rfl rfl (by first|(simp[*];done)|(repeat (first|exact List.forall_mem_nil _|refine List.forall_mem_cons.2 ⟨?_,?_⟩|assumption|(show _∧_;omega)))) (by simp only[List.length_cons,List.length_nil];decide) ?_;intro ao69 c69 hL69)
   (refine ow_appendL rfl rfl Tryz.underlying77 Tryz.underlying77 Ty.em77 (rTy) rfl rfl zas zsel (Go.Sl.Ls.vw zas zhas) zlo zlo ?_;intro ao70 cap70 c70 hL70)
   refine qa<|qt<|cw_region<|qm ?_
   refine qv (v_add rfl rfl (nw_i64 zom zom))<|qa<|ow_nil ?_
   refine xw_block ?_
   rotate_left
   refine cw_skip<|xw_then<|cw_region<|qm ?_
   refine qv (v_add rfl rfl (nw_i64 zom zom))<|qa<|ow_nil ?_
   refine xw_block ?_
   rotate_left
   ·have e1:below r (m.l[f+k]'hk2)=[⟨(m.l[f+k]'hk2).a,r.a⟩]:=if_pos (by dsimp only at hc54;omega)
    have e2:above r (m.l[f+k]'hk2)=[⟨r.b,(m.l[f+k]'hk2).b⟩]:=if_pos (by dsimp only at hc66;omega)
    rw[e1,e2]at hm1
    exact xw_round (⟨k+1,lt++[⟨(m.l[f+k]'hk2).a,r.a⟩]++[⟨r.b,(m.l[f+k]'hk2).b⟩],ao70,cap70,c70⟩:CutIx) ⟨by dsimp only;omega,by simp;omega,by rw[hm1];simp only[List.append_assoc];rfl,by rw[hm2];dsimp only;rw[show f+(k+1)=f+k+1 by omega];omega,hL70⟩ zdo zcov zenv
   ·have e1:below r (m.l[f+k]'hk2)=[⟨(m.l[f+k]'hk2).a,r.a⟩]:=if_pos (by dsimp only at hc54;omega)
    have e2:above r (m.l[f+k]'hk2)=[]:=if_neg (by dsimp only at hc66;omega)
    rw[e1,e2]at hm1
    exact xw_round (⟨k+1,lt++[⟨(m.l[f+k]'hk2).a,r.a⟩],ao58,cap58,c58⟩:CutIx) ⟨by dsimp only;omega,by simp;omega,by rw[hm1];simp only[List.append_assoc];rfl,by rw[hm2];dsimp only;rw[show f+(k+1)=f+k+1 by omega];omega,hL58⟩ zdo zcov zenv
   ·have e1:below r (m.l[f+k]'hk2)=[]:=if_neg (by dsimp only at hc54;omega)
    have e2:above r (m.l[f+k]'hk2)=[⟨r.b,(m.l[f+k]'hk2).b⟩]:=if_pos (by dsimp only at hc66;omega)
    rw[e1,e2]at hm1
    exact xw_round (⟨k+1,lt++[⟨r.b,(m.l[f+k]'hk2).b⟩],ao70,cap70,c70⟩:CutIx) ⟨by dsimp only;omega,by simp;omega,by rw[hm1];simp only[List.append_assoc];rfl,by rw[hm2];dsimp only;rw[show f+(k+1)=f+k+1 by omega];omega,hL70⟩ zdo zcov zenv
   ·have e1:below r (m.l[f+k]'hk2)=[]:=if_neg (by dsimp only at hc54;omega)
    have e2:above r (m.l[f+k]'hk2)=[]:=if_neg (by dsimp only at hc66;omega)
    rw[e1,e2]at hm1
    exact xw_round (⟨k+1,lt,aoT,capT,ct⟩:CutIx) ⟨by dsimp only;omega,by dsimp only;omega,by rw[hm1];rfl,by rw[hm2];dsimp only;rw[show f+(k+1)=f+k+1 by omega];omega,hLt⟩ zdo zcov zenv
  all_goals
   have he:cutM r (m.l.drop (f+k))=([],0):=by
    by_cases hlt:f+k<m.l.length
    ·have h:=cutM_at (r:=r) hlt
     rw[if_neg zom]at h
     exact h
    ·exact cutM_end hlt
   rw[he]at hm1 hm2
   dsimp only at hm1 hm2
   rw[List.append_nil]at hm1
   rw[Nat.add_zero]at hm2
   rw[hm1,hm2]at hcd
   have hcdl:(cutL m.l r).length=f+lt.length+(m.l.length-(f+k)):=by rw[hcd,List.length_append,List.length_append,List.length_take,List.length_drop];omega
   refine cw_seq<|cw_seq ?_
   refine cw_quiet Ty.mixed zdk ?_
   refine kmv ?_
   refine kv (v_nilCheck rfl) ?_
   refine kv (v_fieldAddr0 Ty.fd169_1 rfl) ?_
   refine kv (v_load rfl (Var.at1 Ty.sc77 (.there (.there .here)) (GetN.lit rfl))) ?_
   refine kv (v_len rfl Tryz.underlying77 rfl) ?_
   refine kmv ?_
   refine kmv ?_
   refine kv (v_sub rfl rfl (nw_i64 zom zom)) ?_
   refine kv (v_sub rfl rfl (nw_i64 zom zom)) ?_
   refine kmv ?_
   refine kv (v_len rfl Tryz.underlying77 rfl) ?_
   refine kv (v_add rfl rfl (nw_i64 zom zom)) ?_
   refine kmv ?_
   refine kw_val rfl rfl (v_call rfl rfl (most_c hO' (Sub.app zhas zhas))) ?_
   refine kv (v_gtr rfl rfl) ?_
   refine kw_nil<|xw_then ?_
   refine cw_dec rfl (fun hc87=>?_) (fun hc87=>?_)
   refine qs<|qa<|qt ?_
   refine cw_ret ?_
   refine xw_then_ret ?_
   refine ret1 rfl (res_tmp rfl) ?_
   rotate_left
   refine cw_skip<|xw_then<|qs<|qm<|qm<|qn ?_
   refine qf Ty.fd169_1 ?_
   refine ql (Var.at1 Ty.sc77 (.there (.there .here)) (GetN.lit rfl))<|qm<|qm<|qm ?_
   (refine ow_call rfl rfl rfl rfl (replaceR_c (i:=f) (j:=f+k) (l2:=lt) rfl rfl zsel hL hLt zcov zom zom zom) ?_;rintro _ _ ⟨x96,rfl,hq96,rfl⟩)
   refine qn ?_
   refine qf Ty.fd169_1 ?_
   refine ow_store1 rfl rfl rfl rfl Ty.sc77 (.there (.there .here)) (SetN.one zdn)<|qt<|qs<|qa<|qt ?_
   refine cw_ret ?_
   refine ret1 rfl (res_tmp rfl) ?_
   rotate_left
   ·rw[show m.cut r=(m,7) from by rw[SetM.cut,if_neg zom,if_pos (by rw[hcdl];omega)]]
    exact⟨_,rfl,⟨ao,cap,cl,rfl,hL⟩,zcov⟩
   ·rw[show m.cut r=(⟨m.limit,cutL m.l r⟩,0) from by rw[SetM.cut,if_neg zom,if_neg (by rw[hcdl];omega)],hcd]
    exact⟨_,rfl,⟨x96.1,x96.2.1,x96.2.2,rfl,hq96⟩,zcov⟩
end Go.Proofs.YtnlaffkihohfkaaGreat
namespace Go.Proofs.YtnlaffkihohfkaaGreat
open Go Go.Sl Go.Proofs Go.RowKit Go.ChangeShapes Go.WideShapes Go.ChangeAt
variable {B:Nat}{w0:World}{G:List Hp}{R:Hp→List Hp}
theorem setAddOk_c {m:SetM}{b:Nat}{c:Hp}{r:Rg}(hsel:Sel G c R)(hO:SetAt m b c)(hw:m.WF)(hr:RgIn r)(h:((addE m.l r).length:Int)≤max m.limit 1):
  Go.Sl.Fn Tryz.prog 77 #[.pointer (some ⟨b,0,none⟩),enR.val r] B w0 G fun u G'=>∃c':Hp,u=.int .i64 0∧SetAt ⟨m.limit,addE m.l r⟩ b c'∧G'=R c':=by
 have h1:=setAdd_c (B:=B) (w0:=w0) hsel hO hw hr
 rw[SetM.addOk h]at h1
 exact h1
theorem setCutOk_c {m:SetM}{b:Nat}{c:Hp}{r:Rg}(hsel:Sel G c R)(hO:SetAt m b c)(hw:m.WF)(hr:RgIn r)(h:((cutE m.l r).length:Int)≤max m.limit 1):
  Go.Sl.Fn Tryz.prog 88 #[.pointer (some ⟨b,0,none⟩),enR.val r] B w0 G fun u G'=>∃c':Hp,u=.int .i64 0∧SetAt ⟨m.limit,cutE m.l r⟩ b c'∧G'=R c':=by
 have h1:=setCut_c (B:=B) (w0:=w0) hsel hO hw hr
 rw[SetM.cutOk h]at h1
 exact h1
theorem capLe {α:Type}{En:Enc α}{e:TypeId}{ao:Option Addr}{n cap:Nat}{c:Hp}{l:List α}(h:Ls En e (.slice ao n cap) c l):l.length≤cap:=by
 obtain⟨_,_,hv,hc⟩:=h.view
 injection hv with _ _ h3
 omega
theorem oldVw {α:Type}[Inhabited α]{En:Enc α}{B:Nat}{w0:World}{ao:Option Addr}{len cap:Nat}{F:Nat→α}{P:Program}{e:TypeId}(he:EncTy P e En)(h:OldSl B w0 En.size ao len (fun i=>En.f (F i)))(hok:∀i,i<len→En.ok (F i))(hc:len≤cap)(G:List Hp):
  Vw En (St B w0 G) (.slice ao ((List.range len).map F).length cap) ((List.range len).map F):=by
 have hoks:∀a∈(List.range len).map F,En.ok a:=fun a ha=>by
  obtain⟨i,hi,rfl⟩:=List.mem_map.1 ha
  exact hok i (List.mem_range.1 hi)
 refine⟨⟨ao,cap,rfl,by simpa using hc⟩,hoks,fun ao' n' cap' hv hl=>?_⟩
 injection hv with e1 e2 e3
 subst e1
 obtain⟨b,o,h1,h2,h3⟩:=h.get 0 (by simpa using hl)
 subst h1
 refine⟨rfl,fun i u hu=>?_⟩
 simp only[bOf_some,oOf_some]
 have hp:=he.pos
 have hlen:(((List.range len).map F).flatMap En.f).length=len*En.size:=by
  rw[fm_len (k:=En.size) fun a ha=>he.len a (hoks a ha)]
  simp
 have hi:i<len*En.size:=by rw[←hlen];exact(List.getElem?_eq_some_iff.1 hu).1
 have hq:i/En.size<len:=Nat.div_lt_of_lt_mul (by rw[Nat.mul_comm];exact hi)
 have hm:=Nat.mod_lt i hp
 have hdm:i=i/En.size*En.size+i%En.size:=by rw[Nat.mul_comm];exact(Nat.div_add_mod i En.size).symm
 obtain⟨b',o',g1,g2,g3⟩:=h.get (i/En.size) hq
 injection g1 with g1
 injection g1 with g4 g5
 subst g4
 subst g5
 have hfl:=he.len _ (hok _ hq)
 have hu2:(En.f (F (i/En.size)))[i%En.size]?=some u:=by
  have hx:i%En.size<(En.f (F (i/En.size))).length:=by rw[hfl];exact hm
  have:=fm_get (f:=En.f) (k:=En.size) (l:=(List.range len).map F) (i:=i/En.size) (j:=i%En.size) (fun a ha=>he.len a (hoks a ha)) (by simp[hq]) (List.getElem?_eq_getElem hx)
  rw[←hdm,hu]at this
  rw[List.getElem?_eq_getElem hx]
  exact this.symm
 have:=g3 _ _ hu2
 rw[Nat.add_assoc,←hdm]at this
 exact Cell.old g2 this
theorem setLen_l {k:Int}{l:List Rg}{b:Nat}{c:Hp}(hO:SetAt ⟨k,l⟩ b c)(hs:Sub c G):
  Go.Sl.Fn Tryz.prog 72 #[.pointer (some ⟨b,0,none⟩)] B w0 G fun u G'=>u=.int .i64 l.length∧G'=G:=setLen_c hO hs
theorem setList_l {k:Int}{l:List Rg}{b:Nat}{c:Hp}(hO:SetAt ⟨k,l⟩ b c)(hs:Sub c G)(hw:(⟨k,l⟩:SetM).WF):
  Go.Sl.Fn Tryz.prog 91 #[.pointer (some ⟨b,0,none⟩)] B w0 G fun u G'=>∃x:Option Addr×Nat×Hp,u=.slice x.1 l.length x.2.1∧Ls enR 137 (.slice x.1 l.length x.2.1) x.2.2 l∧G'=[x.2.2]++G:=setList_c hO hs hw
theorem setFirst_l {k:Int}{l:List Rg}{b:Nat}{c:Hp}{n:Int}(hO:SetAt ⟨k,l⟩ b c)(hs:Sub c G)(hw:(⟨k,l⟩:SetM).WF):
  Go.Sl.Fn Tryz.prog 86 #[.pointer (some ⟨b,0,none⟩),.int .u64 n] B w0 G fun u G'=>u=.tuple #[enR.val (firstR l n).1,.bool (firstR l n).2]∧G'=G:=setFirst_c hO hs hw
theorem setCount_l {k:Int}{l:List Rg}{b:Nat}{c:Hp}(hO:SetAt ⟨k,l⟩ b c)(hs:Sub c G)(hw:(⟨k,l⟩:SetM).WF):
  Go.Sl.Fn Tryz.prog 93 #[.pointer (some ⟨b,0,none⟩)] B w0 G fun u G'=>u=.int .u64 (cntR l)∧G'=G:=setCount_c hO hs hw
theorem setAddOk_l {k:Int}{l:List Rg}{b:Nat}{c:Hp}{R:Hp→List Hp}{r:Rg}(hsel:Sel G c R)(hO:SetAt ⟨k,l⟩ b c)(hw:(⟨k,l⟩:SetM).WF)(hr:RgIn r)(h:((addE l r).length:Int)≤max k 1):
  Go.Sl.Fn Tryz.prog 77 #[.pointer (some ⟨b,0,none⟩),enR.val r] B w0 G fun u G'=>∃c':Hp,u=.int .i64 0∧SetAt ⟨k,addE l r⟩ b c'∧G'=R c':=setAddOk_c hsel hO hw hr h
theorem setCutOk_l {k:Int}{l:List Rg}{b:Nat}{c:Hp}{R:Hp→List Hp}{r:Rg}(hsel:Sel G c R)(hO:SetAt ⟨k,l⟩ b c)(hw:(⟨k,l⟩:SetM).WF)(hr:RgIn r)(h:((cutE l r).length:Int)≤max k 1):
  Go.Sl.Fn Tryz.prog 88 #[.pointer (some ⟨b,0,none⟩),enR.val r] B w0 G fun u G'=>∃c':Hp,u=.int .i64 0∧SetAt ⟨k,cutE l r⟩ b c'∧G'=R c':=setCutOk_c hsel hO hw hr h
end Go.Proofs.YtnlaffkihohfkaaGreat
namespace Go.Proofs.YtnlaffkihohfkaaGreat
open Go Go.Sl Go.Proofs
variable {B:Nat}{w0:World}{G:List Hp}{R:Hp→List Hp}
theorem good_len {l:List Rg}:∀{u v:Int},Good l→u≤v→(∀x∈l,u≤x.a∧x.b≤v)→(l.length:Int)≤v-u:=by
 induction l with
 |nil=>intro u v _ h _;simp;omega
 |cons x l ih=>
  intro u v hg huv hx
  obtain⟨hxo,hxl,hl⟩:=Good.cons.1 hg
  have h1:=hx x (List.mem_cons_self)
  have h2:=hxo.2.1
  have:=ih (u:=x.b) (v:=v) hl zom fun y hy=>⟨by have:=hxl y hy;omega,(hx y (List.mem_cons_of_mem _ hy)).2⟩
  simp
  omega
theorem in_bounds {l:List Rg}{u v:Int}(hg:Good l)(h:∀n,InR l n→u≤n∧n<v):∀x∈l,u≤x.a∧x.b≤v:=fun x hx=>by
 have h1:=(hg.1 x hx).2.1
 have h2:=h x.a ⟨x,hx,Int.le_refl _,h1⟩
 have h3:=h (x.b-1) ⟨x,hx,by omega,by omega⟩
 omega
theorem good_len' {l:List Rg}{u v:Int}(hg:Good l)(huv:u≤v)(h:∀n,InR l n→u≤n∧n<v):(l.length:Int)≤v-u:=good_len hg huv (in_bounds hg h)
theorem add_fits {l:List Rg}{r:Rg}{v:Int}(hg:Good l)(hr:RgIn r)(hv:0≤v)(h:∀n,InR l n→0≤n∧n<v)(hb:r.b≤v):Good (addE l r)∧(∀n,InR (addE l r) n↔InR l n∨(r.a≤n∧n<r.b))∧((addE l r).length:Int)≤v:=by
 obtain⟨g1,g2,_⟩:=addE_spec hg hr
 refine⟨g1,g2,?_⟩
 have:=good_len' (u:=0) (v:=v) g1 hv fun n hn=>by
  rcases (g2 n).1 hn with h1|h1
  ·exact h n h1
  ·have:=hr.1.1;omega
 omega
theorem cut_fits {l:List Rg}{r:Rg}{v:Int}(hg:Good l)(hr:RgIn r)(hv:0≤v)(h:∀n,InR l n→0≤n∧n<v):Good (cutE l r)∧(∀n,InR (cutE l r) n↔InR l n∧¬(r.a≤n∧n<r.b))∧((cutE l r).length:Int)≤v:=by
 obtain⟨g1,g2,_⟩:=cutE_spec hg hr
 refine⟨g1,g2,?_⟩
 have:=good_len' (u:=0) (v:=v) g1 hv fun n hn=>h n ((g2 n).1 hn).1
 omega
theorem first_low {l:List Rg}{n:Int}(hg:Good l):((firstR l n).2=false∧∀k,InR l k→k<n)∨((firstR l n).2=true∧n≤(firstR l n).1.a∧(firstR l n).1.a<(firstR l n).1.b∧(∀k,(firstR l n).1.a≤k→k<(firstR l n).1.b→InR l k)∧(∀k,InR l k→n≤k→(firstR l n).1.a≤k)∧¬InR l (firstR l n).1.b):=by
 unfold firstR
 split
 ·rename_i h
  have h2:(decide (n<l[cutAt (fun x=>decide (n<x.b)) l].b))=true:=List.findIdx_getElem (w:=h)
  have h2:=of_decide_eq_true h2
  have h3:=(hg.1 _ (List.getElem_mem h)).2.1
  refine .inr ⟨rfl,by dsimp only;omega,by dsimp only;omega,fun k h4 h5=>⟨_,List.getElem_mem h,by dsimp only at h4;omega,h5⟩,?_,?_⟩
  ·rintro k ⟨x,hx,h4,h5⟩ h6
   obtain⟨i,hi,rfl⟩:=List.mem_iff_getElem.1 hx
   dsimp only
   rcases Nat.lt_trichotomy i (cutAt (fun x=>decide (n<x.b)) l)with h7|h7|h7
   ·have:=List.not_of_lt_findIdx (p:=fun x:Rg=>decide (n<x.b)) h7
    simp at this
    omega
   ·subst h7
    omega
   ·have:=List.pairwise_iff_getElem.1 hg.2 _ i h hi h7
    omega
  ·rintro⟨x,hx,h4,h5⟩
   obtain⟨i,hi,rfl⟩:=List.mem_iff_getElem.1 hx
   dsimp only at h4 h5
   rcases Nat.lt_trichotomy i (cutAt (fun x=>decide (n<x.b)) l)with h7|h7|h7
   ·have:=List.pairwise_iff_getElem.1 hg.2 i _ hi h h7
    omega
   ·subst h7
    omega
   ·have:=List.pairwise_iff_getElem.1 hg.2 _ i h hi h7
    omega
 ·rename_i h
  refine .inl ⟨rfl,?_⟩
  rintro k ⟨x,hx,h4,h5⟩
  obtain⟨i,hi,rfl⟩:=List.mem_iff_getElem.1 hx
  have h6:i<cutAt (fun x=>decide (n<x.b)) l:=by omega
  have:=List.not_of_lt_findIdx (p:=fun x:Rg=>decide (n<x.b)) h6
  simp at this
  omega
end Go.Proofs.YtnlaffkihohfkaaGreat
