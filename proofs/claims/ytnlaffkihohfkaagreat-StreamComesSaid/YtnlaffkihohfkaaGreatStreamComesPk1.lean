/- A small separation logic over the walk's rules: a symbolic frame (slots and values), a symbolic heap (chunks of blocks that the call owns), one rule for each operation. Conditions: none; nothing here speaks of a given program. The rules of the small separation logic for code: sequences, tests, loops, regions, calls, returns. Conditions: none; nothing here speaks of a given program. The rules of the small separation logic for single operations. Conditions: none; nothing here speaks of a given program. The rules of the small separation logic for memory: new blocks, loads and stores, appends and copies. Conditions: none; nothing here speaks of a given program. Regions that draw their order, whose operations read, but for some at the end (the tail), each of which waits for all that reads memory: one walk in the text's order serves every order. Conditions: none; nothing here speaks of a given program. How a law's arguments lie in memory, and how a walk that writes nothing old proves the law's row. Conditions: none; nothing here speaks of a given program. Lists in memory: what a slice of encoded elements holds, how it is read, written, appended to; bytes and strings. Conditions: none; nothing here speaks of a given program. -/
import Derived.WalkKit
import Derived.Deep.Quiet
import Derived.KernelRfl
import Derived.Laws.CopyOwn
import Derived.ProofKit
import Derived.OpenShut
import Derived.ShutString
import Derived.ChangeOld
import Derived.Laws.IdiomStrings
import Derived.Laws.StructEq
set_option maxRecDepth 20000
set_option linter.unusedVariables false
set_option linter.unusedSimpArgs false
namespace Go.Sl
open Go.RowKit
abbrev Env:=List (Nat×Value)
def Env.look:Env→Nat→Option Value
 |[],_=>none
 |(d,v)::e,t=>bif Nat.beq d t then some v else Env.look e t
theorem nbeq {d t:Nat}(h:¬d=t):Nat.beq d t=false:=by
 cases hb:Nat.beq d t with
 |false=>rfl
 |true=>exact absurd (Nat.eq_of_beq_eq_true hb) h
structure EnvOK (N:Nat)(E:Env)(a:Act):Prop where
 size:a.tmps.size=N
 defers:a.defers=[]
 val:∀t v,Env.look E t=some v→a.tmps[t]?=some v
theorem EnvOK.put {N:Nat}{E:Env}{a:Act}(h:EnvOK N E a){d:Nat}(hd:d<N)(v:Value):EnvOK N ((d,v)::E) (a.put (some d) v):=by
 refine⟨by simp[Act.put,h.size],h.defers,fun t u ht=>?_⟩
 simp only[Env.look]at ht
 by_cases hdt:d=t
 ·subst hdt
  simp at ht
  subst ht
  simp[Act.put,h.size,hd]
 ·have hb:Nat.beq d t=false:=nbeq hdt
  rw[hb]at ht
  simp[Act.put,Array.getElem?_setIfInBounds_ne hdt]
  exact h.val t u ht
def Env.ev (E:Env):Operand→Option Value
 |.tmp t=>Env.look E t
 |.const v=>some v
 |.global g=>some (.pointer (some ⟨g,0,none⟩))
 |.func f=>some (.func (.func f) #[] #[])
theorem EnvOK.ev {N:Nat}{E:Env}{a:Act}(h:EnvOK N E a){x:Operand}{v:Value}(hx:Env.ev E x=some v):a.eval x=v:=by
 cases x with
 |tmp t=>
  have:=h.val t v hx
  simp[Act.eval,this]
 |const u=>simpa [Env.ev,Act.eval] using hx
 |global g=>simpa [Env.ev,Act.eval] using hx
 |func f=>simpa [Env.ev,Act.eval] using hx
def Env.sub:Env→Env→Prop
 |[],_=>True
 |(t,v)::r,E=>Env.look E t=some v∧Env.sub r E
theorem Env.sub_look {E' E:Env}(h:Env.sub E' E):∀t v,Env.look E' t=some v→Env.look E t=some v:=by
 induction E' with
 |nil=>intro t v ht;simp[Env.look]at ht
 |cons p r ih=>
  obtain⟨d,u⟩:=p
  intro t v ht
  simp only[Env.look]at ht
  by_cases hdt:d=t
  ·subst hdt
   simp at ht
   subst ht
   exact h.1
  ·have hb:Nat.beq d t=false:=nbeq hdt
   rw[hb]at ht
   exact ih h.2 t v ht
theorem EnvOK.sub {N:Nat}{E E':Env}{a:Act}(h:EnvOK N E a)(hs:Env.sub E' E):EnvOK N E' a:=
 ⟨h.size,h.defers,fun t v ht=>h.val t v (Env.sub_look hs t v ht)⟩
def Env.le (E' E:Env):Prop:=∀t v,Env.look E' t=some v→Env.look E t=some v
theorem Env.le.refl (E:Env):Env.le E E:=fun _ _ h=>h
theorem EnvOK.le {N:Nat}{E E':Env}{a:Act}(h:EnvOK N E a)(hs:Env.le E' E):EnvOK N E' a:=
 ⟨h.size,h.defers,fun t v ht=>h.val t v (hs t v ht)⟩
abbrev Hp:=List (Nat×Obj)
structure St (B:Nat)(w0:World)(G:List Hp)(w:World):Prop where
 below:Below B w0 w
 base:B≤w0.heap.size
 has:∀p∈G.flatten,B≤p.1∧w.heap[p.1]?=some p.2
 nodup:(G.flatten.map Prod.fst).Nodup
theorem St.start {B:Nat}{w:World}(h:B≤w.heap.size):St B w [] w:=
 ⟨Below.refl _ _,h,by simp,by simp⟩
theorem St.lt {B:Nat}{w0:World}{G:List Hp}{w:World}(h:St B w0 G w){p:Nat×Obj}(hp:p∈G.flatten):p.1<w.heap.size:=by
 have:=(h.has p hp).2
 exact(Array.getElem?_eq_some_iff.1 this).1
theorem St.drew {B:Nat}{w0:World}{G:List Hp}{w:World}(h:St B w0 G w):St B w0 G w.drew:=
 ⟨h.below.drew,h.base,h.has,h.nodup⟩
theorem St.drewEq {B:Nat}{w0:World}{G:List Hp}{w:World}(h:St B w0 G w):St B w0 G {w with drawn:=w.drawn+1}:=
 ⟨⟨h.below.os,h.below.tape,h.below.output,h.below.size,h.below.block⟩,h.base,h.has,h.nodup⟩
theorem flatten_sub {α:Type}{l m:List (List α)}(h:List.Sublist l m):List.Sublist l.flatten m.flatten:=by
 induction h with
 |slnil=>exact List.Sublist.refl _
 |cons a _ ih=>simp only[List.flatten_cons];exact ih.trans (List.sublist_append_right _ _)
 |cons_cons a _ ih=>simp only[List.flatten_cons];exact(List.Sublist.refl a).append ih
theorem St.weak {B:Nat}{w0:World}{G G':List Hp}{w:World}(h:St B w0 G w)(hs:List.Sublist G' G):St B w0 G' w:=by
 have hf:List.Sublist G'.flatten G.flatten:=flatten_sub hs
 exact⟨h.below,h.base,fun p hp=>h.has p (hf.subset hp),(hf.map Prod.fst).nodup h.nodup⟩
theorem St.perm {B:Nat}{w0:World}{G G':List Hp}{w:World}(h:St B w0 G w)(hs:G.Perm G'):St B w0 G' w:=by
 have hf:G.flatten.Perm G'.flatten:=hs.flatten
 exact⟨h.below,h.base,fun p hp=>h.has p (hf.mem_iff.2 hp),(hf.map Prod.fst).nodup_iff.1 h.nodup⟩
inductive Sel:List Hp→Hp→(Hp→List Hp)→Prop where
 |here {c:Hp} {G:List Hp}:Sel (c::G) c (fun x=>x::G)
 |there {y c:Hp} {G:List Hp} {R:Hp→List Hp} (h:Sel G c R):Sel (y::G) c (fun x=>y::R x)
theorem Sel.perm {G:List Hp}{c:Hp}{R:Hp→List Hp}(h:Sel G c R):∃F:List Hp,G.Perm (c::F)∧∀x,(R x).Perm (x::F):=by
 induction h with
 |here=>exact⟨_,List.Perm.refl _,fun _=>List.Perm.refl _⟩
 |@there y c G R _ ih=>
  obtain⟨F,h1,h2⟩:=ih
  exact⟨y::F,(List.Perm.cons y h1).trans (List.Perm.swap _ _ _),fun x=>(List.Perm.cons y (h2 x)).trans (List.Perm.swap _ _ _)⟩
theorem Sel.eq {G:List Hp}{c:Hp}{R:Hp→List Hp}(h:Sel G c R):R c=G:=by
 induction h with
 |here=>rfl
 |there _ ih=>simp[ih]
theorem St.read {B:Nat}{w0:World}{G:List Hp}{w:World}(h:St B w0 G w){c:Hp}{R:Hp→List Hp}(hs:Sel G c R){b:Nat}{o:Obj}(hb:(b,o)∈c):w.heap[b]?=some o:=by
 obtain⟨F,h1,_⟩:=hs.perm
 refine(h.has (b,o) ?_).2
 refine(h1.flatten).mem_iff.2 ?_
 simp[hb]
theorem St.write {B:Nat}{w0:World}{G:List Hp}{w w':World}(h:St B w0 G w){b:Nat}{o o':Obj}{R:Hp→List Hp}(hs:Sel G [(b,o)] R)
  (hos:w'.os=w.os) (htape:w'.tape=w.tape) (hout:w'.output=w.output) (hsize:w'.heap.size=w.heap.size) (hb:w'.heap[b]?=some o') (hne:∀k,k≠b→w'.heap[k]?=w.heap[k]?):
  St B w0 (R [(b,o')]) w':=by
 obtain⟨F,h1,h2⟩:=hs.perm
 have hp:=h.perm h1
 have hB:B≤b:=(hp.has (b,o) (by simp)).1
 have hn:=hp.nodup
 simp only[List.flatten_cons,List.singleton_append,List.map_cons,List.nodup_cons]at hn
 refine St.perm (G:=[(b,o')]::F) ?_ (h2 _).symm
 refine⟨⟨hos.trans h.below.os,htape.trans h.below.tape,hout.trans h.below.output,by rw[hsize];exact h.below.size,fun k hk=>(hne k (by omega)).trans (h.below.block k hk)⟩,h.base,?_,?_⟩
 ·intro p hmem
  simp only[List.flatten_cons,List.singleton_append,List.mem_cons]at hmem
  rcases hmem with rfl|hmem
  ·exact⟨hB,hb⟩
  ·have h3:=hp.has p (by simp[hmem])
   refine⟨h3.1,?_⟩
   rw[hne p.1 ?_]
   ·exact h3.2
   ·rintro rfl
    exact hn.1 (List.mem_map.2 ⟨p,hmem,rfl⟩)
 ·simp only[List.flatten_cons,List.singleton_append,List.map_cons,List.nodup_cons]
  exact hn
theorem St.new {B:Nat}{w0:World}{G:List Hp}{w:World}(h:St B w0 G w)(o:Obj):St B w0 ([(w.heap.size,o)]::G) (w.alloc o):=by
 refine⟨h.below.alloc (Nat.le_trans h.base h.below.size) o,h.base,?_,?_⟩
 ·intro p hp
  simp only[List.flatten_cons,List.singleton_append,List.mem_cons]at hp
  rcases hp with rfl|hp
  ·exact⟨Nat.le_trans h.base h.below.size,Go.heap_alloc_new w o⟩
  ·have h1:=h.has p hp
   exact⟨h1.1,by rw[Below.heap_alloc w o p.1 (h.lt hp)];exact h1.2⟩
 ·simp only[List.flatten_cons,List.singleton_append,List.map_cons,List.nodup_cons]
  refine⟨fun hm=>?_,h.nodup⟩
  obtain⟨p,hp,he⟩:=List.mem_map.1 hm
  have:=h.lt hp
  omega
theorem St.old {B:Nat}{w0:World}{G:List Hp}{w:World}(h:St B w0 G w){b:Nat}(hb:b<B):w.heap[b]?=w0.heap[b]?:=h.below.block b hb
theorem St.flat {B:Nat}{w0:World}{G G':List Hp}{w:World}(h:St B w0 G w)(he:G.flatten.Perm G'.flatten):St B w0 G' w:=
 ⟨h.below,h.base,fun p hp=>h.has p (he.mem_iff.2 hp),(he.map Prod.fst).nodup_iff.1 h.nodup⟩
noncomputable def cnt (p:Nat×Obj)(l:Hp):Nat:=l.countP fun q=>@decide (q=p) (Classical.propDecidable _)
@[simp] theorem cnt_nil (p:Nat×Obj):cnt p []=0:=rfl
theorem cnt_append (p:Nat×Obj)(l m:Hp):cnt p (l++m)=cnt p l+cnt p m:=by simp[cnt,List.countP_append]
theorem cnt_cons (p q:Nat×Obj)(r:Nat×Obj)(l:Hp):cnt p (q::r::l)=cnt p [q]+cnt p (r::l):=by
 rw[←cnt_append];rfl
theorem cnt_pos {p:Nat×Obj}{l:Hp}(h:0<cnt p l):p∈l:=by
 unfold cnt at h
 obtain⟨q,hq,he⟩:=List.countP_pos_iff.1 h
 have:q=p:=by simpa using he
 subst this
 exact hq
theorem cnt_self (p:Nat×Obj)(l:Hp):cnt p (p::l)=cnt p l+1:=by
 unfold cnt
 rw[List.countP_cons]
 simp
theorem cnt_ne {p q:Nat×Obj}(h:¬q=p)(l:Hp):cnt p (q::l)=cnt p l:=by
 unfold cnt
 rw[List.countP_cons]
 simp[h]
theorem cnt_perm {l m:Hp}(h:l.Perm m)(p:Nat×Obj):cnt p l=cnt p m:=by
 unfold cnt;exact h.countP_eq _
theorem cnt_sub:∀(l m:Hp),(∀p,cnt p l≤cnt p m)→∃r,m.Perm (l++r)
 |[],m,_=>⟨m,List.Perm.refl _⟩
 |x::l,m,h=>by
  have hx:x∈m:=cnt_pos (by have:=h x;rw[cnt_self]at this;omega)
  obtain⟨a,b,rfl⟩:=List.append_of_mem hx
  have hp:(a++x::b).Perm (x::(a++b)):=List.perm_middle
  have h2:∀p,cnt p l≤cnt p (a++b):=fun p=>by
   have h3:=h p
   rw[cnt_perm hp p]at h3
   by_cases hq:x=p
   ·subst hq
    rw[cnt_self,cnt_self]at h3
    omega
   ·rw[cnt_ne hq,cnt_ne hq]at h3
    exact h3
  obtain⟨r,hr⟩:=cnt_sub l (a++b) h2
  exact⟨r,hp.trans (List.Perm.cons x hr)⟩
def Cov (X G:List Hp):Prop:=∀p,cnt p X.flatten≤cnt p G.flatten
theorem Cov.refl (G:List Hp):Cov G G:=fun _=>Nat.le_refl _
theorem Cov.trans {X Y Z:List Hp}(h:Cov X Y)(h2:Cov Y Z):Cov X Z:=fun p=>Nat.le_trans (h p) (h2 p)
theorem Cov.of_perm {X G:List Hp}(h:X.Perm G):Cov X G:=fun p=>Nat.le_of_eq (cnt_perm h.flatten p)
theorem St.cov {B:Nat}{w0:World}{X G:List Hp}{w:World}(h:St B w0 G w)(hc:Cov X G):St B w0 X w:=by
 obtain⟨r,hr⟩:=cnt_sub _ _ hc
 have h1:=h.flat (G':=[X.flatten++r]) (by simpa using hr)
 refine⟨h.below,h.base,fun p hp=>h1.has p (by simp[hp]),?_⟩
 have h2:=h1.nodup
 simp only[List.flatten_cons,List.flatten_nil,List.append_nil,List.map_append]at h2
 exact(List.nodup_append.1 h2).1
def Sub (c:Hp)(G:List Hp):Prop:=∀p∈c,p∈G.flatten
theorem Sub.here {c:Hp}{G:List Hp}:Sub c (c::G):=fun p hp=>by simp[hp]
theorem Sub.there {c y:Hp}{G:List Hp}(h:Sub c G):Sub c (y::G):=fun p hp=>by
 have:=h p hp
 simp only[List.flatten_cons,List.mem_append]
 exact .inr this
theorem Sub.left {a b:Hp}{G:List Hp}(h:Sub (a++b) G):Sub a G:=fun p hp=>h p (List.mem_append_left _ hp)
theorem Sub.right {a b:Hp}{G:List Hp}(h:Sub (a++b) G):Sub b G:=fun p hp=>h p (List.mem_append_right _ hp)
theorem Sub.app {a b:Hp}{G:List Hp}(h1:Sub a G)(h2:Sub b G):Sub (a++b) G:=fun p hp=>by
 rcases List.mem_append.1 hp with h|h
 ·exact h1 p h
 ·exact h2 p h
theorem St.sub {B:Nat}{w0:World}{G:List Hp}{w:World}(h:St B w0 G w){c:Hp}(hs:Sub c G){b:Nat}{o:Obj}(hb:(b,o)∈c):w.heap[b]?=some o:=(h.has _ (hs _ hb)).2
def Cell (S:World→Prop)(p:Addr)(v:Value):Prop:=∀w,S w→w.cell? p=some v
theorem Cell.of {B:Nat}{w0:World}{G:List Hp}{c:Hp}{R:Hp→List Hp}{b:Nat}{cs:Array Value}{T:TypeId}{fr:Nat×Nat}{off:Nat}{v:Value}
  (hs:Sel G c R) (hb:(b,.cells cs T fr)∈c) (hv:cs[off]?=some v):Cell (St B w0 G) ⟨b,off,none⟩ v:=fun w hw=>by
 simp[World.cell?,hw.read hs hb,hv]
theorem Cell.sub {B:Nat}{w0:World}{G:List Hp}{c:Hp}{b:Nat}{cs:Array Value}{T:TypeId}{fr:Nat×Nat}{off:Nat}{v:Value}
  (hs:Sub c G) (hb:(b,.cells cs T fr)∈c) (hv:cs[off]?=some v):Cell (St B w0 G) ⟨b,off,none⟩ v:=fun w hw=>by
 simp[World.cell?,hw.sub hs hb,hv]
theorem Cell.old {B:Nat}{w0:World}{G:List Hp}{b off:Nat}{v:Value}(hb:b<B)(hv:w0.cell? ⟨b,off,none⟩=some v):Cell (St B w0 G) ⟨b,off,none⟩ v:=fun w hw=>by
 rw[←hv]
 exact World.cell?_of_block (w:=w0) (hw.old hb)
structure Scalar (P:Program)(T:TypeId):Prop where
 agg:∀w:World,(isAgg T).run P w=.ok false w
 size:(P.info? T).map (·.size)=some 1
structure Agg (P:Program)(T:TypeId)(n:Nat):Prop where
 agg:∀w:World,(isAgg T).run P w=.ok true w
 size:(P.info? T).map (·.size)=some n
def Var (P:Program)(S:World→Prop)(T:TypeId)(p:Addr)(v:Value):Prop:=∀w,S w→(loadVar T p).run P w=.ok v w
theorem run_sizeOf {P:Program}{T:TypeId}{n:Nat}(h:(P.info? T).map (·.size)=some n)(w:World):(sizeOf T).run P w=.ok n w:=by
 cases hq:P.info? T with
 |none=>simp[hq]at h
 |some i=>
  have:i.size=n:=by simpa [hq] using h
  simp[sizeOf,typeInfo,hq,this]
theorem Var.one {P:Program}{S:World→Prop}{T:TypeId}{p:Addr}{v:Value}(hT:Scalar P T)(h:Cell S p v):Var P S T p v:=fun w hw=>by
 have h1:=hT.agg w
 have h2:=h w hw
 simp[loadVar,Sem.run_bind,h1,load,Sem.run,h2]
theorem Var.many {P:Program}{S:World→Prop}{T:TypeId}{p:Addr}{vs:List Value}(hT:Agg P T vs.length)(h:∀i v,vs[i]?=some v→Cell S (p.add i) v):Var P S T p (.agg vs.toArray):=fun w hw=>by
 have hl:(loadCells p vs.length).run P w=.ok vs.toArray w:=run_loadCells_list (P:=P) w p vs (fun i v hv=>h i v hv w hw)
 simp[loadVar,Sem.run_bind,hT.agg w,run_sizeOf hT.size w,hl]
end Go.Sl
namespace Go.Sl
open Go.RowKit
variable {P:Program}{ops:Array Oper}{Q:Exit→Act→World→Prop}{B:Nat}{w0:World}{N:Nat}{G:List Hp}{E:Env}
def OW (P:Program)(ops:Array Oper)(Q:Exit→Act→World→Prop)(B:Nat)(w0:World)(N:Nat)(G:List Hp)(E:Env)(rest:List Oper):Prop:=
 ∀a w,EnvOK N E a→St B w0 G w→wpList P ops Q rest a w
def CW (P:Program)(Q:Exit→Act→World→Prop)(B:Nat)(w0:World)(N:Nat)(G:List Hp)(E:Env)(c:Code):Prop:=
 ∀a w,EnvOK N E a→St B w0 G w→Code.wp P c Q a w
def XW (Q:Exit→Act→World→Prop)(B:Nat)(w0:World)(N:Nat)(G:List Hp)(E:Env)(x:Exit):Prop:=
 ∀a w,EnvOK N E a→St B w0 G w→Q x a w
def KW (P:Program)(ops:Array Oper)(Q:Exit→Act→World→Prop)(B:Nat)(w0:World)(N:Nat)(G:List Hp)(E:Env)(rest:List Oper):Prop:=
 ∀a,EnvOK N E a→wpQuiet P ops (St B w0 G) (fun a'=>∀w',St B w0 G w'→Q .normal a' w') rest a
theorem cw_seq {x y:Code}(h:CW P (Exit.then (y.wp P Q) Q) B w0 N G E x):CW P Q B w0 N G E (.seq x y):=fun a w ha hw=>wp_seq (h a w ha hw)
theorem xw_then {y:Code}(h:CW P Q B w0 N G E y):XW (Exit.then (y.wp P Q) Q) B w0 N G E .normal:=h
theorem xw_then_ret {K:Act→World→Prop}(h:XW Q B w0 N G E .ret):XW (Exit.then K Q) B w0 N G E .ret:=h
theorem xw_then_exit {K:Act→World→Prop}{i:Nat}(h:XW Q B w0 N G E (.exit i)):XW (Exit.then K Q) B w0 N G E (.exit i):=h
theorem cw_block {i:Nat}{c:Code}(h:CW P (Exit.inBlock i Q) B w0 N G E c):CW P Q B w0 N G E (.block i c):=fun a w ha hw=>wp_block (h a w ha hw)
theorem xw_block {i:Nat}(h:XW Q B w0 N G E .normal):XW (Exit.inBlock i Q) B w0 N G E .normal:=h
theorem xw_block_ret {i:Nat}(h:XW Q B w0 N G E .ret):XW (Exit.inBlock i Q) B w0 N G E .ret:=h
theorem xw_block_exit {i:Nat}(h:XW Q B w0 N G E .normal):XW (Exit.inBlock i Q) B w0 N G E (.exit i):=fun a w ha hw=>by
 simp only[Exit.inBlock,if_true]
 exact h a w ha hw
theorem xw_block_other {i j:Nat}(hij:Nat.beq j i=false)(h:XW Q B w0 N G E (.exit j)):XW (Exit.inBlock i Q) B w0 N G E (.exit j):=fun a w ha hw=>by
 have hne:¬j=i:=fun e=>by subst e;simp at hij
 simp only[Exit.inBlock,if_neg hne]
 exact h a w ha hw
theorem cw_ret (h:XW Q B w0 N G E .ret):CW P Q B w0 N G E .ret:=fun a w ha hw=>wp_ret (h a w ha hw)
theorem cw_skip (h:XW Q B w0 N G E .normal):CW P Q B w0 N G E .skip:=fun a w ha hw=>wp_skip (h a w ha hw)
theorem cw_exit {i:Nat}(h:XW Q B w0 N G E (.exit i)):CW P Q B w0 N G E (.exit i):=fun a w ha hw=>wp_exit (h a w ha hw)
theorem cw_region {i:Nat}{l:List Oper}(h:OW P l.toArray Q B w0 N G E l):CW P Q B w0 N G E (.region i l.toArray false):=fun a w ha hw=>wp_region_lit (h a w ha hw)
theorem cw_quiet {i:Nat}{l:List Oper}(hm:P.follows .mixedOrders=true)(hB:Region.lexB .any l.toArray=true)(h:KW P l.toArray Q B w0 N G E l):CW P Q B w0 N G E (.region i l.toArray true):=
 fun a w ha hw=>wp_region_quiet (C:=St B w0 G) hm hB hw.drewEq (by simpa using h a ha)
theorem cw_true {c:Operand}{x y:Code}(hc:Env.ev E c=some (.bool true))(h:CW P Q B w0 N G E x):CW P Q B w0 N G E (.cond c x y):=fun a w ha hw=>wp_cond_true (ha.ev hc) (h a w ha hw)
theorem cw_false {c:Operand}{x y:Code}(hc:Env.ev E c=some (.bool false))(h:CW P Q B w0 N G E y):CW P Q B w0 N G E (.cond c x y):=fun a w ha hw=>wp_cond_false (ha.ev hc) (h a w ha hw)
theorem cw_dec {c:Operand}{x y:Code}{p:Prop}[Decidable p](hc:Env.ev E c=some (.bool (decide p)))(hx:p→CW P Q B w0 N G E x)(hy:¬p→CW P Q B w0 N G E y):CW P Q B w0 N G E (.cond c x y):=by
 by_cases hp:p
 ·exact cw_true (by rw[hc,decide_eq_true hp]) (hx hp)
 ·exact cw_false (by rw[hc,decide_eq_false hp]) (hy hp)
theorem cw_bool {c:Operand}{x y:Code}{b:Bool}(hc:Env.ev E c=some (.bool b))(hx:b=true→CW P Q B w0 N G E x)(hy:b=false→CW P Q B w0 N G E y):CW P Q B w0 N G E (.cond c x y):=by
 cases b
 ·exact cw_false hc (hy rfl)
 ·exact cw_true hc (hx rfl)
theorem cw_env {c:Code}(E':Env)(hE:Env.sub E' E)(h:CW P Q B w0 N G E' c):CW P Q B w0 N G E c:=fun a w ha hw=>h a w (ha.sub hE) hw
theorem cw_cov {c:Code}(G':List Hp)(hG:Cov G' G)(h:CW P Q B w0 N G' E c):CW P Q B w0 N G E c:=fun a w ha hw=>h a w ha (hw.cov hG)
theorem ow_cov {rest:List Oper}(G':List Hp)(hG:Cov G' G)(h:OW P ops Q B w0 N G' E rest):OW P ops Q B w0 N G E rest:=fun a w ha hw=>h a w ha (hw.cov hG)
theorem cw_flat {c:Code}(G':List Hp)(hG:G.flatten.Perm G'.flatten)(h:CW P Q B w0 N G' E c):CW P Q B w0 N G E c:=fun a w ha hw=>h a w ha (hw.flat hG)
theorem ow_flat {rest:List Oper}(G':List Hp)(hG:G.flatten.Perm G'.flatten)(h:OW P ops Q B w0 N G' E rest):OW P ops Q B w0 N G E rest:=fun a w ha hw=>h a w ha (hw.flat hG)
theorem cw_split {c:Code}{a b:Hp}{F:List Hp}(h:CW P Q B w0 N (a::b::F) E c):CW P Q B w0 N ((a++b)::F) E c:=cw_flat (a::b::F) (.of_eq (by simp)) h
theorem cw_split3 {c:Code}{a b d:Hp}{F:List Hp}(h:CW P Q B w0 N (a::b::d::F) E c):CW P Q B w0 N ((a++(b++d))::F) E c:=cw_flat (a::b::d::F) (.of_eq (by simp)) h
def Joint {ι:Type}(I:ι→Prop)(Gi:ι→List Hp)(Ei:ι→Env)(N B:Nat)(w0:World)(Q:Exit→Act→World→Prop):Exit→Act→World→Prop
 |.normal,a,w=>∃i,I i∧EnvOK N (Ei i) a∧St B w0 (Gi i) w
 |e,a,w=>Q e a w
theorem xw_joint {ι:Type}{I:ι→Prop}{Gi:ι→List Hp}{Ei:ι→Env}(i:ι)(hI:I i)(hG:Cov (Gi i) G)(hE:Env.sub (Ei i) E):XW (Joint I Gi Ei N B w0 Q) B w0 N G E .normal:=
 fun a w ha hw=>⟨i,hI,ha.sub hE,hw.cov hG⟩
theorem xw_joint_ret {ι:Type}{I:ι→Prop}{Gi:ι→List Hp}{Ei:ι→Env}(h:XW Q B w0 N G E .ret):XW (Joint I Gi Ei N B w0 Q) B w0 N G E .ret:=h
theorem xw_joint_exit {ι:Type}{I:ι→Prop}{Gi:ι→List Hp}{Ei:ι→Env}{j:Nat}(h:XW Q B w0 N G E (.exit j)):XW (Joint I Gi Ei N B w0 Q) B w0 N G E (.exit j):=h
theorem cw_seq_cut {ι:Type}(I:ι→Prop)(Gi:ι→List Hp)(Ei:ι→Env){x y:Code}(hx:CW P (Joint I Gi Ei N B w0 Q) B w0 N G E x)(hy:∀i,I i→CW P Q B w0 N (Gi i) (Ei i) y):CW P Q B w0 N G E (.seq x y):=
 fun a w ha hw=>wp_seq (wp_mono (hx a w ha hw) fun e a' w' h=>by
  cases e with
  |normal=>obtain⟨i,hI,h1,h2⟩:=h;exact hy i hI a' w' h1 h2
  |_=>exact h)
def Round {ι:Type}(I:ι→Prop)(μ:ι→Nat)(Gi:ι→List Hp)(Ei:ι→Env)(N B:Nat)(w0:World)(n:Nat)(Q:Exit→Act→World→Prop):Exit→Act→World→Prop
 |.normal,a,w=>∃j,(I j∧μ j<n)∧EnvOK N (Ei j) a∧St B w0 (Gi j) w
 |e,a,w=>Q e a w
theorem xw_round {ι:Type}{I:ι→Prop}{μ:ι→Nat}{Gi:ι→List Hp}{Ei:ι→Env}{n:Nat}(j:ι)(hI:I j)(hμ:μ j<n)(hG:Cov (Gi j) G)(hE:Env.sub (Ei j) E):XW (Round I μ Gi Ei N B w0 n Q) B w0 N G E .normal:=
 fun _ _ ha hw=>⟨j,⟨hI,hμ⟩,ha.sub hE,hw.cov hG⟩
theorem xw_round_ret {ι:Type}{I:ι→Prop}{μ:ι→Nat}{Gi:ι→List Hp}{Ei:ι→Env}{n:Nat}(h:XW Q B w0 N G E .ret):XW (Round I μ Gi Ei N B w0 n Q) B w0 N G E .ret:=h
theorem xw_round_exit {ι:Type}{I:ι→Prop}{μ:ι→Nat}{Gi:ι→List Hp}{Ei:ι→Env}{n j:Nat}(h:XW Q B w0 N G E (.exit j)):XW (Round I μ Gi Ei N B w0 n Q) B w0 N G E (.exit j):=h
theorem cw_loop {ι:Type}(I:ι→Prop)(μ:ι→Nat)(Gi:ι→List Hp)(Ei:ι→Env){c:Code}(i:ι)(hI:I i)(hG:Cov (Gi i) G)(hE:Env.le (Ei i) E)
  (h:∀i,I i→CW P (Round I μ Gi Ei N B w0 (μ i) Q) B w0 N (Gi i) (Ei i) c):CW P Q B w0 N G E (.loop c):=by
 intro a w ha hw b k cs
 have key:∀n i a w,μ i=n→I i→EnvOK N (Ei i) a→St B w0 (Gi i) w→
   ∃e a' w',Q e a' w'∧Arrives P (lone (b.at a (.code c::.inLoop c::k)) cs w) b k cs e a' w':=by
  intro n
  induction n using Nat.strongRecOn with
  |_ n ih=>
   intro i a w hn hIi hEi hGi
   obtain⟨e,a₁,w₁,hq,harr⟩:=h i hIi a w hEi hGi b (.inLoop c::k) cs
   cases e with
   |normal=>
    obtain⟨j,⟨hIj,hlt⟩,h1,h2⟩:=hq
    obtain⟨e₂,a₂,w₂,hq₂,harr₂⟩:=ih (μ j) (hn ▸ hlt) j a₁ w₁ rfl hIj h1 h2
    exact⟨e₂,a₂,w₂,hq₂,.of_steps (Steps.trans harr (.one step_inLoop)) harr₂⟩
   |exit id=>exact⟨_,a₁,w₁,hq,.pass (x:=.inLoop c) rfl (fun _ _=>.inl (by simp)) harr⟩
   |goto l=>exact⟨_,a₁,w₁,hq,.pass (x:=.inLoop c) rfl (fun _ _=>.inl (by simp)) harr⟩
   |ret=>exact⟨_,a₁,w₁,hq,.pass (x:=.inLoop c) rfl (fun _ _=>.inl (by simp)) harr⟩
   |panic ch=>exact⟨_,a₁,w₁,hq,.pass (x:=.inLoop c) rfl (fun _ _=>.inl (by simp)) harr⟩
   |outgrown=>exact⟨_,a₁,w₁,hq,.pass (x:=.inLoop c) rfl (fun _ _=>.inl (by simp)) harr⟩
 obtain⟨e,a',w',hq,harr⟩:=key _ i a w rfl hI (ha.le hE) (hw.cov hG)
 exact⟨e,a',w',hq,.of_steps (.one step_loop) harr⟩
theorem Env.look_append (M K:Env)(t:Nat):Env.look (M++K) t=(match Env.look M t with|some v=>some v|none=>Env.look K t):=by
 induction M with
 |nil=>rfl
 |cons p r ih=>
  obtain⟨d,u⟩:=p
  simp only[List.cons_append,Env.look]
  cases hb:Nat.beq d t with
  |true=>rfl
  |false=>exact ih
theorem EnvOK.app {M K:Env}{a:Act}(h1:EnvOK N M a)(h2:EnvOK N K a):EnvOK N (M++K) a:=⟨h1.size,h1.defers,fun t v ht=>by
 rw[Env.look_append]at ht
 cases hm:Env.look M t with
 |some u=>rw[hm]at ht;simp at ht;subst ht;exact h1.val t u hm
 |none=>rw[hm]at ht;exact h2.val t v ht⟩
theorem cw_loop2 {ι:Type}(K:Env)(hK:Env.sub K E)(M:ι→Env)(I:ι→Prop)(μ:ι→Nat)(Gi:ι→List Hp){c:Code}(i:ι)(hM:Env.sub (M i) E)(hG:Cov (Gi i) G)(hI:I i)
  (h:∀i,I i→CW P (Round I μ Gi (fun i=>M i++K) N B w0 (μ i) Q) B w0 N (Gi i) (M i++K) c):CW P Q B w0 N G E (.loop c):=by
 have key:=cw_loop (E:=M i++K) I μ Gi (fun i=>M i++K) i hI (Cov.refl _) (Env.le.refl _) h
 exact fun a w ha hw=>key a w ((ha.sub hM).app (ha.sub hK)) (hw.cov hG)
theorem cw_cut2 {ι:Type}(K:Env)(hK:Env.sub K E)(M:ι→Env)(I:ι→Prop)(Gi:ι→List Hp){x y:Code}(hx:CW P (Joint I Gi (fun i=>M i++K) N B w0 Q) B w0 N G E x)(hy:∀i,I i→CW P Q B w0 N (Gi i) (M i++K) y):CW P Q B w0 N G E (.seq x y):=cw_seq_cut I Gi (fun i=>M i++K) hx hy
def Env.guard (E:Env)(ops:Array Oper):Option (Nat×Bool)→Option Bool
 |none=>some true
 |some (j,want)=>match (ops[j]?).bind (·.dst)with
  |some t=>match Env.look E t with
   |some (.bool b)=>some (b == want)
   |some _=>some false
   |none=>none
  |none=>none
theorem EnvOK.guard {a:Act}(ha:EnvOK N E a){o:Oper}{r:Bool}(hg:Env.guard E ops o.guard=some r):Region.wanted o (yielded ops a.tmps)=r:=by
 unfold Region.wanted
 cases ho:o.guard with
 |none=>rw[ho]at hg;simpa [Env.guard] using hg
 |some p=>
  obtain⟨j,want⟩:=p
  rw[ho]at hg
  simp only[Env.guard]at hg
  cases hd:(ops[j]?).bind (·.dst)with
  |none=>rw[hd]at hg;simp at hg
  |some t=>
   rw[hd]at hg
   simp only at hg
   cases hl:Env.look E t with
   |none=>rw[hl]at hg;simp at hg
   |some v=>
    rw[hl]at hg
    have hv:=ha.val t v hl
    cases v with
    |bool b=>
     simp only[Option.some.injEq]at hg
     simp only[yielded,hd,Option.bind_some,hv,←hg]
     cases b<;>cases want<;>rfl
    |_=>
     simp only[Option.some.injEq]at hg
     simp only[yielded,hd,Option.bind_some,hv,←hg]
     cases want<;>rfl
def OpV (P:Program)(S:World→Prop)(N:Nat)(E:Env)(op:Op)(ty:TypeId)(v:Value):Prop:=
 ∀ a w, EnvOK N E a → S w → Oper.quietUpon P S w v ((execOp a.eval ⟨none, op, ty, "", #[], none⟩).run P w)
theorem OpV.quietAt {S:World→Prop}{op:Op}{ty:TypeId}{v:Value}(h:OpV P S N E op ty v){a:Act}(ha:EnvOK N E a){d:Option Tmp}{pos:String}{af:Array Edge}{g:Option (Nat×Bool)}(w:World)(hw:S w):
  Oper.quietAt P ⟨d,op,ty,pos,af,g⟩ a S w v:=h a w ha hw
theorem ow_val {d:Nat}{op:Op}{ty:TypeId}{pos:String}{af:Array Edge}{g:Option (Nat×Bool)}{rest:List Oper}{v:Value}(hg:Env.guard E ops g=some true)(hd:Nat.blt d N=true)
  (hv:OpV P (St B w0 G) N E op ty v) (h:OW P ops Q B w0 N G ((d,v)::E) rest):OW P ops Q B w0 N G E (⟨some d,op,ty,pos,af,g⟩::rest):=fun a w ha hw=>by
 unfold wpList
 rw[if_pos (ha.guard (o:=⟨some d,op,ty,pos,af,g⟩) hg)]
 exact .inl (Oper.wp_of_quiet (C:=St B w0 G) (K:=fun a'=>EnvOK N ((d,v)::E) a') hw (fun a' w' hw' ha'=>h a' w' ha' hw') ⟨v,fun w' hw'=>hv.quietAt ha w' hw',ha.put (by simpa using hd) v⟩)
theorem ow_skip {d:Nat}{op:Op}{ty:TypeId}{pos:String}{af:Array Edge}{g:Option (Nat×Bool)}{rest:List Oper}(hg:Env.guard E ops g=some false)(hd:Nat.blt d N=true)
  (h:OW P ops Q B w0 N G ((d,undef)::E) rest):OW P ops Q B w0 N G E (⟨some d,op,ty,pos,af,g⟩::rest):=fun a w ha hw=>by
 unfold wpList
 rw[if_neg (by rw[ha.guard (o:=⟨some d,op,ty,pos,af,g⟩) hg];simp)]
 exact h _ w (ha.put (by simpa using hd) undef) hw
theorem kw_val {d:Nat}{op:Op}{ty:TypeId}{pos:String}{af:Array Edge}{g:Option (Nat×Bool)}{rest:List Oper}{v:Value}(hg:Env.guard E ops g=some true)(hd:Nat.blt d N=true)
  (hv:OpV P (St B w0 G) N E op ty v) (h:KW P ops Q B w0 N G ((d,v)::E) rest):KW P ops Q B w0 N G E (⟨some d,op,ty,pos,af,g⟩::rest):=fun a ha=>by
 unfold wpQuiet
 rw[if_pos (ha.guard (o:=⟨some d,op,ty,pos,af,g⟩) hg)]
 exact⟨v,fun w' hw'=>hv.quietAt ha w' hw',h _ (ha.put (by simpa using hd) v)⟩
theorem kw_skip {d:Nat}{op:Op}{ty:TypeId}{pos:String}{af:Array Edge}{g:Option (Nat×Bool)}{rest:List Oper}(hg:Env.guard E ops g=some false)(hd:Nat.blt d N=true)
  (h:KW P ops Q B w0 N G ((d,undef)::E) rest):KW P ops Q B w0 N G E (⟨some d,op,ty,pos,af,g⟩::rest):=fun a ha=>by
 unfold wpQuiet
 rw[if_neg (by rw[ha.guard (o:=⟨some d,op,ty,pos,af,g⟩) hg];simp)]
 exact h _ (ha.put (by simpa using hd) undef)
theorem ow_nil (h:XW Q B w0 N G E .normal):OW P ops Q B w0 N G E []:=fun a w ha hw=>wpList_nil (h a w ha hw)
theorem kw_nil (h:XW Q B w0 N G E .normal):KW P ops Q B w0 N G E []:=fun a ha=>wpQuiet_nil (fun w' hw'=>h a w' ha hw')
theorem EnvOK.dup {a:Act}(h:EnvOK N E a){t:Nat}{v:Value}(ht:Env.look E t=some v):EnvOK N ((t,v)::E) a:=by
 refine⟨h.size,h.defers,fun s u hs=>?_⟩
 simp only[Env.look]at hs
 by_cases hts:t=s
 ·subst hts
  simp at hs
  subst hs
  exact h.val t v ht
 ·rw[nbeq hts]at hs
  exact h.val s u hs
theorem ow_dec (t:Nat){rest:List Oper}{p:Prop}[Decidable p](ht:Env.look E t=some (.bool (decide p)))(hx:p→OW P ops Q B w0 N G ((t,.bool true)::E) rest)(hy:¬p→OW P ops Q B w0 N G ((t,.bool false)::E) rest):OW P ops Q B w0 N G E rest:=by
 intro a w ha hw
 by_cases hp:p
 ·exact hx hp a w (ha.dup (by rw[ht,decide_eq_true hp])) hw
 ·exact hy hp a w (ha.dup (by rw[ht,decide_eq_false hp])) hw
theorem ow_bool (t:Nat){rest:List Oper}{b:Bool}(ht:Env.look E t=some (.bool b))(hx:b=true→OW P ops Q B w0 N G ((t,.bool true)::E) rest)(hy:b=false→OW P ops Q B w0 N G ((t,.bool false)::E) rest):OW P ops Q B w0 N G E rest:=by
 intro a w ha hw
 cases b
 ·exact hy rfl a w (ha.dup ht) hw
 ·exact hx rfl a w (ha.dup ht) hw
theorem kw_dec (t:Nat){rest:List Oper}{p:Prop}[Decidable p](ht:Env.look E t=some (.bool (decide p)))(hx:p→KW P ops Q B w0 N G ((t,.bool true)::E) rest)(hy:¬p→KW P ops Q B w0 N G ((t,.bool false)::E) rest):KW P ops Q B w0 N G E rest:=by
 intro a ha
 by_cases hp:p
 ·exact hx hp a (ha.dup (by rw[ht,decide_eq_true hp]))
 ·exact hy hp a (ha.dup (by rw[ht,decide_eq_false hp]))
theorem kw_bool (t:Nat){rest:List Oper}{b:Bool}(ht:Env.look E t=some (.bool b))(hx:b=true→KW P ops Q B w0 N G ((t,.bool true)::E) rest)(hy:b=false→KW P ops Q B w0 N G ((t,.bool false)::E) rest):KW P ops Q B w0 N G E rest:=by
 intro a ha
 cases b
 ·exact hy rfl a (ha.dup ht)
 ·exact hx rfl a (ha.dup ht)
structure Enters (P:Program)(f:FuncId):Prop where
 run:∀args w,(callFunc f args).run P w=.ok (.enter f args) w
theorem Enters.of {f : FuncId} {fn : Func} {c : Code} (hf : P.funcs[f]? = some fn) (hb : fn.body = some c) (hn : (fn.name == "runtime.NumGoroutine") = false) : Enters P f :=
 ⟨fun args w=>by
  have hn' : ¬ fn.name = "runtime.NumGoroutine" := by simpa using hn
  simp[callFunc,program,Sem.run_bind,Sem.run,hf,hn',hb]⟩
structure Fn (P:Program)(f:FuncId)(args:Array Value)(B:Nat)(w0:World)(G:List Hp)(R:Value→List Hp→Prop):Prop where
 enters:Enters P f
 calls:∀w,St B w0 G w→Calls P f args w fun e w'=>∃v G',e=.returned v∧R v G'∧St B w0 G' w'
theorem Fn.mono {f:FuncId}{args:Array Value}{R R':Value→List Hp→Prop}(h:Fn P f args B w0 G R)(hr:∀v G',R v G'→R' v G'):Fn P f args B w0 G R':=
 ⟨h.enters,fun w hw=>(h.calls w hw).mono fun _ _ ⟨_,_,he,hR,hS⟩=>⟨_,_,he,hr _ _ hR,hS⟩⟩
def FnC (P:Program)(f:FuncId)(args:Array Value)(B:Nat)(w0:World)(C:List Hp)(R:Value→List Hp→Prop):Prop:=
 ∀F,Fn P f args B w0 (C++F) fun v G'=>∃C',R v C'∧Cov (C'++F) G'
def argEnv:List Value→Nat→Env
 |[],_=>[]
 |v::r,i=>(i,v)::argEnv r (i+1)
theorem look_argEnv (l:List Value):∀(i t:Nat) (v:Value),Env.look (argEnv l i) t=some v→i≤t∧l[t-i]?=some v:=by
 induction l with
 |nil=>intro i t v h;simp[argEnv,Env.look]at h
 |cons u r ih=>
  intro i t v h
  simp only[argEnv,Env.look]at h
  by_cases hit:i=t
  ·subst hit
   simp at h
   subst h
   simp
  ·rw[nbeq hit]at h
   obtain⟨h1,h2⟩:=ih (i+1) t v h
   refine⟨by omega,?_⟩
   rw[show t-i=(t-(i+1))+1 by omega]
   simpa using h2
def RetQ (P:Program)(fn:Func)(B:Nat)(w0:World)(R:Value→List Hp→Prop):Exit→Act→World→Prop:=
 bodyPost P fn fun e w'=>∃v G',e=.returned v∧R v G'∧St B w0 G' w'
theorem fn_enter {f : FuncId} {fn : Func} {c : Code} {args : Array Value} {R : Value → List Hp → Prop} (hf : P.funcs[f]? = some fn) (hb : fn.body = some c) (hn : (fn.name == "runtime.NumGoroutine") = false)
  (hN:fn.ntmps=N) (hargs:args.size≤N) (h:CW P (RetQ P fn B w0 R) B w0 N G (argEnv args.toList 0) c):Fn P f args B w0 G R:=
 ⟨Enters.of hf hb hn,fun w hw=>calls_of_wp hf hb (h _ w ⟨by simp[hN];omega,rfl,fun t v ht=>by
  obtain⟨_,h2⟩:=look_argEnv _ _ _ _ ht
  simp only[Nat.sub_zero,Array.getElem?_toList]at h2
  have hlt:t<args.size:=(Array.getElem?_eq_some_iff.1 h2).1
  rw[Array.getElem?_append_left hlt]
  exact h2⟩ hw)⟩
def ResV (P:Program)(S:World→Prop)(E:Env):ResultVar→Value→Prop
 |.tmp t,v=>Env.look E t=some v
 |.cell p T,v=>∃a,Env.look E p=some (.pointer (some a))∧Var P S T a v
theorem res_tmp {S:World→Prop}{t:Nat}{v:Value}(h:Env.look E t=some v):ResV P S E (.tmp t) v:=h
theorem res_cell {S:World→Prop}{p:Nat}{T:TypeId}{a:Addr}{v:Value}(h:Env.look E p=some (.pointer (some a)))(hv:Var P S T a v):ResV P S E (.cell p T) v:=⟨a,h,hv⟩
theorem ResV.run {S:World→Prop}{r:ResultVar}{v:Value}(h:ResV P S E r v){a:Act}(ha:EnvOK N E a){w:World}(hw:S w):
  (match r with|.tmp t=>(pure (a.tmps.getD t undef):Sem Value)|.cell p T=>do loadVar T (←asAddr (a.tmps.getD p undef))).run P w=.ok v w:=by
 cases r with
 |tmp t=>
  have:=ha.val t v h
  simp[this]
 |cell p T=>
  obtain⟨x,h1,h2⟩:=h
  have:=ha.val p _ h1
  simp[this,asAddr,h2 w hw]
theorem ret0 {fn:Func}{R:Value→List Hp→Prop}(hr:fn.results=#[])(h:R (.tuple #[]) G):XW (RetQ P fn B w0 R) B w0 N G E .ret:=fun a w ha hw=>
 ⟨ha.defers,.tuple #[],by simp[results,hr],_,_,rfl,h,hw⟩
theorem ret0n {fn:Func}{R:Value→List Hp→Prop}(hr:fn.results=#[])(h:R (.tuple #[]) G):XW (RetQ P fn B w0 R) B w0 N G E .normal:=fun a w ha hw=>
 ⟨ha.defers,.tuple #[],by simp[results,hr],_,_,rfl,h,hw⟩
def resSem (tmps:Array Value):ResultVar→Sem Value
 |.tmp t=>pure (tmps.getD t undef)
 |.cell p T=>do loadVar T (←asAddr (tmps.getD p undef))
theorem results_eq (fn:Func)(tmps:Array Value)(rs:List ResultVar)(h:fn.results=rs.toArray):results fn tmps=(do
  let vs ←rs.toArray.mapM (resSem tmps)
  pure (if h:vs.size=1 then vs[0] else .tuple vs)):=by
 unfold results
 rw[h]
 rfl
theorem ResV.run' {S:World→Prop}{r:ResultVar}{v:Value}(h:ResV P S E r v){a:Act}(ha:EnvOK N E a){w:World}(hw:S w):(resSem a.tmps r).run P w=.ok v w:=by
 have h1:=h.run ha hw
 cases r<;>exact h1
theorem ret1 {fn:Func}{R:Value→List Hp→Prop}{r:ResultVar}{v:Value}(hr:fn.results=#[r])(hv:ResV P (St B w0 G) E r v)(h:R v G):XW (RetQ P fn B w0 R) B w0 N G E .ret:=fun a w ha hw=>by
 refine⟨ha.defers,v,?_,_,_,rfl,h,hw⟩
 rw[results_eq fn _ [r] hr]
 simp[hv.run' ha hw,Sem.run_bind]
theorem ret2 {fn:Func}{R:Value→List Hp→Prop}{r s:ResultVar}{v u:Value}(hr:fn.results=#[r,s])(hv:ResV P (St B w0 G) E r v)(hu:ResV P (St B w0 G) E s u)(h:R (.tuple #[v,u]) G):XW (RetQ P fn B w0 R) B w0 N G E .ret:=fun a w ha hw=>by
 refine⟨ha.defers,.tuple #[v,u],?_,_,_,rfl,h,hw⟩
 rw[results_eq fn _ [r,s] hr]
 simp[hv.run' ha hw,hu.run' ha hw,Sem.run_bind]
theorem ret3 {fn:Func}{R:Value→List Hp→Prop}{r s t:ResultVar}{v u x:Value}(hr:fn.results=#[r,s,t])(hv:ResV P (St B w0 G) E r v)(hu:ResV P (St B w0 G) E s u)(hx:ResV P (St B w0 G) E t x)(h:R (.tuple #[v,u,x]) G):XW (RetQ P fn B w0 R) B w0 N G E .ret:=fun a w ha hw=>by
 refine⟨ha.defers,.tuple #[v,u,x],?_,_,_,rfl,h,hw⟩
 rw[results_eq fn _ [r,s,t] hr]
 simp[hv.run' ha hw,hu.run' ha hw,hx.run' ha hw,Sem.run_bind]
def Env.evs (E:Env):List Operand→Option (List Value)
 |[]=>some []
 |x::r=>match Env.ev E x,Env.evs E r with
  |some v,some vs=>some (v::vs)
  |_,_=>none
theorem EnvOK.evs {a:Act}(ha:EnvOK N E a):∀{l:List Operand} {vs:List Value},Env.evs E l=some vs→l.map a.eval=vs
 |[],vs,h=>by simpa [Env.evs] using h
 |x::r,vs,h=>by
  simp only[Env.evs]at h
  cases h1:Env.ev E x with
  |none=>rw[h1]at h;simp at h
  |some v=>
   cases h2:Env.evs E r with
   |none=>rw[h1,h2]at h;simp at h
   |some us=>
    rw[h1,h2]at h
    simp only[Option.some.injEq]at h
    subst h
    simp[ha.ev h1,ha.evs h2]
theorem run_call {a:Act}(ha:EnvOK N E a){fop:Operand}{l:List Operand}{tys:Array TypeId}{ty:TypeId}{f:FuncId}{first cap:List Value}{vs:List Value}(hf:Env.ev E fop=some (.func (.func f) first.toArray cap.toArray))
  (hvs : Env.evs E l = some vs) (he : Enters P f) (w : World) : (execOp a.eval ⟨none, .call { callee := .value fop, args := l.toArray, argTypes := tys }, ty, "", #[], none⟩).run P w = .ok (.enter f (first ++ vs ++ cap).toArray) w := by
 have h1:=ha.ev hf
 have h2:=ha.evs hvs
 simp only[execOp,resolve,Sem.run_bind,h1,Deferred.ofValue]
 simp only[Sem.run_pure,Result.andThen_ok,invoke]
 have h3:(Array.map a.eval l.toArray)=vs.toArray:=by simp[h2]
 rw[h3]
 simpa using he.run (first.toArray++vs.toArray++cap.toArray) w
theorem v_call {fop:Operand}{l:List Operand}{tys:Array TypeId}{ty:TypeId}{f:FuncId}{first cap:List Value}{vs:List Value}{v:Value}(hf:Env.ev E fop=some (.func (.func f) first.toArray cap.toArray))
  (hvs:Env.evs E l=some vs) (hc:Fn P f (first++vs++cap).toArray B w0 G fun u G'=>u=v∧G'=G):OpV P (St B w0 G) N E (.call {callee:=.value fop,args:=l.toArray,argTypes:=tys}) ty v:=fun a w ha hw=>by
 rw[run_call ha hf hvs hc.enters w]
 refine⟨rfl,(hc.calls w hw).mono ?_⟩
 rintro _ w' ⟨u,G',rfl,⟨rfl,rfl⟩,hS⟩
 exact⟨rfl,hS⟩
theorem ow_call {d:Nat}{fop:Operand}{l:List Operand}{tys:Array TypeId}{ty:TypeId}{pos:String}{af:Array Edge}{g:Option (Nat×Bool)}{rest:List Oper}{f:FuncId}{first cap:List Value}{vs:List Value}{R:Value→List Hp→Prop}
  (hg:Env.guard E ops g=some true) (hd:Nat.blt d N=true) (hf:Env.ev E fop=some (.func (.func f) first.toArray cap.toArray)) (hvs:Env.evs E l=some vs)
  (hc:Fn P f (first++vs++cap).toArray B w0 G R) (h:∀v G',R v G'→OW P ops Q B w0 N G' ((d,v)::E) rest):
  OW P ops Q B w0 N G E (⟨some d,.call {callee:=.value fop,args:=l.toArray,argTypes:=tys},ty,pos,af,g⟩::rest):=fun a w ha hw=>by
 unfold wpList
 rw[if_pos (ha.guard (o:=⟨some d,.call {callee:=.value fop,args:=l.toArray,argTypes:=tys},ty,pos,af,g⟩) hg)]
 refine .inl ?_
 unfold Oper.wp
 have hr:=run_call (tys:=tys) (ty:=ty) ha hf hvs hc.enters w
 have hr':(execOp a.eval ⟨some d,.call {callee:=.value fop,args:=l.toArray,argTypes:=tys},ty,pos,af,g⟩).run P w=.ok (.enter f (first++vs++cap).toArray) w:=hr
 rw[hr',Oper.upon_enter]
 refine(hc.calls w hw).mono ?_
 rintro _ w' ⟨v,G',rfl,hR,hS⟩
 exact h v G' hR _ w' (ha.put (by simpa using hd) v) hS
theorem Fn.weak {f:FuncId}{args:Array Value}{R R':Value→List Hp→Prop}(h:Fn P f args B w0 G R)(hr:∀v G',R v G'→∃G'',R' v G''∧∀w,St B w0 G' w→St B w0 G'' w):Fn P f args B w0 G R':=
 ⟨h.enters,fun w hw=>(h.calls w hw).mono fun _ _ ⟨v,G',he,hR,hS⟩=>let ⟨G'',h1,h2⟩:=hr v G' hR;⟨v,G'',he,h1,h2 _ hS⟩⟩
theorem Fn.pre {f:FuncId}{args:Array Value}{G':List Hp}{R:Value→List Hp→Prop}(hp:G.Perm G')(h:Fn P f args B w0 G' R):Fn P f args B w0 G R:=
 ⟨h.enters,fun w hw=>h.calls w (hw.perm hp)⟩
def R0 (v:Value):Value→List Hp→Prop:=fun u C'=>u=v∧C'=[]
theorem done0 {v u:Value}{F:List Hp}(hv:u=v)(hs:Cov F G):∃C',R0 v u C'∧Cov (C'++F) G:=⟨[],⟨hv,rfl⟩,hs⟩
end Go.Sl
namespace Go.Sl
open Go.RowKit
variable {P:Program}{ops:Array Oper}{Q:Exit→Act→World→Prop}{B:Nat}{w0:World}{N:Nat}{G:List Hp}{E:Env}{S:World→Prop}{ty T U:TypeId}
theorem v_move {x:Operand}{v:Value}(hx:Env.ev E x=some v):OpV P S N E (.move x) ty v:=fun a w ha _=>by
 simp[execOp,ha.ev hx,Oper.quietUpon]
theorem v_assign {x:Operand}{v:Value}(hx:Env.ev E x=some v):OpV P S N E (.assign x) ty v:=fun a w ha _=>by
 simp[execOp,ha.ev hx,Oper.quietUpon]
theorem v_pick_true {c x y:Operand}{v:Value}(hc:Env.ev E c=some (.bool true))(hx:Env.ev E x=some v):OpV P S N E (.pick c x y) ty v:=fun a w ha _=>by
 simp[execOp,ha.ev hx,ha.ev hc,asBool,Oper.quietUpon]
theorem v_pick_false {c x y:Operand}{v:Value}(hc:Env.ev E c=some (.bool false))(hy:Env.ev E y=some v):OpV P S N E (.pick c x y) ty v:=fun a w ha _=>by
 simp[execOp,ha.ev hy,ha.ev hc,asBool,Oper.quietUpon]
theorem v_nilCheck {x:Operand}{p:Addr}(hx:Env.ev E x=some (.pointer (some p))):OpV P S N E (.nilCheck x) ty (.pointer (some p)):=fun a w ha _=>by
 simp[execOp,ha.ev hx,Oper.quietUpon]
theorem v_not {x:Operand}{p:Prop}[Decidable p](hx:Env.ev E x=some (.bool (decide p))):OpV P S N E (.unOp .not T x) ty (.bool (decide (¬p))):=fun a w ha _=>by
 simp[execOp,ha.ev hx,Op.unary,Oper.quietUpon]
theorem v_not_true {x:Operand}(hx:Env.ev E x=some (.bool true)):OpV P S N E (.unOp .not T x) ty (.bool false):=fun a w ha _=>by
 simp[execOp,ha.ev hx,Op.unary,Oper.quietUpon]
theorem v_not_false {x:Operand}(hx:Env.ev E x=some (.bool false)):OpV P S N E (.unOp .not T x) ty (.bool true):=fun a w ha _=>by
 simp[execOp,ha.ev hx,Op.unary,Oper.quietUpon]
theorem v_not_bool {x:Operand}{b:Bool}(hx:Env.ev E x=some (.bool b)):OpV P S N E (.unOp .not T x) ty (.bool (!b)):=fun a w ha _=>by
 simp[execOp,ha.ev hx,Op.unary,Oper.quietUpon]
theorem v_add {x y:Operand}{k:IntKind}{m n r:Int}(hx:Env.ev E x=some (.int k m))(hy:Env.ev E y=some (.int k n))(hr:k.wrap (m+n)=r):OpV P S N E (.binOp .add T x y U) ty (.int k r):=fun a w ha _=>by
 subst hr
 simp[execOp,ha.ev hx,ha.ev hy,eqGuard_at_int,binOp,Op.intArith,Oper.quietUpon]
theorem v_sub {x y:Operand}{k:IntKind}{m n r:Int}(hx:Env.ev E x=some (.int k m))(hy:Env.ev E y=some (.int k n))(hr:k.wrap (m-n)=r):OpV P S N E (.binOp .sub T x y U) ty (.int k r):=fun a w ha _=>by
 subst hr
 simp[execOp,ha.ev hx,ha.ev hy,eqGuard_at_int,binOp,Op.intArith,Oper.quietUpon]
theorem v_mul {x y:Operand}{k:IntKind}{m n r:Int}(hx:Env.ev E x=some (.int k m))(hy:Env.ev E y=some (.int k n))(hr:k.wrap (m*n)=r):OpV P S N E (.binOp .mul T x y U) ty (.int k r):=fun a w ha _=>by
 subst hr
 simp[execOp,ha.ev hx,ha.ev hy,eqGuard_at_int,binOp,Op.intArith,Oper.quietUpon]
theorem v_rem {x y:Operand}{k:IntKind}{m n:Int}(hx:Env.ev E x=some (.int k m))(hy:Env.ev E y=some (.int k n))(hn:n≠0):OpV P S N E (.binOp .rem T x y U) ty (.int k (m.tmod n)):=fun a w ha _=>by
 simp[execOp,ha.ev hx,ha.ev hy,eqGuard_at_int,binOp,Op.intDiv,hn,Oper.quietUpon]
theorem v_quo {x y:Operand}{k:IntKind}{m n r:Int}(hx:Env.ev E x=some (.int k m))(hy:Env.ev E y=some (.int k n))(hn:n≠0)(hr:k.wrap (m.tdiv n)=r):OpV P S N E (.binOp .quo T x y U) ty (.int k r):=fun a w ha _=>by
 subst hr
 simp[execOp,ha.ev hx,ha.ev hy,eqGuard_at_int,binOp,Op.intDiv,hn,Oper.quietUpon]
def bitsOf (op:BinOp)(k:IntKind)(x y:Int):Int:=
 let a:=BitVec.ofInt k.bits x
 let b:=BitVec.ofInt k.bits y
 k.wrap (match op with|.and=>a&&& b|.or=>a|||b|.xor=>a ^^^ b|_=>a&&& ~~~b).toNat
theorem v_and {x y:Operand}{k:IntKind}{m n r:Int}(hx:Env.ev E x=some (.int k m))(hy:Env.ev E y=some (.int k n))(hr:bitsOf .and k m n=r):OpV P S N E (.binOp .and T x y U) ty (.int k r):=fun a w ha _=>by
 subst hr
 simp[execOp,ha.ev hx,ha.ev hy,eqGuard_at_int,binOp,Op.intBits,Oper.quietUpon,bitsOf]
theorem v_or {x y:Operand}{k:IntKind}{m n r:Int}(hx:Env.ev E x=some (.int k m))(hy:Env.ev E y=some (.int k n))(hr:bitsOf .or k m n=r):OpV P S N E (.binOp .or T x y U) ty (.int k r):=fun a w ha _=>by
 subst hr
 simp[execOp,ha.ev hx,ha.ev hy,eqGuard_at_int,binOp,Op.intBits,Oper.quietUpon,bitsOf]
theorem v_xor {x y:Operand}{k:IntKind}{m n r:Int}(hx:Env.ev E x=some (.int k m))(hy:Env.ev E y=some (.int k n))(hr:bitsOf .xor k m n=r):OpV P S N E (.binOp .xor T x y U) ty (.int k r):=fun a w ha _=>by
 subst hr
 simp[execOp,ha.ev hx,ha.ev hy,eqGuard_at_int,binOp,Op.intBits,Oper.quietUpon,bitsOf]
theorem v_shl {x y:Operand}{k j:IntKind}{m n r:Int}(hx:Env.ev E x=some (.int k m))(hy:Env.ev E y=some (.int j n))(hn:0≤n)(hr:k.wrap (m*2 ^ min n.toNat k.bits)=r):OpV P S N E (.binOp .shl T x y U) ty (.int k r):=fun a w ha _=>by
 subst hr
 have:¬n<0:=by omega
 simp[execOp,ha.ev hx,ha.ev hy,eqGuard_at_int,binOp,Op.shift,this,Oper.quietUpon]
theorem v_shr {x y:Operand}{k j:IntKind}{m n r:Int}(hx:Env.ev E x=some (.int k m))(hy:Env.ev E y=some (.int j n))(hn:0≤n)(hr:m.fdiv (2 ^ min n.toNat k.bits)=r):OpV P S N E (.binOp .shr T x y U) ty (.int k r):=fun a w ha _=>by
 subst hr
 have:¬n<0:=by omega
 simp[execOp,ha.ev hx,ha.ev hy,eqGuard_at_int,binOp,Op.shift,this,Oper.quietUpon]
theorem beq_dec (m n:Int):(m == n)=decide (m=n):=by
 by_cases h:m=n<;>simp[h]
theorem v_eql {x y:Operand}{k:IntKind}{m n:Int}(hx:Env.ev E x=some (.int k m))(hy:Env.ev E y=some (.int k n)):OpV P S N E (.binOp .eql T x y U) ty (.bool (decide (m=n))):=fun a w ha _=>by
 simp[execOp,ha.ev hx,ha.ev hy,eqGuard_at_int,binOp,Op.intCmp,Oper.quietUpon,beq_dec]
theorem v_neq {x y:Operand}{k:IntKind}{m n:Int}(hx:Env.ev E x=some (.int k m))(hy:Env.ev E y=some (.int k n)):OpV P S N E (.binOp .neq T x y U) ty (.bool (decide (m≠n))):=fun a w ha _=>by
 simp[execOp,ha.ev hx,ha.ev hy,eqGuard_at_int,binOp,Op.intCmp,Oper.quietUpon,bne,beq_dec]
theorem v_lss {x y:Operand}{k:IntKind}{m n:Int}(hx:Env.ev E x=some (.int k m))(hy:Env.ev E y=some (.int k n)):OpV P S N E (.binOp .lss T x y U) ty (.bool (decide (m<n))):=fun a w ha _=>by
 simp[execOp,ha.ev hx,ha.ev hy,eqGuard_at_int,binOp,Op.intCmp,Oper.quietUpon]
theorem v_leq {x y:Operand}{k:IntKind}{m n:Int}(hx:Env.ev E x=some (.int k m))(hy:Env.ev E y=some (.int k n)):OpV P S N E (.binOp .leq T x y U) ty (.bool (decide (m≤n))):=fun a w ha _=>by
 simp[execOp,ha.ev hx,ha.ev hy,eqGuard_at_int,binOp,Op.intCmp,Oper.quietUpon]
theorem v_gtr {x y:Operand}{k:IntKind}{m n:Int}(hx:Env.ev E x=some (.int k m))(hy:Env.ev E y=some (.int k n)):OpV P S N E (.binOp .gtr T x y U) ty (.bool (decide (n<m))):=fun a w ha _=>by
 simp[execOp,ha.ev hx,ha.ev hy,eqGuard_at_int,binOp,Op.intCmp,Oper.quietUpon]
theorem v_geq {x y:Operand}{k:IntKind}{m n:Int}(hx:Env.ev E x=some (.int k m))(hy:Env.ev E y=some (.int k n)):OpV P S N E (.binOp .geq T x y U) ty (.bool (decide (n≤m))):=fun a w ha _=>by
 simp[execOp,ha.ev hx,ha.ev hy,eqGuard_at_int,binOp,Op.intCmp,Oper.quietUpon]
theorem v_convert {x:Operand}{k j:IntKind}{m r:Int}{d:TypeDesc}(hT:P.underlying T=some d)(hU:P.underlying U=some (.int k))(hx:Env.ev E x=some (.int j m))(hr:k.wrap m=r):OpV P S N E (.convert T U x) ty (.int k r):=fun a w ha _=>by
 subst hr
 simp[execOp,ha.ev hx,convert,run_underlying hT,run_underlying hU,Conv.intToInt,Oper.quietUpon]
theorem v_eql_nil {x:Operand}{e:TypeId}{p:Option Addr}(hT:P.underlying T=some (.pointer e))(hx:Env.ev E x=some (.pointer p)):OpV P S N E (.binOp .eql T x (.const (.pointer none)) U) ty (.bool p.isNone):=fun a w ha _=>by
 have h1:P.underlying T=some (.pointer (P.pointee T)):=by simp[Program.pointee,hT]
 simp[execOp,ha.ev hx,ha.ev (x:=.const (.pointer none)) rfl,eqGuard,run_eql_pointer_nil w T p h1,Oper.quietUpon]
theorem v_neq_nil {x:Operand}{e:TypeId}{p:Option Addr}(hT:P.underlying T=some (.pointer e))(hx:Env.ev E x=some (.pointer p)):OpV P S N E (.binOp .neq T x (.const (.pointer none)) U) ty (.bool p.isSome):=fun a w ha _=>by
 have h1:P.underlying T=some (.pointer (P.pointee T)):=by simp[Program.pointee,hT]
 simp[execOp,ha.ev hx,ha.ev (x:=.const (.pointer none)) rfl,eqGuard,run_neq_pointer_nil w T p h1,Oper.quietUpon]
theorem v_eql_nil_some {x:Operand}{e:TypeId}{p:Addr}(hT:P.underlying T=some (.pointer e))(hx:Env.ev E x=some (.pointer (some p))):OpV P S N E (.binOp .eql T x (.const (.pointer none)) U) ty (.bool false):=v_eql_nil hT hx
theorem v_neq_nil_some {x:Operand}{e:TypeId}{p:Addr}(hT:P.underlying T=some (.pointer e))(hx:Env.ev E x=some (.pointer (some p))):OpV P S N E (.binOp .neq T x (.const (.pointer none)) U) ty (.bool true):=v_neq_nil hT hx
theorem v_eql_nil_none {x:Operand}{e:TypeId}(hT:P.underlying T=some (.pointer e))(hx:Env.ev E x=some (.pointer none)):OpV P S N E (.binOp .eql T x (.const (.pointer none)) U) ty (.bool true):=v_eql_nil hT hx
theorem v_neq_nil_none {x:Operand}{e:TypeId}(hT:P.underlying T=some (.pointer e))(hx:Env.ev E x=some (.pointer none)):OpV P S N E (.binOp .neq T x (.const (.pointer none)) U) ty (.bool false):=v_neq_nil hT hx
def Fld (P:Program)(T:TypeId)(f off:Nat):Prop:=∀p w,(Instr.fieldAt T (.pointer (some p)) f).run P w=.ok (.pointer (some (p.add off))) w
theorem Fld.of {fs:Array Field}{f off n:Nat}{fl:Field}(hT:P.underlying T=some (.struct fs))(hf:fs[f]?=some fl)(ho:fl.offset=off)(hn:(P.info? fl.type).map (·.size)=some (n+1)):Fld P T f off:=fun p w=>by
 subst ho
 simp[Instr.fieldAt,run_underlying hT,hf,Instr.sureAddr,fieldPlace,run_sizeOf hn]
theorem add_mk (b o n:Nat):(⟨b,o,none⟩:Addr).add n=⟨b,o+n,none⟩:=by
 unfold Addr.add
 split
 ·rename_i h;subst h;rfl
 ·rfl
theorem v_fieldAddr {x:Operand}{f off b o:Nat}(hf:Fld P T f off)(hx:Env.ev E x=some (.pointer (some ⟨b,o,none⟩))):OpV P S N E (.fieldAddr T x f) ty (.pointer (some ⟨b,o+off,none⟩)):=fun a w ha _=>by
 have h:=hf ⟨b,o,none⟩ w
 simp[execOp,ha.ev hx,h,Oper.quietUpon,add_mk]
theorem v_fieldAddr0 {x:Operand}{f off b:Nat}(hf:Fld P T f off)(hx:Env.ev E x=some (.pointer (some ⟨b,0,none⟩))):OpV P S N E (.fieldAddr T x f) ty (.pointer (some ⟨b,off,none⟩)):=fun a w ha _=>by
 have h:=hf ⟨b,0,none⟩ w
 simp[execOp,ha.ev hx,h,Oper.quietUpon,add_mk]
theorem v_indexAddr {x y:Operand}{k:IntKind}{n:Int}{i b o len cap e size:Nat}{ao:Option Addr}(hT:P.underlying T=some (.slice e))(he:(P.info? e).map (·.size)=some size)(hx:Env.ev E x=some (.slice ao len cap))(hao:ao=some ⟨b,o,none⟩)(hy:Env.ev E y=some (.int k n))
  (hi:n=(i:Int)) (hlt:i<len):OpV P S N E (.indexAddr T x y) ty (.pointer (some ⟨b,o+i*size,none⟩)):=fun a w ha _=>by
 subst hi
 subst hao
 have h1:(i:Int)<(len:Int):=by omega
 have h2:=run_sizeOf he w
 simp[execOp,ha.ev hx,ha.ev hy,Instr.indexAt,asIntOf,run_underlying hT,h1,hlt,h2,Oper.quietUpon,add_mk]
theorem v_indexAddrA {x y:Operand}{k:IntKind}{n:Int}{i b o len e size:Nat}(hT:P.underlying T=some (.array len e))(he:(P.info? e).map (·.size)=some size)(hx:Env.ev E x=some (.pointer (some ⟨b,o,none⟩)))(hy:Env.ev E y=some (.int k n))
  (hi:n=(i:Int)) (hlt:i<len):OpV P S N E (.indexAddr T x y) ty (.pointer (some ⟨b,o+i*size,none⟩)):=fun a w ha _=>by
 subst hi
 have h1:(i:Int)<(len:Int):=by omega
 have h2:=run_sizeOf he w
 simp[execOp,ha.ev hx,ha.ev hy,Instr.indexAt,asIntOf,run_underlying hT,Instr.sureAddr,h1,hlt,h2,Oper.quietUpon,add_mk]
theorem v_load {x:Operand}{p:Addr}{v:Value}(hx:Env.ev E x=some (.pointer (some p)))(hv:Var P S T p v):OpV P S N E (.load T x) ty v:=fun a w ha hw=>by
 simp[execOp,ha.ev hx,Instr.loadAt,Instr.sureAddr,hv w hw,Oper.quietUpon]
theorem v_len {x:Operand}{b:Option Addr}{n c:Nat}{e:TypeId}{tys:Array TypeId}(ht:tys[0]?=some T)(hT:P.underlying T=some (.slice e))(hx:Env.ev E x=some (.slice b n c)):OpV P S N E (.call {callee:=.builtin .len,args:=#[x],argTypes:=tys}) ty (.int .i64 n):=fun a w ha _=>by
 simp[execOp,resolve,ha.ev hx,invoke,builtin,Builtin.len_,ht,run_underlying hT,goInt,Oper.quietUpon]
theorem v_cap {x:Operand}{b:Option Addr}{n c:Nat}{e:TypeId}{tys:Array TypeId}(ht:tys[0]?=some T)(hT:P.underlying T=some (.slice e))(hx:Env.ev E x=some (.slice b n c)):OpV P S N E (.call {callee:=.builtin .cap,args:=#[x],argTypes:=tys}) ty (.int .i64 c):=fun a w ha _=>by
 simp[execOp,resolve,ha.ev hx,invoke,builtin,Builtin.cap_,ht,run_underlying hT,goInt,Oper.quietUpon]
theorem v_min {x y:Operand}{k:IntKind}{m n:Int}{tys:Array TypeId}(hx:Env.ev E x=some (.int k m))(hy:Env.ev E y=some (.int k n)):OpV P S N E (.call {callee:=.builtin .min,args:=#[x,y],argTypes:=tys}) ty (.int k (min m n)):=fun a w ha _=>by
 have h:(if n<m then n else m)=min m n:=by omega
 simp[execOp,resolve,ha.ev hx,ha.ev hy,invoke,builtin,Builtin.min_,Builtin.min2,h,Oper.quietUpon]
theorem v_max {x y:Operand}{k:IntKind}{m n:Int}{tys:Array TypeId}(hx:Env.ev E x=some (.int k m))(hy:Env.ev E y=some (.int k n)):OpV P S N E (.call {callee:=.builtin .max,args:=#[x,y],argTypes:=tys}) ty (.int k (max m n)):=fun a w ha _=>by
 have h:(if m<n then n else m)=max m n:=by omega
 simp[execOp,resolve,ha.ev hx,ha.ev hy,invoke,builtin,Builtin.max_,Builtin.max2,h,Oper.quietUpon]
theorem v_extract {x:Operand}{vs:Array Value}{i:Nat}{v:Value}(hx:Env.ev E x=some (.tuple vs))(hv:vs[i]?=some v):OpV P S N E (.extract x i) ty v:=fun a w ha _=>by
 simp[execOp,ha.ev hx,Instr.extract,hv,Oper.quietUpon]
theorem v_makeFunc {fn:Go.Fn}{l m:List Operand}{ls ms:List Value}(hl:Env.evs E l=some ls)(hm:Env.evs E m=some ms):OpV P S N E (.makeFunc fn l.toArray m.toArray) ty (.func fn ls.toArray ms.toArray):=fun a w ha _=>by
 have h1:=ha.evs hl
 have h2:=ha.evs hm
 simp[execOp,Instr.makeFunc,h1,h2,Oper.quietUpon]
theorem v_eqlB {x y:Operand}{p q:Bool}(hT:P.underlying T=some .bool)(hx:Env.ev E x=some (.bool p))(hy:Env.ev E y=some (.bool q)):OpV P S N E (.binOp .eql T x y U) ty (.bool (decide (p=q))):=fun a w ha _=>by
 have h:=run_equal_bool (P:=P) w T p q hT
 have h2:(p == q)=decide (p=q):=by cases p<;>cases q<;>rfl
 simp[execOp,ha.ev hx,ha.ev hy,eqGuard_at_bool,binOp,h,h2,Oper.quietUpon]
theorem v_neqB {x y:Operand}{p q:Bool}(hT:P.underlying T=some .bool)(hx:Env.ev E x=some (.bool p))(hy:Env.ev E y=some (.bool q)):OpV P S N E (.binOp .neq T x y U) ty (.bool (decide (p≠q))):=fun a w ha _=>by
 have h:=run_equal_bool (P:=P) w T p q hT
 have h2:(!(p == q))=decide (p≠q):=by cases p<;>cases q<;>rfl
 simp[execOp,ha.ev hx,ha.ev hy,eqGuard_at_bool,binOp,h,Oper.quietUpon]
 cases p<;>cases q<;>rfl
theorem nw_i64 {x:Int}(h1: -9223372036854775808≤x)(h2:x≤9223372036854775807):IntKind.wrap .i64 x=x:=IntWalk.i64_in x ⟨h1,h2⟩
theorem nw_u64 {x:Int}(h1:0≤x)(h2:x≤18446744073709551615):IntKind.wrap .u64 x=x:=by
 simp only[IntKind.wrap,IntKind.bits,IntKind.signed]
 simp
 omega
theorem nw_u8 {x:Int}(h1:0≤x)(h2:x≤255):IntKind.wrap .u8 x=x:=by
 simp only[IntKind.wrap,IntKind.bits,IntKind.signed]
 simp
 omega
end Go.Sl
namespace Go.Sl
open Go.RowKit
variable {P:Program}{ops:Array Oper}{Q:Exit→Act→World→Prop}{B:Nat}{w0:World}{N:Nat}{G:List Hp}{E:Env}{S:World→Prop}{ty T U:TypeId}
def GetN (o:Obj)(off:Nat)(vs:List Value):Prop:=∃cs T fr,o=.cells cs T fr∧∀i v,vs[i]?=some v→cs[off+i]?=some v
def SetN (o:Obj)(off:Nat)(vs:List Value)(o':Obj):Prop:=∃cs T,o=.cells cs T (0,0)∧off+vs.length≤cs.size∧o'=.cells (splice cs.toList off vs).toArray T (0,0)
theorem GetN.one {cs:Array Value}{e:TypeId}{fr:Nat×Nat}{off:Nat}{v:Value}(h:cs[off]?=some v):GetN (.cells cs e fr) off [v]:=
 ⟨cs,e,fr,rfl,fun i u hu=>by
  cases i with
  |zero=>simp at hu;subst hu;exact h
  |succ i=>simp at hu⟩
theorem GetN.all {vs:List Value}{e:TypeId}{fr:Nat×Nat}:GetN (.cells vs.toArray e fr) 0 vs:=⟨_,_,_,rfl,fun i v h=>by simpa using h⟩
theorem GetN.part {a vs c:List Value}{e:TypeId}{fr:Nat×Nat}{off:Nat}(h:off=a.length):GetN (.cells (a++(vs++c)).toArray e fr) off vs:=by
 subst h
 refine⟨_,_,_,rfl,fun i v hv=>?_⟩
 have hlt:i<vs.length:=(List.getElem?_eq_some_iff.1 hv).1
 simp only[List.getElem?_toArray]
 rw[List.getElem?_append_right (by omega),Nat.add_sub_cancel_left,List.getElem?_append_left hlt]
 exact hv
theorem SetN.one {l:List Value}{e:TypeId}{off:Nat}{v:Value}(h:off<l.length):SetN (.cells l.toArray e (0,0)) off [v] (.cells (l.set off v).toArray e (0,0)):=by
 refine⟨_,_,rfl,by simp;omega,?_⟩
 congr 2
 simp only[splice,List.length_singleton,List.singleton_append]
 exact(List.set_eq_take_append_cons_drop (l:=l) (i:=off) (a:=v)).trans (by rw[if_pos h]) |>.symm ▸ rfl
theorem SetN.all {l vs:List Value}{e:TypeId}(h:vs.length=l.length):SetN (.cells l.toArray e (0,0)) 0 vs (.cells vs.toArray e (0,0)):=by
 refine⟨_,_,rfl,by simp[h],?_⟩
 simp[splice,h]
theorem SetN.part {a us vs c:List Value}{e:TypeId}{off:Nat}(h:off=a.length)(hl:vs.length=us.length):SetN (.cells (a++(us++c)).toArray e (0,0)) off vs (.cells (a++(vs++c)).toArray e (0,0)):=by
 subst h
 refine⟨_,_,rfl,by simp[hl],?_⟩
 simp[splice,hl,List.drop_append]
theorem Var.get1 {c:Hp}{R:Hp→List Hp}{b off:Nat}{o:Obj}{v:Value}(hT:Scalar P T)(hs:Sel G c R)(hm:(b,o)∈c)(hg:GetN o off [v]):Var P (St B w0 G) T ⟨b,off,none⟩ v:=by
 obtain⟨cs,e,fr,rfl,h⟩:=hg
 exact Var.one hT (Cell.of hs hm (h 0 v rfl))
theorem Var.getN {c:Hp}{R:Hp→List Hp}{b off n:Nat}{o:Obj}{vs:List Value}(hT:Agg P T n)(hs:Sel G c R)(hm:(b,o)∈c)(hg:GetN o off vs)(hn:vs.length=n):Var P (St B w0 G) T ⟨b,off,none⟩ (.agg vs.toArray):=by
 subst hn
 obtain⟨cs,e,fr,rfl,h⟩:=hg
 exact Var.many hT fun i v hv=>by rw[add_mk];exact Cell.of hs hm (h i v hv)
theorem Var.at1 {R:Hp→List Hp}{b off:Nat}{o:Obj}{v:Value}(hT:Scalar P T)(hs:Sel G [(b,o)] R)(hg:GetN o off [v]):Var P (St B w0 G) T ⟨b,off,none⟩ v:=Var.get1 hT hs (.head _) hg
theorem Var.atN {R:Hp→List Hp}{b off n:Nat}{o:Obj}{vs:List Value}(hT:Agg P T n)(hs:Sel G [(b,o)] R)(hg:GetN o off vs)(hn:vs.length=n):Var P (St B w0 G) T ⟨b,off,none⟩ (.agg vs.toArray):=Var.getN hT hs (.head _) hg hn
theorem St.setRow {w:World}(h:St B w0 G w){b:Nat}{cs cs':Array Value}{e:TypeId}{R:Hp→List Hp}(hs:Sel G [(b,.cells cs e (0,0))] R):St B w0 (R [(b,.cells cs' e (0,0))]) (w.setRow b cs'):=by
 have hb:=h.read hs (List.Mem.head _)
 refine h.write hs rfl rfl rfl (by simp) (setRow_heap w b cs cs' e _ hb) fun k hk=>?_
 exact setRow_other w b k cs' hk
theorem run_storeVar {w:World}{b off:Nat}{cs:Array Value}{e:TypeId}{vs:List Value}{v:Value}(hb:w.heap[b]?=some (.cells cs e (0,0)))(hv:v.cells.toList=vs)(hsz:(P.info? T).map (·.size)=some vs.length)(hl:off+vs.length≤cs.size)(h1:∀u∈vs,u.oneCell'=true):
  (storeVar T ⟨b,off,none⟩ v).run P w=.ok () (w.setRow b (splice cs.toList off vs).toArray):=by
 have h2:=run_storeCells_at P b off e vs 0 cs w hb (by simpa using hl) h1
 have h3:v.cells.size=vs.length:=by rw[←hv];simp
 simp only[storeVar,Sem.run_bind,run_sizeOf hsz,Result.andThen_ok,h3,ne_eq,not_true_eq_false,if_false,hv]
 simpa [splice] using h2
theorem ow_store {x y:Operand}{b off:Nat}{o o':Obj}{v:Value}{vs:List Value}{R:Hp→List Hp}{pos:String}{af:Array Edge}{g:Option (Nat×Bool)}{rest:List Oper}(hg:Env.guard E ops g=some true)
  (hx:Env.ev E x=some (.pointer (some ⟨b,off,none⟩))) (hy:Env.ev E y=some v) (hv:v.cells.toList=vs) (hsz:(P.info? T).map (·.size)=some vs.length) (h1:∀u∈vs,u.oneCell'=true)
  (hs:Sel G [(b,o)] R) (hset:SetN o off vs o') (h:OW P ops Q B w0 N (R [(b,o')]) E rest):OW P ops Q B w0 N G E (⟨none,.store T x y,ty,pos,af,g⟩::rest):=fun a w ha hw=>by
 unfold wpList
 rw[if_pos (ha.guard (o:=⟨none,.store T x y,ty,pos,af,g⟩) hg)]
 obtain⟨cs,e,rfl,hl,rfl⟩:=hset
 have hb:=hw.read hs (List.Mem.head _)
 have h2:=run_storeVar (P:=P) (T:=T) hb hv hsz hl h1
 refine .inl ?_
 unfold Oper.wp
 have h3:(execOp a.eval ⟨none,.store T x y,ty,pos,af,g⟩).run P w=.ok .skip (w.setRow b (splice cs.toList off vs).toArray):=by
  simp[execOp,ha.ev hx,ha.ev hy,Instr.storeAt,Instr.sureAddr,h2]
 rw[h3]
 exact h a _ ha (hw.setRow hs)
theorem ow_store1 {x y:Operand}{b off:Nat}{o o':Obj}{v:Value}{R:Hp→List Hp}{pos:String}{af:Array Edge}{g:Option (Nat×Bool)}{rest:List Oper}(hg:Env.guard E ops g=some true)
  (hx:Env.ev E x=some (.pointer (some ⟨b,off,none⟩))) (hy:Env.ev E y=some v) (h1:v.oneCell'=true) (hT:Scalar P T)
  (hs:Sel G [(b,o)] R) (hset:SetN o off [v] o') (h:OW P ops Q B w0 N (R [(b,o')]) E rest):OW P ops Q B w0 N G E (⟨none,.store T x y,ty,pos,af,g⟩::rest):=
 ow_store hg hx hy (vs:=[v]) (by cases v<;>first|rfl|simp[Value.oneCell']at h1) hT.size (by simpa using h1) hs hset h
theorem ow_storeN {x y:Operand}{b off n:Nat}{o o':Obj}{vs:List Value}{R:Hp→List Hp}{pos:String}{af:Array Edge}{g:Option (Nat×Bool)}{rest:List Oper}(hg:Env.guard E ops g=some true)
  (hx:Env.ev E x=some (.pointer (some ⟨b,off,none⟩))) (hy:Env.ev E y=some (.agg vs.toArray)) (hT:Agg P T n) (hn:vs.length=n) (h1:∀u∈vs,u.oneCell'=true)
  (hs:Sel G [(b,o)] R) (hset:SetN o off vs o') (h:OW P ops Q B w0 N (R [(b,o')]) E rest):OW P ops Q B w0 N G E (⟨none,.store T x y,ty,pos,af,g⟩::rest):=
 ow_store hg hx hy (vs:=vs) (by simp[Value.cells]) (by rw[hT.size,hn]) h1 hs hset h
structure Zero (P:Program)(T:TypeId)(zs:List Value):Prop where
 run:∀w:World,∃z,(zeroValue T).run P w=.ok z w∧z.cells=zs.toArray
theorem ow_new {d:Nat}{op:Op}{pos:String}{af:Array Edge}{g:Option (Nat×Bool)}{rest:List Oper}{vs:List Value}{e:TypeId}(hg:Env.guard E ops g=some true)(hd:Nat.blt d N=true)
  (hrun:∀a w,EnvOK N E a→St B w0 G w→(execOp a.eval ⟨some d,op,ty,pos,af,g⟩).run P w=.ok (.value (.pointer (some ⟨w.heap.size,0,none⟩))) (w.alloc (.cells vs.toArray e)))
  (h:∀b,OW P ops Q B w0 N ([(b,.cells vs.toArray e (0,0))]::G) ((d,.pointer (some ⟨b,0,none⟩))::E) rest):OW P ops Q B w0 N G E (⟨some d,op,ty,pos,af,g⟩::rest):=fun a w ha hw=>by
 unfold wpList
 rw[if_pos (ha.guard (o:=⟨some d,op,ty,pos,af,g⟩) hg)]
 refine .inl ?_
 unfold Oper.wp
 rw[hrun a w ha hw]
 exact h w.heap.size _ _ (ha.put (by simpa using hd) _) (hw.new _)
theorem ow_alloc {d:Nat}{pos:String}{af:Array Edge}{g:Option (Nat×Bool)}{rest:List Oper}{zs:List Value}(hg:Env.guard E ops g=some true)(hd:Nat.blt d N=true)(hz:Zero P T zs)
  (h:∀b,OW P ops Q B w0 N ([(b,.cells zs.toArray T (0,0))]::G) ((d,.pointer (some ⟨b,0,none⟩))::E) rest):OW P ops Q B w0 N G E (⟨some d,.alloc T,ty,pos,af,g⟩::rest):=
 ow_new hg hd (fun a w _ _=>by
  obtain⟨z,h1,h2⟩:=hz.run w
  simp[execOp,Instr.alloc,h1,newVar,newRow,h2]) h
theorem ow_box {d:Nat}{x:Operand}{v:Value}{vs:List Value}{pos:String}{af:Array Edge}{g:Option (Nat×Bool)}{rest:List Oper}(hg:Env.guard E ops g=some true)(hd:Nat.blt d N=true)(hx:Env.ev E x=some v)(hv:v.cells=vs.toArray)
  (h:∀b,OW P ops Q B w0 N ([(b,.cells vs.toArray T (0,0))]::G) ((d,.pointer (some ⟨b,0,none⟩))::E) rest):OW P ops Q B w0 N G E (⟨some d,.box T x,ty,pos,af,g⟩::rest):=
 ow_new hg hd (fun a w ha _=>by simp[execOp,Instr.box,ha.ev hx,newVar,newRow,hv]) h
def Build (P:Program)(T:TypeId)(parts:Array (Nat×Value))(v:Value):Prop:=∀w:World,(Instr.build T parts).run P w=.ok v w
def Env.parts (E:Env):List (Nat×Operand)→Option (List (Nat×Value))
 |[]=>some []
 |(i,x)::r=>match Env.ev E x,Env.parts E r with
  |some v,some vs=>some ((i,v)::vs)
  |_,_=>none
theorem EnvOK.parts {a:Act}(ha:EnvOK N E a):∀{l:List (Nat×Operand)} {vs:List (Nat×Value)},Env.parts E l=some vs→l.map (fun p=>(p.1,a.eval p.2))=vs
 |[],vs,h=>by simpa [Env.parts] using h
 |(i,x)::r,vs,h=>by
  simp only[Env.parts]at h
  cases h1:Env.ev E x with
  |none=>rw[h1]at h;simp at h
  |some v=>
   cases h2:Env.parts E r with
   |none=>rw[h1,h2]at h;simp at h
   |some us=>
    rw[h1,h2]at h
    simp only[Option.some.injEq]at h
    subst h
    simp[ha.ev h1,ha.parts h2]
theorem v_build {l:List (Nat×Operand)}{vs:List (Nat×Value)}{v:Value}(hl:Env.parts E l=some vs)(hb:Build P T vs.toArray v):OpV P S N E (.build T l.toArray) ty v:=fun a w ha _=>by
 have h1:=ha.parts hl
 have h2:(Array.map (fun p:Nat×Operand=>(p.1,a.eval p.2)) l.toArray)=vs.toArray:=by simp[h1]
 have h3:=hb w
 simp[execOp,h2,h3,Oper.quietUpon]
def cutA (ao:Option Addr)(cap l size:Nat):Option Addr:=if cap=l then ao else ao.map fun a=>a.add (l*size)
theorem cutA_some {b o cap l size:Nat}(h:l<cap):cutA (some ⟨b,o,none⟩) cap l size=some ⟨b,o+l*size,none⟩:=by
 simp[cutA,Nat.ne_of_gt h,add_mk]
theorem cutA_zero {ao:Option Addr}{cap size:Nat}:cutA ao cap 0 size=ao:=by
 unfold cutA
 split
 ·rfl
 ·cases ao<;>simp[Addr.add]
theorem v_slice_ln {x y:Operand}{ao:Option Addr}{len cap e size l:Nat}{k:IntKind}{n:Int}(hT:P.underlying T=some (.slice e))(he:(P.info? e).map (·.size)=some size)(hx:Env.ev E x=some (.slice ao len cap))(hy:Env.ev E y=some (.int k n))(hn:n=(l:Int))(hl:l≤len):
  OpV P S N E (.slice T x (some y) none none) ty (.slice (cutA ao cap l size) (len-l) (cap-l)):=fun a w ha _=>by
 subst hn
 simp[execOp,ha.ev hx,ha.ev hy,Instr.sliceAt,Instr.slice,Instr.sliceBounds,Instr.sliceBound,asIntOf,run_underlying hT,run_sizeOf he w,hl,cutA,Oper.quietUpon]
theorem v_slice_nh {x y:Operand}{ao:Option Addr}{len cap e size h:Nat}{k:IntKind}{n:Int}(hT:P.underlying T=some (.slice e))(he:(P.info? e).map (·.size)=some size)(hx:Env.ev E x=some (.slice ao len cap))(hy:Env.ev E y=some (.int k n))(hn:n=(h:Int))(hh:h≤cap):
  OpV P S N E (.slice T x none (some y) none) ty (.slice ao h cap):=fun a w ha _=>by
 subst hn
 have h0:(if cap=0 then ao else Option.map (fun a=>a.add (0*size)) ao)=ao:=cutA_zero
 simp at h0
 simp[execOp,ha.ev hx,ha.ev hy,Instr.sliceAt,Instr.slice,Instr.sliceBounds,Instr.sliceBound,asIntOf,run_underlying hT,run_sizeOf he w,hh,Oper.quietUpon]
 exact h0
theorem v_slice_lh {x y z:Operand}{ao:Option Addr}{len cap e size l h:Nat}{k k':IntKind}{n m:Int}(hT:P.underlying T=some (.slice e))(he:(P.info? e).map (·.size)=some size)(hx:Env.ev E x=some (.slice ao len cap))(hy:Env.ev E y=some (.int k n))(hz:Env.ev E z=some (.int k' m))(hn:n=(l:Int))(hm:m=(h:Int))(hl:l≤h)(hh:h≤cap):
  OpV P S N E (.slice T x (some y) (some z) none) ty (.slice (cutA ao cap l size) (h-l) (cap-l)):=fun a w ha _=>by
 subst hn
 subst hm
 simp[execOp,ha.ev hx,ha.ev hy,ha.ev hz,Instr.sliceAt,Instr.slice,Instr.sliceBounds,Instr.sliceBound,asIntOf,run_underlying hT,run_sizeOf he w,hl,hh,cutA,Oper.quietUpon]
structure Reads (P:Program)(S:World→Prop)(size:Nat)(x:Value)(n:Nat)(vs:List Value):Prop where
 len:vs.length=n*size
 run:∀w,S w→(Builtin.firstCells size n x).run P w=.ok vs.toArray w
theorem Reads.slice {size n len cap:Nat}{p:Addr}{vs:List Value}(hl:vs.length=n*size)(h:∀i v,vs[i]?=some v→Cell S (p.add i) v):Reads P S size (.slice (some p) len cap) n vs:=
 ⟨hl,fun w hw=>run_firstCells_some w size n p len cap vs hl fun j v hj=>h j v hj w hw⟩
theorem Reads.none {size:Nat}{ao:Option Addr}{len cap:Nat}:Reads P S size (.slice ao len cap) 0 []:=⟨by simp,fun w _=>by
 cases ao with
 |none=>exact run_firstCells_none w size 0 len cap
 |some p=>exact run_firstCells_some w size 0 p len cap [] (by simp) (by simp)⟩
theorem Reads.block {c:Hp}{R:Hp→List Hp}{b off size n len cap:Nat}{o:Obj}{vs:List Value}(hs:Sel G c R)(hm:(b,o)∈c)(hg:GetN o off vs)(hl:vs.length=n*size):Reads P (St B w0 G) size (.slice (some ⟨b,off,Option.none⟩) len cap) n vs:=by
 obtain⟨cs,e,fr,rfl,h⟩:=hg
 exact Reads.slice hl fun i v hv=>by rw[add_mk];exact Cell.of hs hm (h i v hv)
theorem ow_copy {d:Nat}{x y:Operand}{b off dLen dCap sLen sCap e size n:Nat}{so:Option Addr}{o o':Obj}{vs:List Value}{R:Hp→List Hp}{tys:Array TypeId}{pos:String}{af:Array Edge}{g:Option (Nat×Bool)}{rest:List Oper}(hg:Env.guard E ops g=some true)(hd:Nat.blt d N=true)
  (ht:tys[0]?=some T) (hT:P.underlying T=some (.slice e)) (he:(P.info? e).map (·.size)=some size)
  (hx:Env.ev E x=some (.slice (some ⟨b,off,Option.none⟩) dLen dCap)) (hy:Env.ev E y=some (.slice so sLen sCap)) (hn:Nat.min sLen dLen=n)
  (hr:Reads P (St B w0 G) size (.slice so sLen sCap) n vs) (h1:∀u∈vs,u.oneCell'=true) (hs:Sel G [(b,o)] R) (hset:SetN o off vs o')
  (h:OW P ops Q B w0 N (R [(b,o')]) ((d,.int .i64 n)::E) rest):OW P ops Q B w0 N G E (⟨some d,.call {callee:=.builtin .copy,args:=#[x,y],argTypes:=tys},ty,pos,af,g⟩::rest):=fun a w ha hw=>by
 unfold wpList
 rw[if_pos (ha.guard (o:=⟨some d,.call {callee:=.builtin .copy,args:=#[x,y],argTypes:=tys},ty,pos,af,g⟩) hg)]
 obtain⟨cs,e',rfl,hl,rfl⟩:=hset
 have hb:=hw.read hs (List.Mem.head _)
 have h2:=run_storeCells_at P b off e' vs 0 cs w hb (by simpa using hl) h1
 have h2':(storeCells ⟨b,off,Option.none⟩ vs).run P w=.ok () (w.setRow b (splice cs.toList off vs).toArray):=by simpa [splice] using h2
 refine .inl ?_
 unfold Oper.wp
 have h3:(execOp a.eval ⟨some d,.call {callee:=.builtin .copy,args:=#[x,y],argTypes:=tys},ty,pos,af,g⟩).run P w=.ok (.value (.int .i64 n)) (w.setRow b (splice cs.toList off vs).toArray):=by
  have h4:=hr.run w hw
  simp[execOp,resolve,ha.ev hx,ha.ev hy,invoke,builtin,Builtin.copy_,ht,run_underlying hT,Builtin.lenOf,run_sizeOf he w,h4,h2',goInt,hn]
 rw[h3]
 exact h _ _ (ha.put (by simpa using hd) _) (hw.setRow hs)
inductive IsSl (e:TypeId)(size:Nat):Value→Hp→Nat→List Value→Prop where
 |nil:IsSl e size (.slice none 0 0) [] 0 []
 |row {b n cap:Nat} {pre xs spare post:List Value} (hx:xs.length=n*size) (hs:spare.length=(cap-n)*size) (hn:n≤cap):
   IsSl e size (.slice (some ⟨b,pre.length,Option.none⟩) n cap) [(b,.cells (pre++(xs++(spare++post))).toArray e (0,0))] n xs
theorem IsSl.drop {e:TypeId}{size:Nat}{ao:Option Addr}{n cap l:Nat}{c:Hp}{xs:List Value}(h:IsSl e size (.slice ao n cap) c n xs)(hl:l≤n)(hpos:0<l):
  IsSl e size (.slice (cutA ao cap l size) (n-l) (cap-l)) c (n-l) (xs.drop (l*size)):=by
 cases h with
 |nil=>omega
 |@row b n cap pre xs spare post hx hs hn=>
  have h1:l*size≤xs.length:=by rw[hx];exact Nat.mul_le_mul_right _ hl
  have h2:xs=xs.take (l*size)++xs.drop (l*size):=(List.take_append_drop _ _).symm
  by_cases hc:cap=l
  ·subst hc
   have hn2:n=cap:=by omega
   subst hn2
   have h3:xs.drop (n*size)=[]:=by apply List.drop_eq_nil_of_le;omega
   have h4:cutA (some ⟨b,pre.length,Option.none⟩) n n size=some ⟨b,pre.length,Option.none⟩:=by simp[cutA]
   rw[h3,h4,Nat.sub_self]
   exact IsSl.row (pre:=pre) (xs:=[]) (spare:=[]) (post:=xs++(spare++post)) (by simp) (by simp) (Nat.le_refl _)
  ·have h4:cutA (some ⟨b,pre.length,Option.none⟩) cap l size=some ⟨b,pre.length+l*size,Option.none⟩:=cutA_some (by omega)
   have h5:pre.length+l*size=(pre++xs.take (l*size)).length:=by simp;omega
   have h6:pre++(xs++(spare++post))=(pre++xs.take (l*size))++(xs.drop (l*size)++(spare++post)):=by
    rw[List.append_assoc,←List.append_assoc (xs.take (l*size)),List.take_append_drop]
   rw[h4,h5,h6]
   exact IsSl.row (by simp[hx,Nat.sub_mul]) (by rw[hs];congr 1;omega) (by omega)
structure Elem (P:Program)(e:TypeId)(size bytes:Nat):Prop where
 info:∃i,P.info? e=some i∧i.size=size∧i.bytes=bytes∧∃z,i.zero=some z∧z.cells.size=size
theorem zeroCells_size (zero:Array Value)(n:Nat):(Builtin.zeroCells zero n).size=n*zero.size:=by simp[Builtin.zeroCells]
theorem IsSl.length {e:TypeId}{size:Nat}{v:Value}{c:Hp}{n:Nat}{xs:List Value}(h:IsSl e size v c n xs):xs.length=n*size:=by
 cases h with
 |nil=>simp
 |row hx _ _=>exact hx
theorem run_append_new {a:Act}{x y:Operand}{e size bytes n m cap:Nat}{so:Option Addr}{yv:Value}{xs ys:List Value}{pos:String}{af:Array Edge}{g:Option (Nat×Bool)}{d:Option Nat}{w:World}
  (hT:P.underlying T=some (.slice e)) (hU:P.underlying U=some (.slice e)) {i:TypeInfo} {z:Value} (hi:P.info? e=some i) (his:i.size=size) (hib:i.bytes=bytes) (hz:i.zero=some z)
  (hx:a.eval x=.slice so n cap) (hy:a.eval y=yv) (hm:(Builtin.lenOf yv).run P w=.ok m w) (hold:(Builtin.firstCells size n (.slice so n cap)).run P w.drew=.ok xs.toArray w.drew) (hnew:(Builtin.firstCells size m yv).run P w.drew=.ok ys.toArray w.drew)
  (hroom:cap<n+m) (h47:(n+m)*bytes≤140737488355328) (h63:n+m≤9223372036854775807):
  ∃c',n+m≤c'∧(execOp a.eval ⟨d,.call {callee:=.builtin .append,args:=#[x,y],argTypes:=#[T,U]},ty,pos,af,g⟩).run P w=
   .ok (.value (.slice (some ⟨w.heap.size,0,Option.none⟩) (n+m) c')) (w.drew.alloc (.cells ((xs++(ys++(Builtin.zeroCells z.cells (c'-(n+m))).toList)).toArray) e)):=by
 subst his
 subst hib
 have hn:¬(n+m≤cap):=by omega
 have h63':¬(9223372036854775807<((n:Int)+(m:Int))):=by omega
 have hfit:Builtin.nextslicecap (n+m) cap*i.bytes≤281474976710656:=growslice_fits hroom h47
 have h48':¬(281474976710656<Builtin.nextslicecap (n+m) cap*i.bytes):=by omega
 refine⟨n+m+w.tape w.drawn (.appendCap (n+m) cap e)%(9223372036854775808-(n+m)),by omega,?_⟩
 have hsz:∀v:World,(sizeOf e).run P v=.ok i.size v:=fun v=>run_sizeOf (by rw[hi];rfl) v
 simp[execOp,resolve,hx,hy,invoke,builtin,Builtin.append_,run_underlying hT,run_underlying hU,hm,hn,hsz,h63',h48',typeInfo,hi,Question.forced,Question.cut,askRoom,hold,hnew,zeroValue,hz,newRow]
 congr 2
 apply Array.ext'
 simp
theorem run_append_in {a:Act}{x y:Operand}{e size n m cap b o:Nat}{yv:Value}{ys:List Value}{cs:Array Value}{e':TypeId}{pos:String}{af:Array Edge}{g:Option (Nat×Bool)}{d:Option Nat}{w:World}
  (hT:P.underlying T=some (.slice e)) (hU:P.underlying U=some (.slice e)) (hsz:(P.info? e).map (·.size)=some size)
  (hx:a.eval x=.slice (some ⟨b,o,Option.none⟩) n cap) (hy:a.eval y=yv) (hm:(Builtin.lenOf yv).run P w=.ok m w) (hnew:(Builtin.firstCells size m yv).run P w=.ok ys.toArray w)
  (hroom:n+m≤cap) (hb:w.heap[b]?=some (.cells cs e' (0,0))) (hl:o+n*size+ys.length≤cs.size) (h1:∀u∈ys,u.oneCell'=true):
  (execOp a.eval ⟨d,.call {callee:=.builtin .append,args:=#[x,y],argTypes:=#[T,U]},ty,pos,af,g⟩).run P w=
   .ok (.value (.slice (some ⟨b,o,Option.none⟩) (n+m) cap)) (w.setRow b (splice cs.toList (o+n*size) ys).toArray):=by
 have h2:=run_storeCells_at P b (o+n*size) e' ys 0 cs w hb (by simpa using hl) h1
 have h2':(storeCells ⟨b,o+n*size,Option.none⟩ ys).run P w=.ok () (w.setRow b (splice cs.toList (o+n*size) ys).toArray):=by simpa [splice] using h2
 simp[execOp,resolve,hx,hy,invoke,builtin,Builtin.append_,run_underlying hT,run_underlying hU,hm,hroom,run_sizeOf hsz,hnew,add_mk,h2']
theorem ow_append {d:Nat}{x y:Operand}{e size bytes n m:Nat}{sv yv:Value}{c:Hp}{xs ys:List Value}{R:Hp→List Hp}{pos:String}{af:Array Edge}{g:Option (Nat×Bool)}{rest:List Oper}(hg:Env.guard E ops g=some true)(hd:Nat.blt d N=true)
  (hT:P.underlying T=some (.slice e)) (hU:P.underlying U=some (.slice e)) (he:Elem P e size bytes)
  (hx:Env.ev E x=some sv) (hy:Env.ev E y=some yv) (hm:∀w:World,(Builtin.lenOf yv).run P w=.ok m w)
  (hsl:IsSl e size sv c n xs) (hs:Sel G c R) (hr:Reads P (St B w0 G) size yv m ys) (h1:∀u∈ys,u.oneCell'=true) (h47:(n+m)*bytes≤140737488355328) (h63:n+m≤9223372036854775807)
  (h:∀v' c',IsSl e size v' c' (n+m) (xs++ys)→OW P ops Q B w0 N (R c') ((d,v')::E) rest):
  OW P ops Q B w0 N G E (⟨some d,.call {callee:=.builtin .append,args:=#[x,y],argTypes:=#[T,U]},ty,pos,af,g⟩::rest):=fun a w ha hw=>by
 unfold wpList
 rw[if_pos (ha.guard (o:=⟨some d,.call {callee:=.builtin .append,args:=#[x,y],argTypes:=#[T,U]},ty,pos,af,g⟩) hg)]
 refine .inl ?_
 unfold Oper.wp
 obtain⟨i,hi,his,hib,z,hz,hzs⟩:=he.info
 have hsz:(P.info? e).map (·.size)=some size:=by rw[hi];simp[his]
 obtain⟨F,hp1,hp2⟩:=hs.perm
 -- the new block
 have fresh:∀{so:Option Addr} {cap:Nat},sv=.slice so n cap→cap<n+m→xs.length=n*size→(Builtin.firstCells size n (.slice so n cap)).run P w.drew=.ok xs.toArray w.drew→
   Oper.upon P ⟨some d,.call {callee:=.builtin .append,args:=#[x,y],argTypes:=#[T,U]},ty,pos,af,g⟩ a (wpList P ops Q rest) Q
    ((execOp a.eval ⟨some d,.call {callee:=.builtin .append,args:=#[x,y],argTypes:=#[T,U]},ty,pos,af,g⟩).run P w):=by
  intro so cap hsv hroom hxl hold
  obtain⟨c',hc',hrun⟩:=run_append_new (ty:=ty) (pos:=pos) (af:=af) (g:=g) (d:=some d) hT hU hi his hib hz ((ha.ev hx).trans hsv) (ha.ev hy) (hm w) hold (hr.run _ hw.drew) hroom h47 h63
  rw[hrun]
  have hrow:=IsSl.row (e:=e) (size:=size) (b:=w.heap.size) (n:=n+m) (cap:=c') (pre:=[]) (xs:=xs++ys) (spare:=(Builtin.zeroCells z.cells (c'-(n+m))).toList) (post:=[])
   (by simp[hxl,hr.len,Nat.add_mul]) (by simp[zeroCells_size,hzs]) hc'
  refine h _ _ hrow _ _ (ha.put (by simpa using hd) _) ?_
  refine St.perm ?_ (hp2 _).symm
  have hst:=(hw.drew.perm hp1).new (.cells ((xs++(ys++(Builtin.zeroCells z.cells (c'-(n+m))).toList)).toArray) e)
  have hst2:=hst.weak (G':=[(w.drew.heap.size,.cells ((xs++(ys++(Builtin.zeroCells z.cells (c'-(n+m))).toList)).toArray) e (0,0))]::F) ((List.sublist_cons_self c F).cons_cons _)
  simpa using hst2
 cases hsl with
 |nil=>
  by_cases h0:m=0
  ·subst h0
   have hys:ys=[]:=by have:=hr.len;simp at this;exact this
   subst hys
   have h3:(execOp a.eval ⟨some d,.call {callee:=.builtin .append,args:=#[x,y],argTypes:=#[T,U]},ty,pos,af,g⟩).run P w=.ok (.value (.slice none 0 0)) w:=by
    have hrd:=hr.run w hw
    have hm':=hm w
    simp[execOp,resolve,ha.ev hx,ha.ev hy,invoke,builtin,Builtin.append_,run_underlying hT,run_underlying hU,hm',run_sizeOf hsz w,hrd]
   rw[h3]
   refine h _ _ IsSl.nil _ _ (ha.put (by simpa using hd) _) ?_
   rw[hs.eq]
   exact hw
  ·exact fresh (so:=none) (cap:=0) rfl (by omega) (by simp) (run_firstCells_none _ size 0 0 0)
 |@row b n cap pre xs spare post hx' hsp hn=>
  by_cases hroom:n+m≤cap
  ·have hb:=hw.read hs (List.Mem.head _)
   have hlen:pre.length+n*size+ys.length≤(pre++(xs++(spare++post))).toArray.size:=by
    have h5:m*size≤(cap-n)*size:=Nat.mul_le_mul_right _ (by omega)
    have h6:=hr.len
    simp only[List.size_toArray,List.length_append]
    omega
   rw[run_append_in (ty:=ty) (pos:=pos) (af:=af) (g:=g) (d:=some d) hT hU hsz (ha.ev hx) (ha.ev hy) (hm w) (hr.run w hw) hroom hb hlen h1]
   have hrow:=IsSl.row (e:=e) (size:=size) (b:=b) (n:=n+m) (cap:=cap) (pre:=pre) (xs:=xs++ys) (spare:=spare.drop ys.length) (post:=post)
    (by simp[hx',hr.len,Nat.add_mul]) (by simp[hsp,hr.len,←Nat.sub_mul,Nat.sub_add_eq]) hroom
   refine h _ _ hrow _ _ (ha.put (by simpa using hd) _) ?_
   have hst:=hw.setRow (cs':=(splice (pre++(xs++(spare++post))) (pre.length+n*size) ys).toArray) hs
   have hsp2:splice (pre++(xs++(spare++post))) (pre.length+n*size) ys=pre++((xs++ys)++(spare.drop ys.length++post)):=by
    have h5:m*size≤(cap-n)*size:=Nat.mul_le_mul_right _ (by omega)
    have h6:ys.length≤spare.length:=by rw[hsp,hr.len];exact h5
    simp only[splice,←hx',List.append_assoc]
    have h7:pre.length+xs.length+ys.length=(pre++xs).length+ys.length:=by simp
    have h8:pre.length+xs.length=(pre++xs).length:=by simp
    rw[h7,h8,←List.append_assoc pre xs (spare++post),List.take_left,List.drop_append,List.drop_eq_nil_of_le (by omega),Nat.add_sub_cancel_left,List.drop_append_of_le_length h6]
    simp
   rw[hsp2]at hst
   show St B w0 _ (w.setRow b (splice (pre++(xs++(spare++post))) (pre.length+n*size) ys).toArray)
   rw[hsp2]
   exact hst
  ·have hold:(Builtin.firstCells size n (.slice (some ⟨b,pre.length,Option.none⟩) n cap)).run P w.drew=.ok xs.toArray w.drew:=
    (Reads.block (P:=P) (len:=n) (cap:=cap) hs (List.Mem.head _) (GetN.part rfl) hx').run _ hw.drew
   exact fresh rfl (by omega) hx' hold
theorem ow_buildSlice {d len e size:Nat}{l:List (Nat×Operand)}{vs:List (Nat×Value)}{cells:List Value}{pos:String}{af:Array Edge}{g:Option (Nat×Bool)}{rest:List Oper}(hg:Env.guard E ops g=some true)(hd:Nat.blt d N=true)
  (hl:Env.parts E l=some vs) (hb:∀w:World,(Instr.buildSlice T len vs.toArray).run P w=.ok (.slice (some ⟨w.heap.size,0,none⟩) len len) (w.alloc (.cells cells.toArray e)))
  (hsize:cells.length=len*size)
  (h:∀b,IsSl e size (.slice (some ⟨b,0,none⟩) len len) [(b,.cells cells.toArray e (0,0))] len cells→OW P ops Q B w0 N ([(b,.cells cells.toArray e (0,0))]::G) ((d,.slice (some ⟨b,0,none⟩) len len)::E) rest):
  OW P ops Q B w0 N G E (⟨some d,.buildSlice T len l.toArray,ty,pos,af,g⟩::rest):=fun a w ha hw=>by
 unfold wpList
 rw[if_pos (ha.guard (o:=⟨some d,.buildSlice T len l.toArray,ty,pos,af,g⟩) hg)]
 refine .inl ?_
 unfold Oper.wp
 have h1:=ha.parts hl
 have h2:(Array.map (fun p:Nat×Operand=>(p.1,a.eval p.2)) l.toArray)=vs.toArray:=by simp[h1]
 have h3:(execOp a.eval ⟨some d,.buildSlice T len l.toArray,ty,pos,af,g⟩).run P w=.ok (.value (.slice (some ⟨w.heap.size,0,none⟩) len len)) (w.alloc (.cells cells.toArray e)):=by
  simp[execOp,h2,hb w]
 rw[h3]
 have hrow:=IsSl.row (e:=e) (size:=size) (b:=w.heap.size) (n:=len) (cap:=len) (pre:=[]) (xs:=cells) (spare:=[]) (post:=[]) hsize (by simp) (Nat.le_refl _)
 simp only[List.nil_append,List.append_nil,List.length_nil]at hrow
 exact h w.heap.size hrow _ _ (ha.put (by simpa using hd) _) (hw.new _)
theorem Scalar.of {d:TypeDesc}(hT:P.underlying T=some d)(hd:(match d with|.struct _|.array _ _=>false|_=>true)=true)(hs:(P.info? T).map (·.size)=some 1):Scalar P T:=
 ⟨fun w=>by
  unfold isAgg
  rw[Sem.run_bind,run_underlying hT w]
  cases d<;>simp_all,hs⟩
theorem Agg.of {d:TypeDesc}{n:Nat}(hT:P.underlying T=some d)(hd:(match d with|.struct _|.array _ _=>true|_=>false)=true)(hs:(P.info? T).map (·.size)=some n):Agg P T n:=
 ⟨fun w=>by
  unfold isAgg
  rw[Sem.run_bind,run_underlying hT w]
  cases d<;>simp_all,hs⟩
theorem Zero.of {z:Value}{zs:List Value}(h:(P.info? T).bind (·.zero)=some z)(hz:z.cells=zs.toArray):Zero P T zs:=
 ⟨fun w=>⟨z,by
  cases hq:P.info? T with
  |none=>rw[hq]at h;simp at h
  |some i=>
   rw[hq]at h
   simp only[Option.bind_some]at h
   simp[zeroValue,typeInfo,hq,h],hz⟩⟩
theorem Elem.of {e:TypeId}{size bytes:Nat}(h:(P.info? e).map (fun i=>(i.size,i.bytes,i.zero.map fun z=>z.cells.size))=some (size,bytes,some size)):Elem P e size bytes:=
 ⟨by
  cases hq:P.info? e with
  |none=>rw[hq]at h;simp at h
  |some i=>
   rw[hq]at h
   simp only[Option.map_some,Option.some.injEq,Prod.mk.injEq,Option.map_eq_some_iff]at h
   obtain⟨h1,h2,z,h3,h4⟩:=h
   exact⟨i,rfl,h1,h2,z,h3,h4⟩⟩
end Go.Sl
namespace Go.Sl
open Go.RowKit Go
variable {P:Program}{ops:Array Oper}{md:Region.Mode}{C:World→Prop}{B:Nat}{w0:World}
def readsMem (o:Oper):Bool:=match o.op with
 |.move _|.assign _|.pick ..|.nilCheck _|.binOp ..|.unOp ..|.fieldAddr ..|.indexAddr ..|.slice ..|.extract ..|.build ..|.field ..|.index ..|.makeFunc ..=>false
 |.call {callee:=.builtin .len,..}|.call {callee:=.builtin .cap,..}|.call {callee:=.builtin .min,..}|.call {callee:=.builtin .max,..}=>false
 |_=>true
def headAt (P:Program)(o:Oper)(a:Act)(C:World→Prop)(v:Value):Prop:=
 (∀w,C w→o.quietAt P a C w v)∧(readsMem o=false→∀w,(execOp a.eval o).run P w=.ok (.value v) w)
def wpHead (P:Program)(ops:Array Oper)(C:World→Prop)(Q:Act→Prop):List Oper→Act→Prop
 |[],a=>Q a
 |o::rest,a=>if Region.wanted o (yielded ops a.tmps) then ∃v,headAt P o a C v∧wpHead P ops C Q rest (a.put o.dst v) else wpHead P ops C Q rest (a.put o.dst undef)
def hOp (P:Program)(ops:Array Oper)(C:World→Prop)(i:Nat)(K:Act→Prop)(a:Act):Prop:=
 match ops[i]? with
 |none=>K a
 |some o=>if Region.wanted o (yielded ops a.tmps) then ∃v,headAt P o a C v∧K (a.put o.dst v) else K (a.put o.dst undef)
theorem hOp_mono {i:Nat}{a:Act}{K K':Act→Prop}(h:∀a,K a→K' a)(hh:hOp P ops C i K a):hOp P ops C i K' a:=by
 unfold hOp at *
 split
 ·rename_i ho;simp only[ho]at hh;exact h _ hh
 ·rename_i o ho
  simp only[ho]at hh
  split
  ·rename_i hw;simp only[hw,if_true]at hh;obtain⟨v,h1,h2⟩:=hh;exact⟨v,h1,h _ h2⟩
  ·rename_i hw;simp only[hw]at hh;exact h _ hh
def softAt (P:Program)(B:Nat)(w0:World)(G:List Hp)(o:Oper)(a:Act)(obj:Obj)(mk:Nat→Value):Prop:=
 ∀w,St B w0 G w→(execOp a.eval o).run P w=.ok (.value (mk w.heap.size)) (w.alloc obj)
def sOp (P:Program)(ops:Array Oper)(B:Nat)(w0:World)(j:Nat)(K:List Hp→Act→Prop)(G:List Hp)(a:Act):Prop:=
 match ops[j]? with
 |none=>K G a
 |some o=>if Region.wanted o (yielded ops a.tmps) then ∃obj mk,softAt P B w0 G o a obj mk∧∀b,K ([(b,obj)]::G) (a.put o.dst (mk b)) else K G (a.put o.dst undef)
def wpM (P:Program)(md:Region.Mode)(ops:Array Oper)(B:Nat)(w0:World)(sf tl:List Nat)(Q:Exit→Act→World→Prop):Nat→Array Bool→List Hp→Act→Prop
 |0,listed,G,a=>Region.ready md ops listed=[]∧∀w,St B w0 G w→Q .normal a w
 |fuel+1,listed,G,a=>
  (Region.ready md ops listed=[]→∀w,St B w0 G w→Q .normal a w)∧
  ∀i∈Region.ready md ops listed,if tl.contains i then ∀w,St B w0 G w→wpOp P ops Q i (wpAny P md ops Q fuel (listed.setIfInBounds i true)) a w
   else if sf.contains i then sOp P ops B w0 i (wpM P md ops B w0 sf tl Q fuel (listed.setIfInBounds i true)) G a
   else hOp P ops (St B w0 G) i (wpM P md ops B w0 sf tl Q fuel (listed.setIfInBounds i true) G) a
theorem wpOp_of_hOp {i:Nat}{a:Act}{K:Act→Prop}{K':Act→World→Prop}{Q:Exit→Act→World→Prop}{w:World}(hC:C w)(h:∀a w',C w'→K a→K' a w')(hh:hOp P ops C i K a):wpOp P ops Q i K' a w:=by
 unfold hOp at hh
 unfold wpOp
 split
 ·rename_i ho;simp only[ho]at hh;exact h _ _ hC hh
 ·rename_i o ho
  simp only[ho]at hh
  split
  ·rename_i hw
   simp only[hw,if_true]at hh
   obtain⟨v,h1,h2⟩:=hh
   exact .inl (Oper.wp_of_quiet (K:=fun a'=>a'=a.put o.dst v) hC (fun a' w' hw' e=>by subst e;exact h _ _ hw' h2) ⟨v,h1.1,rfl⟩)
  ·rename_i hw;simp only[hw]at hh;exact h _ _ hC hh
theorem wpOp_of_sOp {i:Nat}{a:Act}{K:List Hp→Act→Prop}{K':Act→World→Prop}{Q:Exit→Act→World→Prop}{G:List Hp}{w:World}(hw:St B w0 G w)(h:∀G a w',St B w0 G w'→K G a→K' a w')(hh:sOp P ops B w0 i K G a):wpOp P ops Q i K' a w:=by
 unfold sOp at hh
 unfold wpOp
 split
 ·rename_i ho;simp only[ho]at hh;exact h _ _ _ hw hh
 ·rename_i o ho
  simp only[ho]at hh
  split
  ·rename_i hwt
   simp only[hwt,if_true]at hh
   obtain⟨obj,mk,h1,h2⟩:=hh
   refine .inl ?_
   unfold Oper.wp
   rw[h1 w hw]
   exact h _ _ _ (hw.new obj) (h2 _)
  ·rename_i hwt;simp only[hwt]at hh;exact h _ _ _ hw hh
theorem wpAny_of_M {sf tl:List Nat}{Q:Exit→Act→World→Prop}:∀(fuel:Nat) (listed:Array Bool) (G:List Hp) (a:Act) (w:World),St B w0 G w→wpM P md ops B w0 sf tl Q fuel listed G a→wpAny P md ops Q fuel listed a w
 |0,_,_,_,w,hw,h=>⟨h.1,h.2 w hw⟩
 |fuel+1,_,G,_,w,hw,h=>⟨fun h0=>h.1 h0 w hw,fun i hi=>by
   have h1:=h.2 i hi
   split at h1
   ·exact h1 w hw
   ·split at h1
    ·exact wpOp_of_sOp hw (fun G' a' w' hw'=>wpAny_of_M fuel _ G' a' w' hw') h1
    ·exact wpOp_of_hOp hw (fun a' w' hw'=>wpAny_of_M fuel _ G a' w' hw') h1⟩
def YieldsH (P:Program)(ops:Array Oper)(C:World→Prop)(o:Oper)(v:Value)(a:Act):Prop:=
 (Region.wanted o (yielded ops a.tmps)=true∧headAt P o a C v)∨(Region.wanted o (yielded ops a.tmps)=false∧v=undef)
theorem YieldsH.hOp {i:Nat}{o:Oper}{v:Value}{a:Act}(hi:ops[i]?=some o)(hy:YieldsH P ops C o v a){K:Act→Prop}(h:K (a.put o.dst v)):hOp P ops C i K a:=by
 unfold Go.Sl.hOp
 simp only[hi]
 rcases hy with⟨hw,hv⟩|⟨hw,rfl⟩
 ·simp only[hw,if_true];exact⟨v,hv,h⟩
 ·simp only[hw,Bool.false_eq_true,if_false];exact h
theorem YieldsH.of_same {o:Oper}{v:Value}{a a':Act}(hy:YieldsH P ops C o v a)(he:execOp a'.eval o=execOp a.eval o)
  (hw:Region.wanted o (yielded ops a'.tmps)=Region.wanted o (yielded ops a.tmps)):YieldsH P ops C o v a':=by
 unfold YieldsH headAt Oper.quietAt at *
 rw[he,hw]
 exact hy
theorem YieldsH.pure {o:Oper}{v:Value}{a:Act}(hy:YieldsH P ops C o v a)(hr:readsMem o=false):Yields P ops o v a:=by
 rcases hy with⟨h1,h2⟩|h
 ·exact .inl ⟨h1,h2.2 hr⟩
 ·exact .inr h
theorem yieldsH_of_hOp {i:Nat}{o:Oper}{a:Act}{K:Act→Prop}(hi:ops[i]?=some o)(h:hOp P ops C i K a):∃v,YieldsH P ops C o v a∧K (a.put o.dst v):=by
 unfold hOp at h
 simp only[hi]at h
 by_cases hw:Region.wanted o (yielded ops a.tmps)=true
 ·simp only[hw,if_true]at h
  obtain⟨v,h1,h2⟩:=h
  exact⟨v,.inl ⟨hw,h1⟩,h2⟩
 ·simp only[hw]at h
  exact⟨undef,.inr ⟨by simpa using hw,rfl⟩,h⟩
theorem hOp_put {j:Nat}{oi oj:Oper}{v:Value}(hj:ops[j]?=some oj)(hap:oi.apart ops oj=true)
  (hsi:∀cs b,oi.op≠.select cs b) (hsj:∀cs b,oj.op≠.select cs b) {K:Act→Prop} {a:Act}
  (hy:YieldsH P ops C oi v a) (h:hOp P ops C j K (a.put oi.dst v)):
  hOp P ops C j (fun a'=>YieldsH P ops C oi v a'∧K (a'.put oi.dst v)) a:=by
 obtain⟨h1,h2,h3⟩:=Oper.apart_spec hap
 have keep:∀(a:Act),YieldsH P ops C oi v a→∀u,YieldsH P ops C oi v (a.put oj.dst u):=fun a hy u=>
  hy.of_same (execOp_put oi hsi a oj.dst u h3) (wanted_put oi a oj.dst u h3)
 unfold hOp at *
 simp only[hj]at *
 rw[wanted_put oj a oi.dst v h1]at h
 split
 ·rename_i hw
  simp only[hw,if_true]at h
  obtain⟨u,hu,hn⟩:=h
  refine⟨u,?_,keep a hy u,by rw[←Act.put_comm a v u h2];exact hn⟩
  unfold headAt Oper.quietAt at *
  rwa [execOp_put oj hsj a oi.dst v h1]at hu
 ·rename_i hw
  simp only[hw]at h
  exact⟨keep a hy _,by rw[←Act.put_comm a v undef h2];exact h⟩
def noCall (o:Oper):Bool:=match o.op with
 |.load ..|.convert ..=>true
 |_=>!readsMem o
theorem value_of {s:Sem Value}{w w':World}{n:Next}(h:(do pure (Next.value (←s)):Sem Next).run P w=.ok n w'):∃u,n=.value u:=by
 rw[Sem.run_bind]at h
 cases hs:s.run P w with
 |ok v w1=>rw[hs]at h;simp at h;exact⟨v,h.1.symm⟩
 |halt x w1=>rw[hs]at h;simp at h
theorem noCall_value {ρ:Operand→Value}{o:Oper}(ho:noCall o=true)(hr:readsMem o=true){w w':World}{n:Next}(h:(execOp ρ o).run P w=.ok n w'):∃u,n=.value u:=by
 obtain⟨d,op,ty,pos,af,g⟩:=o
 cases op<;>(try (simp[noCall,hr]at ho;done))<;>(try (simp[readsMem]at hr;done))
 all_goals exact value_of h
theorem headAt.more {o:Oper}{a:Act}{v:Value}{G:List Hp}{c:Hp}(hn:noCall o=true)(h:headAt P o a (St B w0 G) v):headAt P o a (St B w0 (c::G)) v:=by
 refine⟨fun w hw=>?_,h.2⟩
 cases hr:readsMem o with
 |false=>
  have:=h.2 hr w
  unfold Oper.quietAt
  rw[this]
  exact⟨rfl,rfl⟩
 |true=>
  have h1:=h.1 w (hw.weak (List.sublist_cons_self _ _))
  unfold Oper.quietAt at h1⊢
  cases hq:(execOp a.eval o).run P w with
  |halt x w'=>rw[hq]at h1;exact h1
  |ok n w'=>
   obtain⟨u,rfl⟩:=noCall_value hn hr hq
   rw[hq]at h1
   exact h1
theorem YieldsH.more {o:Oper}{a:Act}{v:Value}{G:List Hp}{c:Hp}(hn:noCall o=true)(h:YieldsH P ops (St B w0 G) o v a):YieldsH P ops (St B w0 (c::G)) o v a:=by
 rcases h with⟨h1,h2⟩|h
 ·exact .inl ⟨h1,h2.more hn⟩
 ·exact .inr h
def Closed (md:Region.Mode)(ops:Array Oper)(listed:Array Bool):Prop:=∀(k:Nat) (o:Oper),ops[k]?=some o→listed.getD k false=true→∀e∈o.after,Region.binds md e=true→listed.getD e.on false=true
theorem getD_mono {listed:Array Bool}{j x:Nat}(h:listed.getD x false=true):(listed.setIfInBounds j true).getD x false=true:=by
 rw[Array.getD_eq_getD_getElem?]at *
 by_cases hjx:j=x
 ·subst hjx
  by_cases hs:j<listed.size
  ·simp[hs]
  ·simp[Array.getElem?_eq_none (Nat.le_of_not_lt hs)]at h
 ·rw[Array.getElem?_setIfInBounds_ne hjx];exact h
theorem getD_back {listed:Array Bool}{j x:Nat}(hjx:j≠x)(h:(listed.setIfInBounds j true).getD x false=true):listed.getD x false=true:=by
 rw[Array.getD_eq_getD_getElem?]at *
 rwa [Array.getElem?_setIfInBounds_ne hjx]at h
theorem Closed.add {listed:Array Bool}(h:Closed md ops listed){j:Nat}(hj:j∈Region.ready md ops listed):Closed md ops (listed.setIfInBounds j true):=fun k o hk hl e he hb=>by
 obtain⟨_,oj,hoj,hall⟩:=mem_ready.1 hj
 by_cases hjk:j=k
 ·subst hjk
  rw[hoj]at hk
  cases hk
  exact getD_mono (hall e he hb)
 ·exact getD_mono (h k o hk (getD_back hjk hl) e he hb)
theorem Closed.start (n:Nat):Closed md ops (Array.replicate n false):=fun k o hk hl=>by
 exfalso
 rw[Array.getD_eq_getD_getElem?,Array.getElem?_replicate]at hl
 split at hl<;>simp at hl
def reaches (md:Region.Mode)(ops:Array Oper)(i:Nat):Nat→Nat→Bool
 |0,_=>false
 |n+1,t=>match ops[t]? with
  |some o=>o.after.any fun e=>Region.binds md e&&(e.on == i||reaches md ops i n e.on)
  |none=>false
theorem reaches_listed {listed:Array Bool}{i:Nat}(hc:Closed md ops listed):∀(n t:Nat) (o:Oper),ops[t]?=some o→(∀e∈o.after,Region.binds md e=true→listed.getD e.on false=true)→reaches md ops i n t=true→listed.getD i false=true
 |0,t,o,_,_,h=>by simp[reaches]at h
 |n+1,t,o,ho,hall,h=>by
  simp only[reaches,ho]at h
  obtain⟨e,he,h2⟩:=Array.any_eq_true'.1 h
  simp only[Bool.and_eq_true,Bool.or_eq_true,beq_iff_eq]at h2
  rcases h2.2 with h3|h3
  ·subst h3
   exact hall e he h2.1
  ·cases hk:ops[e.on]? with
   |none=>cases n<;>simp[reaches,hk]at h3
   |some o'=>exact reaches_listed hc n e.on o' hk (hc e.on o' hk (hall e he h2.1)) h3
theorem not_listed {listed:Array Bool}{i:Nat}(h:listed.getD i true=false):listed.getD i false=false:=by
 rw[Array.getD_eq_getD_getElem?]at *
 cases hq:listed[i]? with
 |none=>rw[hq]at h;simp at h
 |some b=>rw[hq]at h;simpa using h
theorem wpM_first {sf tl:List Nat}{Q:Exit→Act→World→Prop}{i:Nat}{oi:Oper}{v:Value}(hi:ops[i]?=some oi)(hsel:∀(j:Nat) (o:Oper) cs b,ops[j]?=some o→o.op≠.select cs b)
  (hQ:∀c a w,¬Q (.panic c) a w) (hit:tl.contains i=false) (his:sf.contains i=false)
  (hwait:readsMem oi=true→∀t∈tl,reaches md ops i 99 t=true)
  (hwaitS:noCall oi=false→∀t∈sf,reaches md ops i 99 t=true):
  ∀(fuel:Nat) (listed:Array Bool) (G:List Hp) (a:Act),Closed md ops listed→
   (∀j oj,ops[j]?=some oj→j≠i→listed.getD j true=false→(∀e∈oj.after,Region.binds md e=true→e.on≠i)→oi.apart ops oj=true)→
   i∈Region.ready md ops listed→YieldsH P ops (St B w0 G) oi v a→
   wpM P md ops B w0 sf tl Q fuel (listed.setIfInBounds i true) G (a.put oi.dst v)→wpM P md ops B w0 sf tl Q (fuel+1) listed G a:=by
 intro fuel
 induction fuel with
 |zero=>
  intro listed G a _ _ hr hy H
  refine⟨fun h=>(by rw[h]at hr;cases hr),fun j hj=>?_⟩
  by_cases hji:j=i
  ·subst hji;rw[if_neg (by simp at hit⊢;exact hit),if_neg (by simp at his⊢;exact his)];exact hy.hOp hi H
  ·have:=ready_mono hj hji
   rw[H.1]at this
   cases this
 |succ fuel ih=>
  intro listed G a hcl hfree hr hy H
  refine⟨fun h=>(by rw[h]at hr;cases hr),fun j hj=>?_⟩
  by_cases hji:j=i
  ·subst hji;rw[if_neg (by simp at hit⊢;exact hit),if_neg (by simp at his⊢;exact his)];exact hy.hOp hi H
  ·have h1:=H.2 j (ready_mono hj hji)
   obtain⟨hjun,oj,hoj,hall⟩:=mem_ready.1 hj
   have hnot:∀e∈oj.after,Region.binds md e=true→e.on≠i:=fun e he hb heq=>by
    have h1:=hall e he hb
    have h0:=(mem_ready.1 hr).1
    rw[heq]at h1
    rcases Nat.lt_or_ge i listed.size with h'|h'
    ·simp[h']at h0 h1;rw[h0]at h1;cases h1
    ·simp[Array.getElem?_eq_none h']at h1
   have hap:=hfree j oj hoj hji hjun hnot
   have hfree':∀k ok,ops[k]?=some ok→k≠i→(listed.setIfInBounds j true).getD k true=false→
     (∀e∈ok.after,Region.binds md e=true→e.on≠i)→oi.apart ops ok=true:=fun k ok hk hki hun hno=>by
    refine hfree k ok hk hki ?_ hno
    by_cases hjk:j=k
    ·subst hjk;exact hjun
    ·rw[getD_set_ne true hjk]at hun;exact hun
   split at h1
   ·rename_i htl
    rw[if_pos htl]
    -- a tail operation:then i is pure
    have hpure:readsMem oi=false:=by
     cases hrm:readsMem oi with
     |false=>rfl
     |true=>
      have h5:=reaches_listed hcl 99 j oj hoj hall (hwait hrm j (by simpa using htl))
      rw[not_listed (mem_ready.1 hr).1]at h5
      cases h5
    intro w hw
    have hyp:=hy.pure hpure
    have h2:=wpOp_put hoj hap (fun cs b=>hsel i oi cs b hi) (fun cs b=>hsel j oj cs b hoj) (Q:=Q) (fun c a w hq=>absurd hq (hQ c _ w)) hyp (h1 w hw)
    refine wpOp_mono (fun a' w' h3=>?_) h2
    refine wpAny_first hi hsel (fun c a w hq=>absurd hq (hQ c _ w)) fuel (listed.setIfInBounds j true) a' w' hfree' (ready_mono hr (Ne.symm hji)) h3.1 ?_
    rw[Array.setIfInBounds_comm _ _ hji]
    exact h3.2
   ·rename_i htl
    rw[if_neg htl]
    split at h1
    ·rename_i hsfj
     rw[if_pos hsfj]
     have hnc:noCall oi=true:=by
      cases hrm:noCall oi with
      |true=>rfl
      |false=>
       have h5:=reaches_listed hcl 99 j oj hoj hall (hwaitS hrm j (by simpa using hsfj))
       rw[not_listed (mem_ready.1 hr).1]at h5
       cases h5
     obtain⟨p1,p2,p3⟩:=Oper.apart_spec hap
     have keep:∀u,YieldsH P ops (St B w0 G) oi v (a.put oj.dst u):=fun u=>
      hy.of_same (execOp_put oi (fun cs b=>hsel i oi cs b hi) a oj.dst u p3) (wanted_put oi a oj.dst u p3)
     unfold sOp at h1⊢
     simp only[hoj]at h1⊢
     rw[wanted_put oj a oi.dst v p1]at h1
     split
     ·rename_i hw
      simp only[hw,if_true]at h1
      obtain⟨obj,mk,g1,g2⟩:=h1
      refine⟨obj,mk,fun w hw=>?_,fun b=>?_⟩
      ·have:=g1 w hw
       rwa [execOp_put oj (fun cs b=>hsel j oj cs b hoj) a oi.dst v p1]at this
      ·refine ih (listed.setIfInBounds j true) _ _ (hcl.add hj) hfree' (ready_mono hr (Ne.symm hji)) ((keep _).more hnc) ?_
       rw[Array.setIfInBounds_comm _ _ hji,←Act.put_comm a v _ p2]
       exact g2 b
     ·rename_i hw
      simp only[hw]at h1
      refine ih (listed.setIfInBounds j true) _ _ (hcl.add hj) hfree' (ready_mono hr (Ne.symm hji)) (keep _) ?_
      rw[Array.setIfInBounds_comm _ _ hji,←Act.put_comm a v _ p2]
      exact h1
    ·rename_i hsfj
     rw[if_neg hsfj]
     have h2:=hOp_put hoj hap (fun cs b=>hsel i oi cs b hi) (fun cs b=>hsel j oj cs b hoj) hy h1
     refine hOp_mono (fun a' h3=>ih (listed.setIfInBounds j true) _ a' (hcl.add hj) hfree' (ready_mono hr (Ne.symm hji)) h3.1 ?_) h2
     rw[Array.setIfInBounds_comm _ _ hji]
     exact h3.2
def seqI (md:Region.Mode)(ops:Array Oper):List Nat→Array Bool→Bool
 |[],listed=>(Region.ready md ops listed).isEmpty
 |t::r,listed=>decide (Region.ready md ops listed=[t])&&seqI md ops r (listed.setIfInBounds t true)
theorem wpAny_of_seqI {Q:Exit→Act→World→Prop}:∀(l:List Nat) (os:List Oper) (listed:Array Bool) (a:Act) (w:World),l.mapM (fun i=>ops[i]?)=some os→seqI md ops l listed=true→
  wpList P ops Q os a w→wpAny P md ops Q l.length listed a w
 |[],os,listed,a,w,hl,hB,h=>by
  simp at hl
  subst hl
  exact⟨by simpa [seqI] using hB,h⟩
 |t::l,os,listed,a,w,hl,hB,h=>by
  simp only[List.mapM_cons]at hl
  cases h0:ops[t]? with
  |none=>rw[h0]at hl;simp at hl
  |some o=>
   rw[h0]at hl
   cases h1:l.mapM (fun i=>ops[i]?)with
   |none=>rw[h1]at hl;simp at hl
   |some os'=>
    rw[h1]at hl
    simp at hl
    subst hl
    simp only[seqI,Bool.and_eq_true,decide_eq_true_eq]at hB
    refine⟨fun h2=>(by rw[hB.1]at h2;cases h2),fun i hi=>?_⟩
    rw[hB.1]at hi
    have hik:i=t:=by simpa using hi
    subst hik
    have hw:wpOp P ops Q i (wpList P ops Q os') a w:=by unfold wpOp;simp only[h0];exact h
    exact wpOp_mono (fun a' w' h'=>wpAny_of_seqI l os' _ a' w' h1 hB.2 h') hw
def waitsFor (md:Region.Mode)(ops:Array Oper)(t i:Nat):Bool:=reaches md ops i 99 t
def seqS (md:Region.Mode)(ops:Array Oper)(tl:List Nat):List Nat→Array Bool→Bool
 |[],listed=>seqI md ops tl listed
 |t::r,listed=>decide (Region.ready md ops listed=[t])&&!tl.contains t&&seqS md ops tl r (listed.setIfInBounds t true)
def mixI (md:Region.Mode)(ops:Array Oper)(sf tl:List Nat):List Nat→Array Bool→Bool
 |[],listed=>seqS md ops tl sf listed
 |i::r,listed=>(Region.ready md ops listed).contains i&&Region.free md ops listed i&&!tl.contains i&&!sf.contains i&&
   (match ops[i]? with|some o=>(!readsMem o||tl.all (waitsFor md ops · i))&&(noCall o||sf.all (waitsFor md ops · i))|none=>false)&&mixI md ops sf tl r (listed.setIfInBounds i true)
def wpSoft (P:Program)(ops:Array Oper)(B:Nat)(w0:World)(Q:Exit→Act→World→Prop)(ts:List Oper):List Oper→List Hp→Act→Prop
 |[],G,a=>∀w,St B w0 G w→wpList P ops Q ts a w
 |o::r,G,a=>if Region.wanted o (yielded ops a.tmps) then ∃obj mk,softAt P B w0 G o a obj mk∧∀b,wpSoft P ops B w0 Q ts r ([(b,obj)]::G) (a.put o.dst (mk b)) else wpSoft P ops B w0 Q ts r G (a.put o.dst undef)
theorem wpM_of_tail {sf0 tl:List Nat}{ts:List Oper}{Q:Exit→Act→World→Prop}(hts:tl.mapM (fun i=>ops[i]?)=some ts){listed:Array Bool}{G:List Hp}{a:Act}(hB:seqI md ops tl listed=true)(h:∀w,St B w0 G w→wpList P ops Q ts a w):
  wpM P md ops B w0 sf0 tl Q tl.length listed G a:=by
 have base:∀w,St B w0 G w→wpAny P md ops Q tl.length listed a w:=fun w hw=>wpAny_of_seqI tl ts _ _ w hts hB (h w hw)
 cases tl with
 |nil=>exact⟨by simpa [seqI] using hB,fun w hw=>(base w hw).2⟩
 |cons t tl'=>
  simp only[seqI,Bool.and_eq_true,decide_eq_true_eq]at hB
  refine⟨fun h2=>(by rw[hB.1]at h2;cases h2),fun k hk=>?_⟩
  rw[hB.1]at hk
  have hkt:k=t:=by simpa using hk
  subst hkt
  rw[if_pos (by simp)]
  intro w hw
  exact(base w hw).2 k (by rw[hB.1];simp)
theorem wpM_of_soft {sf0 tl:List Nat}{ts:List Oper}{Q:Exit→Act→World→Prop}(hts:tl.mapM (fun i=>ops[i]?)=some ts):
  ∀(sf:List Nat) (os:List Oper) (listed:Array Bool) (G:List Hp) (a:Act),(∀x∈sf,x∈sf0)→sf.mapM (fun i=>ops[i]?)=some os→seqS md ops tl sf listed=true→
   wpSoft P ops B w0 Q ts os G a→wpM P md ops B w0 sf0 tl Q (sf.length+tl.length) listed G a
 |[],os,listed,G,a,_,hos,hB,h=>by
  simp at hos
  subst hos
  simp only[List.length_nil,Nat.zero_add]
  exact wpM_of_tail hts hB h
 |t::r,os,listed,G,a,hsub,hos,hB,h=>by
  simp only[List.mapM_cons]at hos
  cases h0:ops[t]? with
  |none=>rw[h0]at hos;simp at hos
  |some o=>
   rw[h0]at hos
   cases h1:r.mapM (fun i=>ops[i]?)with
   |none=>rw[h1]at hos;simp at hos
   |some os'=>
    rw[h1]at hos
    simp at hos
    subst hos
    simp only[seqS,Bool.and_eq_true,decide_eq_true_eq]at hB
    obtain⟨⟨hr,htl⟩,hB'⟩:=hB
    have hlen:(t::r).length+tl.length=(r.length+tl.length)+1:=by simp;omega
    rw[hlen]
    refine⟨fun h2=>(by rw[hr]at h2;cases h2),fun i hi=>?_⟩
    rw[hr]at hi
    have hik:i=t:=by simpa using hi
    subst hik
    rw[if_neg (by simp at htl⊢;exact htl),if_pos (by simpa using hsub i (by simp))]
    unfold sOp
    simp only[h0]
    simp only[wpSoft]at h
    split
    ·rename_i hw
     rw[if_pos hw]at h
     obtain⟨obj,mk,g1,g2⟩:=h
     exact⟨obj,mk,g1,fun b=>wpM_of_soft hts r os' _ _ _ (fun x hx=>hsub x (by simp[hx])) h1 hB' (g2 b)⟩
    ·rename_i hw
     rw[if_neg hw]at h
     exact wpM_of_soft hts r os' _ _ _ (fun x hx=>hsub x (by simp[hx])) h1 hB' h
theorem waits_spec {l:List Nat}{i:Nat}(h:l.all (waitsFor md ops · i)=true):∀t∈l,reaches md ops i 99 t=true:=fun t ht=>(List.all_eq_true.1 h) t ht
theorem wpM_of_mix {sf tl:List Nat}{ss ts:List Oper}{Q:Exit→Act→World→Prop}{G:List Hp}(hs:Region.noSelect ops=true)(hQ:∀c a w,¬Q (.panic c) a w)(hss:sf.mapM (fun i=>ops[i]?)=some ss)(hts:tl.mapM (fun i=>ops[i]?)=some ts):
  ∀(hd:List Nat) (os:List Oper) (listed:Array Bool) (a:Act),Closed md ops listed→hd.mapM (fun i=>ops[i]?)=some os→mixI md ops sf tl hd listed=true→
   wpHead P ops (St B w0 G) (fun a'=>wpSoft P ops B w0 Q ts ss G a') os a→wpM P md ops B w0 sf tl Q (hd.length+(sf.length+tl.length)) listed G a:=by
 intro hd
 induction hd with
 |nil=>
  intro os listed a hcl hos hB h
  simp at hos
  subst hos
  simp only[List.length_nil,Nat.zero_add]
  exact wpM_of_soft hts sf ss listed G a (fun x hx=>hx) hss hB h
 |cons i r ih=>
  intro os listed a hcl hos hB h
  simp only[List.mapM_cons]at hos
  cases h0:ops[i]? with
  |none=>rw[h0]at hos;simp at hos
  |some o=>
   rw[h0]at hos
   cases h1:r.mapM (fun i=>ops[i]?)with
   |none=>rw[h1]at hos;simp at hos
   |some os'=>
    rw[h1]at hos
    simp at hos
    subst hos
    simp only[mixI,Bool.and_eq_true,h0]at hB
    obtain⟨⟨⟨⟨⟨hr,hf⟩,ht⟩,hsf⟩,hm⟩,hB'⟩:=hB
    have hst:hOp P ops (St B w0 G) i (wpHead P ops (St B w0 G) (fun a'=>wpSoft P ops B w0 Q ts ss G a') os') a:=by unfold hOp;simp only[h0];exact h
    obtain⟨v,hy,hK⟩:=yieldsH_of_hOp h0 hst
    have hlen:(i::r).length+(sf.length+tl.length)=(r.length+(sf.length+tl.length))+1:=by simp;omega
    rw[hlen]
    refine wpM_first h0 (Region.noSelect_spec hs) hQ (by simpa using ht) (by simpa using hsf) (fun hrm=>?_) (fun hrm=>?_) (r.length+(sf.length+tl.length)) listed G a hcl (Region.free_spec h0 hf) (by simpa using hr) hy ?_
    ·have h3:=hm.1
     rw[hrm]at h3
     exact waits_spec (by simpa using h3)
    ·have h3:=hm.2
     rw[hrm]at h3
     exact waits_spec (by simpa using h3)
    ·exact ih os' (listed.setIfInBounds i true) (a.put o.dst v) (hcl.add (by simpa using hr)) h1 hB' hK
def NP (Q:Exit→Act→World→Prop):Exit→Act→World→Prop
 |.panic _,_,_=>False
 |e,a,w=>Q e a w
variable {Q:Exit→Act→World→Prop}{N:Nat}{G:List Hp}{E:Env}{S:World→Prop}{ty T:TypeId}
def HW (P:Program)(ops:Array Oper)(Q:Exit→Act→World→Prop)(B:Nat)(w0:World)(N:Nat)(G:List Hp)(E:Env)(rest:List Oper)(tail:List Oper×List Oper):Prop:=
 ∀a,EnvOK N E a→wpHead P ops (St B w0 G) (fun a'=>wpSoft P ops B w0 (NP Q) tail.2 tail.1 G a') rest a
def SW (P:Program)(ops:Array Oper)(Q:Exit→Act→World→Prop)(B:Nat)(w0:World)(N:Nat)(G:List Hp)(E:Env)(rest:List Oper)(tail:List Oper):Prop:=
 ∀a,EnvOK N E a→wpSoft P ops B w0 (NP Q) tail rest G a
theorem xw_np (h:XW Q B w0 N G E .normal):XW (NP Q) B w0 N G E .normal:=h
def picks (l:List Oper):List Nat→Option (List Oper)
 |[]=>some []
 |i::r=>match l[i]?,picks l r with
  |some o,some os=>some (o::os)
  |_,_=>none
theorem picks_eq (l:List Oper):∀is:List Nat,picks l is=is.mapM (fun i=>l[i]?)
 |[]=>by simp[picks]
 |i::r=>by
  simp only[picks,List.mapM_cons,picks_eq l r]
  cases l[i]?<;>simp
  cases r.mapM (fun i=>l[i]?)<;>simp
theorem cw_mix {id:Nat}{l:List Oper}(sf tl hd:List Nat){ss ts hs:List Oper}(hm:P.follows .mixedOrders=true)(hss:picks l sf=some ss)(hts:picks l tl=some ts)(hhs:picks l hd=some hs)(hlen:hd.length+(sf.length+tl.length)=l.length)
  (hB:(Region.noSelect l.toArray&&mixI .any l.toArray sf tl hd (Array.replicate l.length false))=true) (h:HW P l.toArray Q B w0 N G E hs (ss,ts)):CW P Q B w0 N G E (.region id l.toArray true):=fun a w ha hw=>by
 simp only[Bool.and_eq_true]at hB
 refine wp_mono (Q:=NP Q) ?_ (fun e a w hq=>by cases e<;>first|exact hq|exact hq.elim)
 refine wp_region_any hm ?_
 have h1:=wpM_of_mix (md:=.any) (Q:=NP Q) hB.1 (fun c a w hq=>hq) (by rw[picks_eq]at hss;simpa using hss) (by rw[picks_eq]at hts;simpa using hts) hd hs (Array.replicate l.length false) a (Closed.start _) (by rw[picks_eq]at hhs;simpa using hhs) hB.2 (h a ha)
 have h2:=wpAny_of_M (w:={w with drawn:=w.drawn+1}) _ _ _ _ hw.drewEq h1
 rw[hlen]at h2
 simpa using h2
theorem value_of' {r:Result Value}{w':World}{n:Next}(h:(r.andThen fun a w'=>Result.ok (Next.value a) w')=.ok n w'):∃u,n=.value u:=by
 cases r with
 |ok v w1=>simp at h;exact⟨v,h.1.symm⟩
 |halt x w1=>simp at h
theorem pure_value {ρ:Operand→Value}{o:Oper}(ho:readsMem o=false){w w':World}{n:Next}(h:(execOp ρ o).run P w=.ok n w'):∃u,n=.value u:=by
 obtain⟨d,op,ty,pos,af,g⟩:=o
 cases op<;>(try (simp[readsMem]at ho;done))
 case move x=>simp[execOp]at h;exact⟨_,h.1.symm⟩
 case assign x=>simp[execOp]at h;exact⟨_,h.1.symm⟩
 case pick c x y=>
  simp only[execOp]at h
  rw[Sem.run_bind]at h
  cases hs:(asBool (ρ c)).run P w with
  |ok v w1=>rw[hs]at h;simp at h;exact⟨_,h.1.symm⟩
  |halt x w1=>rw[hs]at h;simp at h
 case nilCheck x=>
  simp only[execOp]at h
  split at h
  ·cases hs:(runtimePanic .nilDeref:Sem Next).run P w with
   |ok v w1=>simp[runtimePanic,goPanic,program,Sem.run_bind,Sem.run]at hs
   |halt x w1=>rw[hs]at h;cases h
  ·cases hs:(runtimePanic .nilDeref:Sem Next).run P w with
   |ok v w1=>simp[runtimePanic,goPanic,program,Sem.run_bind,Sem.run]at hs
   |halt x w1=>rw[hs]at h;cases h
  ·cases hs:(runtimePanic .nilDeref:Sem Next).run P w with
   |ok v w1=>simp[runtimePanic,goPanic,program,Sem.run_bind,Sem.run]at hs
   |halt x w1=>rw[hs]at h;cases h
  ·split at h
   ·cases hs:(runtimePanic .nilDeref:Sem Next).run P w with
    |ok v w1=>simp[runtimePanic,goPanic,program,Sem.run_bind,Sem.run]at hs
    |halt x w1=>rw[hs]at h;cases h
   ·rw[Sem.run_bind]at h
    simp only[program,Sem.run,Result.andThen_ok,Sem.run_bind]at h
    revert h
    generalize Sem.run P (nilAhead _ _ _ _) w=r
    intro h
    cases r with
    |halt x w1=>simp at h
    |ok q w1=>
     simp only[Result.andThen_ok]at h
     split at h
     ·simp[unsupported,Sem.run]at h
     ·simp at h
      exact⟨_,h.1.symm⟩
   ·simp at h;exact⟨_,h.1.symm⟩
  ·simp at h;exact⟨_,h.1.symm⟩
 case call c=>
  obtain⟨callee,args,tys⟩:=c
  cases callee with
  |value f=>simp[readsMem]at ho
  |invoke r m=>simp[readsMem]at ho
  |builtin b=>
   cases b<;>(try (simp[readsMem]at ho;done))<;>
    (simp only[execOp,resolve,Sem.run_bind,Sem.run_pure,Result.andThen_ok,invoke,builtin]at h;exact value_of' h)
 all_goals exact value_of h
theorem hw_pure {d:Nat}{op:Op}{pos:String}{af:Array Edge}{g:Option (Nat×Bool)}{rest:List Oper}{tail:List Oper×List Oper}{v:Value}(hg:Env.guard E ops g=some true)(hd:Nat.blt d N=true)
  (hv : OpV P (fun _ => True) N E op ty v) (hc : readsMem ⟨none, op, ty, "", #[], none⟩ = false) (h : HW P ops Q B w0 N G ((d, v) :: E) rest tail) :
  HW P ops Q B w0 N G E (⟨some d,op,ty,pos,af,g⟩::rest) tail:=fun a ha=>by
 unfold wpHead
 rw[if_pos (ha.guard (o:=⟨some d,op,ty,pos,af,g⟩) hg)]
 have key : ∀ w, (execOp a.eval ⟨none, op, ty, "", #[], none⟩).run P w = .ok (.value v) w := fun w => by
  have h1:=hv a w ha trivial
  cases hr : (execOp a.eval ⟨none, op, ty, "", #[], none⟩).run P w with
  |halt x w'=>rw[hr]at h1;simp[Oper.quietUpon]at h1
  |ok n w'=>
   obtain⟨u,hu⟩:=pure_value hc hr
   subst hu
   rw[hr]at h1
   simp only[Oper.quietUpon]at h1
   rw[h1.1,h1.2]
 refine⟨v,⟨fun w' _=>?_,fun _ w=>key w⟩,h _ (ha.put (by simpa using hd) v)⟩
 have he : execOp a.eval ⟨some d, op, ty, pos, af, g⟩ = execOp a.eval ⟨none, op, ty, "", #[], none⟩ := rfl
 unfold Oper.quietAt
 rw[he,key w']
 exact⟨rfl,rfl⟩
theorem hw_read {d:Nat}{op:Op}{pos:String}{af:Array Edge}{g:Option (Nat×Bool)}{rest:List Oper}{tail:List Oper×List Oper}{v:Value}(hg:Env.guard E ops g=some true)(hd:Nat.blt d N=true)
  (hr:readsMem ⟨some d,op,ty,pos,af,g⟩=true) (hv:OpV P (St B w0 G) N E op ty v) (h:HW P ops Q B w0 N G ((d,v)::E) rest tail):
  HW P ops Q B w0 N G E (⟨some d,op,ty,pos,af,g⟩::rest) tail:=fun a ha=>by
 unfold wpHead
 rw[if_pos (ha.guard (o:=⟨some d,op,ty,pos,af,g⟩) hg)]
 exact⟨v,⟨fun w' hw'=>hv.quietAt ha w' hw',fun h0=>by rw[hr]at h0;cases h0⟩,h _ (ha.put (by simpa using hd) v)⟩
theorem hw_skip {d:Nat}{op:Op}{pos:String}{af:Array Edge}{g:Option (Nat×Bool)}{rest:List Oper}{tail:List Oper×List Oper}(hg:Env.guard E ops g=some false)(hd:Nat.blt d N=true)
  (h:HW P ops Q B w0 N G ((d,undef)::E) rest tail):HW P ops Q B w0 N G E (⟨some d,op,ty,pos,af,g⟩::rest) tail:=fun a ha=>by
 unfold wpHead
 rw[if_neg (by rw[ha.guard (o:=⟨some d,op,ty,pos,af,g⟩) hg];simp)]
 exact h _ (ha.put (by simpa using hd) undef)
theorem hw_nil {s t:List Oper}(h:SW P ops Q B w0 N G E s t):HW P ops Q B w0 N G E [] (s,t):=fun a ha=>h a ha
theorem sw_nil {tail:List Oper}(h:OW P ops (NP Q) B w0 N G E tail):SW P ops Q B w0 N G E [] tail:=fun a ha=>fun w' hw'=>h a w' ha hw'
theorem sw_new {d:Nat}{op:Op}{pos:String}{af:Array Edge}{g:Option (Nat×Bool)}{rest tail:List Oper}{vs:List Value}{e:TypeId}(mk:Nat→Value)(hg:Env.guard E ops g=some true)(hd:Nat.blt d N=true)
  (hrun:∀a w,EnvOK N E a→St B w0 G w→(execOp a.eval ⟨some d,op,ty,pos,af,g⟩).run P w=.ok (.value (mk w.heap.size)) (w.alloc (.cells vs.toArray e)))
  (h:∀b,SW P ops Q B w0 N ([(b,.cells vs.toArray e (0,0))]::G) ((d,mk b)::E) rest tail):SW P ops Q B w0 N G E (⟨some d,op,ty,pos,af,g⟩::rest) tail:=fun a ha=>by
 unfold wpSoft
 rw[if_pos (ha.guard (o:=⟨some d,op,ty,pos,af,g⟩) hg)]
 exact⟨_,mk,fun w hw=>hrun a w ha hw,fun b=>h b _ (ha.put (by simpa using hd) _)⟩
theorem sw_alloc {d:Nat}{pos:String}{af:Array Edge}{g:Option (Nat×Bool)}{rest tail:List Oper}{zs:List Value}(hg:Env.guard E ops g=some true)(hd:Nat.blt d N=true)(hz:Zero P T zs)
  (h:∀b,SW P ops Q B w0 N ([(b,.cells zs.toArray T (0,0))]::G) ((d,.pointer (some ⟨b,0,none⟩))::E) rest tail):SW P ops Q B w0 N G E (⟨some d,.alloc T,ty,pos,af,g⟩::rest) tail:=
 sw_new (fun b=>.pointer (some ⟨b,0,none⟩)) hg hd (fun a w _ _=>by
  obtain⟨z,h1,h2⟩:=hz.run w
  simp[execOp,Instr.alloc,h1,newVar,newRow,h2]) h
theorem hw_bool (t:Nat){rest:List Oper}{tail:List Oper×List Oper}{b:Bool}(ht:Env.look E t=some (.bool b))(hx:b=true→HW P ops Q B w0 N G ((t,.bool true)::E) rest tail)(hy:b=false→HW P ops Q B w0 N G ((t,.bool false)::E) rest tail):HW P ops Q B w0 N G E rest tail:=by
 intro a ha
 cases b
 ·exact hy rfl a (ha.dup ht)
 ·exact hx rfl a (ha.dup ht)
def Nx (K:Act→World→Prop)(Q:Exit→Act→World→Prop):Exit→Act→World→Prop
 |.normal,a,w=>K a w
 |e,a,w=>Q e a w
theorem wpOp_of_list {i:Nat}{o:Oper}{K:Act→World→Prop}{a:Act}{w:World}(hi:ops[i]?=some o)(h:wpList P ops (Nx K Q) [o] a w):wpOp P ops Q i K a w:=by
 unfold wpOp
 simp only[hi]
 unfold wpList at h
 split
 ·rename_i hw
  rw[if_pos hw]at h
  rcases h with h|⟨h1,h2⟩
  ·refine .inl ?_
   unfold Oper.wp at h⊢
   generalize (execOp a.eval o).run P w=r at *
   cases r with
   |ok n w'=>
    cases n<;>first|exact h|(simp only[Oper.upon]at h⊢;exact h)
   |halt x w'=>cases x<;>first|exact h|(simp only[Oper.upon]at h⊢;exact h)
  ·exact .inr ⟨h1,h2⟩
 ·rename_i hw
  rw[if_neg hw]at h
  exact h
def AW (P:Program)(md:Region.Mode)(ops:Array Oper)(Q:Exit→Act→World→Prop)(B:Nat)(w0:World)(N:Nat)(G:List Hp)(E:Env)(fuel:Nat)(listed:Array Bool):Prop:=
 ∀a w,EnvOK N E a→St B w0 G w→wpAny P md ops Q fuel listed a w
theorem cw_any {id:Nat}{l:List Oper}(hm:P.follows .mixedOrders=true)(h:AW P .any l.toArray (NP Q) B w0 N G E l.length (Array.replicate l.length false)):CW P Q B w0 N G E (.region id l.toArray true):=fun a w ha hw=>by
 refine wp_mono (Q:=NP Q) ?_ (fun e a w hq=>by cases e<;>first|exact hq|exact hq.elim)
 refine wp_region_any hm ?_
 have h2:=h a {w with drawn:=w.drawn+1} ha hw.drewEq
 simpa using h2
theorem aw_end {fuel:Nat}{listed:Array Bool}(hr:(Region.ready md ops listed).isEmpty=true)(h:XW Q B w0 N G E .normal):AW P md ops Q B w0 N G E fuel listed:=fun a w ha hw=>by
 have hr':Region.ready md ops listed=[]:=by simpa using hr
 cases fuel with
 |zero=>exact⟨hr',h a w ha hw⟩
 |succ fuel=>exact⟨fun _=>h a w ha hw,fun i hi=>by rw[hr']at hi;cases hi⟩
theorem aw_step1 (i:Nat){d:Option Tmp}{op:Op}{t:TypeId}{pos:String}{af:Array Edge}{g:Option (Nat×Bool)}{fuel:Nat}{listed:Array Bool}(hr:decide (Region.ready md ops listed=[i])=true)(hi:ops[i]?=some ⟨d,op,t,pos,af,g⟩)(h:OW P ops (Nx (wpAny P md ops Q fuel (listed.setIfInBounds i true)) Q) B w0 N G E [⟨d,op,t,pos,af,g⟩]):AW P md ops Q B w0 N G E (fuel+1) listed:=fun a w ha hw=>by
 have hr':Region.ready md ops listed=[i]:=by simpa using hr
 refine⟨fun h0=>(by rw[hr']at h0;cases h0),fun j hj=>?_⟩
 rw[hr']at hj
 have:j=i:=by simpa using hj
 subst this
 exact wpOp_of_list hi (h a w ha hw)
theorem aw_step2 (i k:Nat){d:Option Tmp}{op:Op}{t:TypeId}{pos:String}{af:Array Edge}{g:Option (Nat×Bool)}{d':Option Tmp}{op':Op}{t':TypeId}{pos':String}{af':Array Edge}{g':Option (Nat×Bool)}{fuel:Nat}{listed:Array Bool}(hr:decide (Region.ready md ops listed=[i,k])=true)(hi:ops[i]?=some ⟨d,op,t,pos,af,g⟩)(hk:ops[k]?=some ⟨d',op',t',pos',af',g'⟩)(h:OW P ops (Nx (wpAny P md ops Q fuel (listed.setIfInBounds i true)) Q) B w0 N G E [⟨d,op,t,pos,af,g⟩])(h':OW P ops (Nx (wpAny P md ops Q fuel (listed.setIfInBounds k true)) Q) B w0 N G E [⟨d',op',t',pos',af',g'⟩]):AW P md ops Q B w0 N G E (fuel+1) listed:=fun a w ha hw=>by
 have hr':Region.ready md ops listed=[i,k]:=by simpa using hr
 refine⟨fun h0=>(by rw[hr']at h0;cases h0),fun j hj=>?_⟩
 rw[hr']at hj
 have:j=i∨j=k:=by simpa using hj
 rcases this with rfl|rfl
 ·exact wpOp_of_list hi (h a w ha hw)
 ·exact wpOp_of_list hk (h' a w ha hw)
theorem xw_nx {fuel:Nat}{listed:Array Bool}(h:AW P md ops Q B w0 N G E fuel listed):XW (Nx (wpAny P md ops Q fuel listed) Q) B w0 N G E .normal:=h
theorem aw_pure (i:Nat){d:Nat}{op:Op}{pos:String}{af:Array Edge}{g:Option (Nat×Bool)}{v:Value}{fuel:Nat}{listed:Array Bool}{Q₀:Exit→Act→World→Prop}(hi:ops[i]?=some ⟨some d,op,ty,pos,af,g⟩)(hB:(Region.noSelect ops&&(Region.ready md ops listed).contains i&&Region.free md ops listed i)=true)
  (hg : Env.guard E ops g = some true) (hd : Nat.blt d N = true) (hv : OpV P (fun _ => True) N E op ty v) (hc : readsMem ⟨none, op, ty, "", #[], none⟩ = false) (h : AW P md ops (NP Q₀) B w0 N G ((d, v) :: E) fuel (listed.setIfInBounds i true)) :
  AW P md ops (NP Q₀) B w0 N G E (fuel+1) listed:=fun a w ha hw=>by
 simp only[Bool.and_eq_true]at hB
 have key : ∀ w, (execOp a.eval ⟨none, op, ty, "", #[], none⟩).run P w = .ok (.value v) w := fun w => by
  have h1:=hv a w ha trivial
  cases hr : (execOp a.eval ⟨none, op, ty, "", #[], none⟩).run P w with
  |halt x w'=>rw[hr]at h1;simp[Oper.quietUpon]at h1
  |ok n w'=>
   obtain⟨u,hu⟩:=pure_value hc hr
   subst hu
   rw[hr]at h1
   simp only[Oper.quietUpon]at h1
   rw[h1.1,h1.2]
 have he : execOp a.eval ⟨some d, op, ty, pos, af, g⟩ = execOp a.eval ⟨none, op, ty, "", #[], none⟩ := rfl
 refine wpAny_first hi (Region.noSelect_spec hB.1.1) (fun c a w hq=>hq) fuel listed a w (Region.free_spec hi hB.2) (by simpa using hB.1.2) (.inl ⟨ha.guard (o:=⟨some d,op,ty,pos,af,g⟩) hg,fun w=>by rw[he];exact key w⟩) ?_
 exact h _ w (ha.put (by simpa using hd) v) hw
end Go.Sl
namespace Go.Sl
open Go.RowKit Go
structure OldSl (B:Nat)(w0:World)(size:Nat)(ao:Option Addr)(len:Nat)(el:Nat→List Value):Prop where
 get:∀i,i<len→∃b o,ao=some ⟨b,o,none⟩∧b<B∧∀j v,(el i)[j]?=some v→w0.cell? ⟨b,o+i*size+j,none⟩=some v
section
variable {H:Type}{enc:TypeId×Value→H}{P:Program}{w:World}{t e:TypeId}{fuel:Nat}
theorem cells?_get {a:Addr}{n:Nat}{cs:List Value}(h:w.cells? 0 a n=some cs):cs.length=n∧∀j v,cs[j]?=some v→w.cell? (a.add j)=some v:=by
 unfold World.cells? at h
 rw[if_pos (Nat.zero_le _)]at h
 have key:∀(l:List Nat) (cs:List Value),l.mapM (fun i=>w.cell? (a.add i))=some cs→cs.length=l.length∧∀(j:Nat) (v:Value),cs[j]?=some v→∃i:Nat,l[j]?=some i∧w.cell? (a.add i)=some v:=by
  intro l
  induction l with
  |nil=>intro cs h;simp at h;subst h;simp
  |cons x l ih=>
   intro cs h
   rw[List.mapM_cons]at h
   cases h1:w.cell? (a.add x)with
   |none=>rw[h1]at h;simp at h
   |some u=>
    cases h2:l.mapM (fun i=>w.cell? (a.add i))with
    |none=>rw[h1,h2]at h;simp at h
    |some us=>
     rw[h1,h2]at h
     simp at h
     subst h
     obtain⟨h3,h4⟩:=ih us h2
     refine⟨by simp[h3],fun j v hj=>?_⟩
     cases j with
     |zero=>simp at hj;subst hj;exact⟨x,rfl,h1⟩
     |succ j=>simp at hj;obtain⟨i,hi,hc⟩:=h4 j v hj;exact⟨i,by simpa using hi,hc⟩
 obtain⟨h1,h2⟩:=key _ _ h
 refine⟨by simpa using h1,fun j v hj=>?_⟩
 obtain⟨i,hi,hc⟩:=h2 j v hj
 have:i=j:=by
  rw[List.getElem?_range]at hi
  ·simpa using hi.symm
  ·have:=(List.getElem?_eq_some_iff.1 hi).1
   simpa using this
 subst this
 exact hc
theorem mapM_get {α β:Type}{f:α→Option β}:∀{l:List α} {ys:List β},l.mapM f=some ys→∀(i:Nat) (x:α),l[i]?=some x→∃y,f x=some y
 |[],_,_,i,x,h=>by simp at h
 |a::l,ys,hm,i,x,h=>by
  rw[List.mapM_cons]at hm
  cases h1:f a with
  |none=>rw[h1]at hm;simp at hm
  |some b=>
   cases h2:l.mapM f with
   |none=>rw[h1,h2]at hm;simp at hm
   |some bs=>
    cases i with
    |zero=>simp at h;subst h;exact⟨b,h1⟩
    |succ i=>simp at h;exact mapM_get h2 i x h
theorem trod_slice {ao:Option Addr}{len cap:Nat}{x:DataW H×List MemPlace}(ht:P.underlying t=some (.slice e))(hc:0<P.cellsOf e)
  (h:DataW.trod enc P w 0 (fun _=>true) true fuel t [.slice ao len cap]=some x):
  len≤cap∧cap≤maxLen∧∀i,i<len→∃b o cs y fuel',ao=some ⟨b,o,none⟩∧b<w.heap.size∧cs.length=P.cellsOf e∧(∀j v,cs[j]?=some v→w.cell? ⟨b,o+i*P.cellsOf e+j,none⟩=some v)∧
   DataW.trod enc P w 0 (fun _=>true) true fuel' e cs=some y:=by
 cases fuel with
 |zero=>simp[DataW.trod]at h
 |succ fuel=>
  cases ao with
  |none=>
   cases len with
   |zero=>
    cases cap with
    |zero=>exact⟨Nat.le_refl _,Nat.zero_le _,fun i hi=>by omega⟩
    |succ c=>simp[DataW.trod,ht]at h
   |succ n=>simp[DataW.trod,ht]at h
  |some a=>
   simp only[DataW.trod,ht]at h
   split at h
   ·rename_i hb
    refine⟨hb.2.1,hb.2.2,fun i hi=>?_⟩
    rw[Option.bind_eq_some_iff]at h
    obtain⟨elems,hel,_⟩:=h
    obtain⟨y,hy⟩:=mapM_get hel i i (by rw[List.getElem?_range hi])
    rw[Option.bind_eq_some_iff]at hy
    obtain⟨cs,hcs,htr⟩:=hy
    obtain⟨h1,h2⟩:=cells?_get hcs
    have h0:∃v,cs[0]?=some v:=⟨cs[0]'(by omega),by simp⟩
    obtain⟨v0,hv0⟩:=h0
    have hc0:=h2 0 v0 hv0
    obtain⟨b,o,spot⟩:=a
    have hadd:∀n,((⟨b,o,spot⟩:Addr).add (i*P.cellsOf e)).add n=(⟨b,o,spot⟩:Addr).add (i*P.cellsOf e+n):=by
     intro n
     unfold Addr.add
     by_cases hz:i*P.cellsOf e=0
     ·simp[hz]
     ·have:¬i*P.cellsOf e+n=0:=by omega
      simp only[hz,if_false,this]
      split
      ·rename_i hn;subst hn;rfl
      ·simp
    have hspot:spot=none:=by
     have:=mapM_get hel 0 0 (by rw[List.getElem?_range (by omega)])
     obtain⟨y0,hy0⟩:=this
     rw[Option.bind_eq_some_iff]at hy0
     obtain⟨cs0,hcs0,_⟩:=hy0
     obtain⟨g1,g2⟩:=cells?_get hcs0
     have:=g2 0 (cs0[0]'(by omega)) (by simp)
     have:=World.cell?_spot this
     simpa [Addr.add] using this
    subst hspot
    refine⟨b,o,cs,y,fuel,rfl,?_,h1,fun j v hj=>?_,htr⟩
    ·have:=World.block_lt_of_cell? w _ hc0
     rw[add_mk,add_mk]at this
     exact this
    ·have:=h2 j v hj
     rw[hadd,add_mk]at this
     rw[Nat.add_assoc]
     exact this
   ·simp at h
theorem oldSl {α:Type}{ao:Option Addr}{len cap size:Nat}{x:DataW H×List MemPlace}(ht:P.underlying t=some (.slice e))(hsz:P.cellsOf e=size)(hc:0<size)
  (h:DataW.trod enc P w 0 (fun _=>true) true fuel t [.slice ao len cap]=some x) (f:α→List Value) (Q:α→Prop) [Inhabited α]
  (hel:∀fuel cs y,DataW.trod enc P w 0 (fun _=>true) true fuel e cs=some y→∃A,cs=f A∧Q A):
  len≤cap∧cap≤maxLen∧∃F:Nat→α,(∀i,i<len→Q (F i))∧OldSl w.heap.size w size ao len (fun i=>f (F i)):=by
 subst hsz
 obtain⟨h1,h2,h3⟩:=trod_slice ht hc h
 have h4:∀i,∃A:α,i<len→Q A∧∃b o,ao=some ⟨b,o,none⟩∧b<w.heap.size∧∀j v,(f A)[j]?=some v→w.cell? ⟨b,o+i*P.cellsOf e+j,none⟩=some v:=by
  intro i
  by_cases hi:i<len
  ·obtain⟨b,o,cs,y,fuel',e1,e2,_,e4,e5⟩:=h3 i hi
   obtain⟨A,rfl,hQ⟩:=hel fuel' cs y e5
   exact⟨A,fun _=>⟨hQ,b,o,e1,e2,e4⟩⟩
  ·exact⟨default,fun hi'=>absurd hi' hi⟩
 refine⟨h1,h2,fun i=>(h4 i).choose,fun i hi=>((h4 i).choose_spec hi).1,⟨fun i hi=>((h4 i).choose_spec hi).2⟩⟩
theorem form_int {k:IntKind}{cs:List Value}{y:DataW H×List MemPlace}(ht:P.underlying t=some (.int k))(h:DataW.trod enc P w 0 (fun _=>true) true fuel t cs=some y):∃n:Int,cs=[.int k n]∧(Lit.int k n).wf=true:=by
 obtain⟨n,h1,_,h2⟩:=DataW.trod_int ht h
 exact⟨n,h1,h2⟩
theorem form_bool {cs:List Value}{y:DataW H×List MemPlace}(ht:P.underlying t=some .bool)(h:DataW.trod enc P w 0 (fun _=>true) true fuel t cs=some y):∃b:Bool,cs=[.bool b]:=by
 obtain⟨n,h1,_⟩:=DataW.trod_bool ht h
 exact⟨n,h1⟩
theorem form_struct {fs:Array Field}{cs:List Value}{y:DataW H×List MemPlace}(ht:P.underlying t=some (.struct fs))(h:DataW.trod enc P w 0 (fun _=>true) true fuel t cs=some y):
  cs.length=P.cellsOf t∧∃fuel':Nat,∀(i:Nat) (f:Field),fs[i]?=some f→∃z,DataW.trod enc P w 0 (fun _=>true) true fuel' f.type ((cs.drop f.offset).take (P.cellsOf f.type))=some z:=by
 cases fuel with
 |zero=>simp[DataW.trod]at h
 |succ fuel=>
  have h':(if cs.length=P.cellsOf t then (fs.toList.mapM fun f=>DataW.trod enc P w 0 (fun _=>true) true fuel f.type ((cs.drop f.offset).take (P.cellsOf f.type))).map fun xs=>((.agg (xs.map (·.1)):DataW H),xs.flatMap (·.2)) else none)=some y:=by
   rw[←h]
   cases cs<;>simp only[DataW.trod,ht]
  split at h'
  ·rename_i hl
   rw[Option.map_eq_some_iff]at h'
   obtain⟨xs,hx,_⟩:=h'
   exact⟨hl,fuel,fun i f hf=>mapM_get hx i f (by simpa using hf)⟩
  ·simp at h'
theorem drop_take_drop (cs:List Value)(a n:Nat):cs.drop a=(cs.drop a).take n++cs.drop (a+n):=by
 rw[←List.drop_drop,List.take_append_drop]
theorem trodAll_stays {W W':World}(hl:laidOutB P=true)(hb:Below W.heap.size W W'):∀{ts:List TypeId} {vs:List Value} {ds:List (DataW H)} {ps:List MemPlace},(∀t∈ts,P.readableRec t=true∧t<P.types.size)→
  DataW.TrodAll enc P W 0 (fun _=>true) true ts vs ds ps→DataW.TrodAll enc P W' 0 (fun b=>decide (b<W.heap.size)) true ts vs ds ps
 |[],[],[],ps,_,h=>h
 |t::ts,v::vs,d::ds,ps,ht,h=>by
  obtain⟨p,q,h1,h2,h3⟩:=h
  refine⟨p,q,?_,trodAll_stays hl hb (fun t ht'=>ht t (List.mem_cons_of_mem _ ht')) h2,h3⟩
  refine Below.trod hl (ht t (List.mem_cons_self)).1 (ht t (List.mem_cons_self)).2 h1 hb ?_
  obtain⟨fuel,hf⟩:=h1
  exact DataW.trod_lt fuel _ _ _ hf
 |[],_::_,_,_,_,h=>by simp[DataW.TrodAll]at h
 |[],[],_::_,_,_,h=>by simp[DataW.TrodAll]at h
 |_::_,[],_,_,_,h=>by simp[DataW.TrodAll]at h
 |_::_,_::_,[],_,_,h=>by simp[DataW.TrodAll]at h
theorem trodAll_len:∀{ts:List TypeId} {vs:List Value} {ds:List (DataW H)} {ps:List MemPlace},DataW.TrodAll enc P w 0 (fun _=>true) true ts vs ds ps→vs.length=ts.length∧ds.length=ts.length
 |[],[],[],_,_=>⟨rfl,rfl⟩
 |t::ts,v::vs,d::ds,ps,h=>by
  obtain⟨p,q,_,h2,_⟩:=h
  have:=trodAll_len h2
  simp[this.1,this.2]
 |[],_::_,_,_,h=>by simp[DataW.TrodAll]at h
 |[],[],_::_,_,h=>by simp[DataW.TrodAll]at h
 |_::_,[],_,_,h=>by simp[DataW.TrodAll]at h
 |_::_,_::_,[],_,h=>by simp[DataW.TrodAll]at h
theorem Fn.call {f:FuncId}{args:Array Value}{W:World}(h:Fn P f args W.heap.size W [] fun v G'=>∃C',R0 (.bool true) v C'∧Cov (C'++[]) G'):Calls P f args W fun e w'=>e=.returned (.bool true)∧Below W.heap.size W w':=
 (h.calls W (St.start (Nat.le_refl _))).mono fun _ _ ⟨_,_,he,⟨_,⟨hv,_⟩,_⟩,hS⟩=>⟨by rw[he,hv],hS.below⟩
end
end Go.Sl
namespace Go.Sl
open Go.RowKit Go
variable {P:Program}{ops:Array Oper}{Q:Exit→Act→World→Prop}{B:Nat}{w0:World}{N:Nat}{G:List Hp}{E:Env}{S:World→Prop}{ty T U:TypeId}
theorem Var.sub1 {c:Hp}{b off:Nat}{o:Obj}{v:Value}(hT:Scalar P T)(hs:Sub c G)(hm:(b,o)∈c)(hg:GetN o off [v]):Var P (St B w0 G) T ⟨b,off,none⟩ v:=by
 obtain⟨cs,e,fr,rfl,h⟩:=hg
 exact Var.one hT (Cell.sub hs hm (h 0 v rfl))
theorem Var.subN {c:Hp}{b off n:Nat}{o:Obj}{vs:List Value}(hT:Agg P T n)(hs:Sub c G)(hm:(b,o)∈c)(hg:GetN o off vs)(hn:vs.length=n):Var P (St B w0 G) T ⟨b,off,none⟩ (.agg vs.toArray):=by
 subst hn
 obtain⟨cs,e,fr,rfl,h⟩:=hg
 exact Var.many hT fun i v hv=>by rw[add_mk];exact Cell.sub hs hm (h i v hv)
theorem GetN.lit {l:List Value}{e:TypeId}{fr:Nat×Nat}{off:Nat}{v:Value}(h:l[off]?=some v):GetN (.cells l.toArray e fr) off [v]:=GetN.one (by simpa using h)
structure Enc (α:Type) where
 f:α→List Value
 size:Nat
 val:α→Value
 ok:α→Prop
structure EncTy {α:Type}(P:Program)(e:TypeId)(En:Enc α):Prop where
 pos:0<En.size
 len:∀a,En.ok a→(En.f a).length=En.size
 one:∀a,En.ok a→∀u∈En.f a,u.oneCell'=true
 size:(P.info? e).map (·.size)=some En.size
 cells:∀a,En.ok a→(En.val a).cells.toList=En.f a
 var:∀(S:World→Prop) (p:Addr) a,En.ok a→(∀i v,(En.f a)[i]?=some v→Cell S (p.add i) v)→Var P S e p (En.val a)
theorem EncTy.scalar {α:Type}{En:Enc α}{e:TypeId}(hT:Scalar P e)(h1:En.size=1)(hf:∀a,En.f a=[En.val a])(ho:∀a,(En.val a).oneCell'=true):EncTy P e En:=
 ⟨by omega,fun a _=>by rw[hf a,h1];rfl,fun a _ u hu=>by rw[hf a]at hu;simp at hu;subst hu;exact ho a,by rw[h1];exact hT.size,
  fun a _=>by
   have:=ho a
   rw[hf a]
   cases hv:En.val a<;>first|rfl|(rw[hv]at this;simp[Value.oneCell']at this),
  fun S p a _ h=>Var.one hT (by
   have:=h 0 (En.val a) (by rw[hf a];rfl)
   simpa [Addr.add] using this)⟩
theorem EncTy.agg {α:Type}{En:Enc α}{e:TypeId}(hT:Agg P e En.size)(hpos:0<En.size)(hv:∀a,En.val a=.agg (En.f a).toArray)(hl:∀a,En.ok a→(En.f a).length=En.size)(ho:∀a,En.ok a→∀u∈En.f a,u.oneCell'=true):EncTy P e En:=
 ⟨hpos,hl,ho,hT.size,fun a _=>by rw[hv a];simp[Value.cells],fun S p a ha h=>by
  rw[hv a]
  exact Var.many (by rw[hl a ha];exact hT) h⟩
theorem fm_len {α β:Type}{f:α→List β}{k:Nat}:∀{l:List α},(∀a∈l,(f a).length=k)→(l.flatMap f).length=l.length*k
 |[],_=>by simp
 |a::l,h=>by
  have:=fm_len (l:=l) fun x hx=>h x (List.mem_cons_of_mem _ hx)
  simp only[List.flatMap_cons,List.length_append,h a (List.mem_cons_self),this,List.length_cons,Nat.succ_mul]
  omega
theorem fm_drop {α β:Type}{f:α→List β}{k:Nat}:∀{l:List α} (i:Nat),(∀a∈l,(f a).length=k)→(l.flatMap f).drop (i*k)=(l.drop i).flatMap f
 |[],i,_=>by simp
 |a::l,0,_=>by simp
 |a::l,i+1,h=>by
  have h1:=fm_drop (l:=l) i fun x hx=>h x (List.mem_cons_of_mem _ hx)
  have h2:=h a (List.mem_cons_self)
  simp only[List.flatMap_cons,List.drop_succ_cons,Nat.succ_mul]
  rw[←h1,List.drop_append,List.drop_eq_nil_of_le (by omega),List.nil_append,h2]
  congr 1
  omega
theorem fm_take {α β:Type}{f:α→List β}{k:Nat}:∀{l:List α} (i:Nat),(∀a∈l,(f a).length=k)→(l.flatMap f).take (i*k)=(l.take i).flatMap f
 |[],i,_=>by simp
 |a::l,0,_=>by simp
 |a::l,i+1,h=>by
  have h1:=fm_take (l:=l) i fun x hx=>h x (List.mem_cons_of_mem _ hx)
  have h2:=h a (List.mem_cons_self)
  simp only[List.flatMap_cons,List.take_succ_cons,Nat.succ_mul]
  rw[←h1,List.take_append,List.take_of_length_le (by omega),h2]
  congr 2
  omega
theorem fm_get {α β:Type}{f:α→List β}{k:Nat}:∀{l:List α} {i:Nat} {a:α} {j:Nat} {v:β},(∀a∈l,(f a).length=k)→l[i]?=some a→(f a)[j]?=some v→(l.flatMap f)[i*k+j]?=some v:=by
 intro l i a j v h hi hj
 have h1:=fm_drop (f:=f) i h
 have h2:(l.flatMap f)[i*k+j]?=((l.flatMap f).drop (i*k))[j]?:=by rw[List.getElem?_drop]
 rw[h2,h1]
 have h3:l.drop i=a::l.drop (i+1):=by
  obtain⟨hlt,he⟩:=List.getElem?_eq_some_iff.1 hi
  rw[←he]
  exact(List.getElem_cons_drop hlt).symm
 rw[h3,List.flatMap_cons,List.getElem?_append_left (List.getElem?_eq_some_iff.1 hj).1]
 exact hj
def bOf:Option Addr→Nat
 |some a=>a.block
 |none=>0
def oOf:Option Addr→Nat
 |some a=>a.off
 |none=>0
@[simp] theorem bOf_some (b o:Nat):bOf (some ⟨b,o,none⟩)=b:=rfl
@[simp] theorem oOf_some (b o:Nat):oOf (some ⟨b,o,none⟩)=o:=rfl
structure Vw {α:Type}(En:Enc α)(S:World→Prop)(v:Value)(l:List α):Prop where
 view:∃ao cap,v=.slice ao l.length cap∧l.length≤cap
 ok:∀a∈l,En.ok a
 get:∀ao n cap,v=.slice ao n cap→0<l.length→ao=some ⟨bOf ao,oOf ao,none⟩∧∀i u,(l.flatMap En.f)[i]?=some u→Cell S ⟨bOf ao,oOf ao+i,none⟩ u
theorem Vw.mono {α:Type}{En:Enc α}{S S':World→Prop}{v:Value}{l:List α}(h:Vw En S v l)(hS:∀w,S' w→S w):Vw En S' v l:=
 ⟨h.view,h.ok,fun ao n cap e hl=>by
  obtain⟨h1,h2⟩:=h.get ao n cap e hl
  exact⟨h1,fun i u hu w hw=>h2 i u hu w (hS w hw)⟩⟩
theorem Vw.cov {α:Type}{En:Enc α}{G':List Hp}{v:Value}{l:List α}(h:Vw En (St B w0 G) v l)(hc:Cov G G'):Vw En (St B w0 G') v l:=h.mono fun _ hw=>hw.cov hc
theorem Vw.there {α:Type}{En:Enc α}{c:Hp}{v:Value}{l:List α}(h:Vw En (St B w0 G) v l):Vw En (St B w0 (c::G)) v l:=h.mono fun _ hw=>hw.weak (List.sublist_cons_self _ _)
theorem Vw.len {α:Type}{En:Enc α}{ao:Option Addr}{n cap:Nat}{l:List α}(h:Vw En S (.slice ao n cap) l):n=l.length:=by
 obtain⟨_,_,h1,_⟩:=h.view
 injection h1
theorem Vw.var {α:Type}{En:Enc α}{e:TypeId}{ao:Option Addr}{n cap i:Nat}{l:List α}(he:EncTy P e En)(h:Vw En S (.slice ao n cap) l)(hi:i<l.length):
  Var P S e ⟨bOf ao,oOf ao+i*En.size,none⟩ (En.val l[i]):=by
 obtain⟨_,h2⟩:=h.get ao n cap rfl (by omega)
 refine he.var S _ _ (h.ok _ (List.getElem_mem hi)) fun j v hj=>?_
 rw[add_mk,Nat.add_assoc]
 exact h2 _ _ (fm_get (fun a ha=>he.len a (h.ok a ha)) (List.getElem?_eq_getElem hi) hj)
theorem Vw.fld1 {α:Type}{En:Enc α}{e:TypeId}{ao:Option Addr}{n cap i k:Nat}{l:List α}{v:Value}(he:EncTy P e En)(hT:Scalar P T)(h:Vw En S (.slice ao n cap) l)(hi:i<l.length)(hk:(En.f l[i])[k]?=some v):
  Var P S T ⟨bOf ao,oOf ao+i*En.size+k,none⟩ v:=by
 obtain⟨_,h2⟩:=h.get ao n cap rfl (by omega)
 refine Var.one hT ?_
 rw[Nat.add_assoc]
 exact h2 _ _ (fm_get (fun a ha=>he.len a (h.ok a ha)) (List.getElem?_eq_getElem hi) hk)
theorem v_indexAddr_vw {α:Type}{En:Enc α}{S':World→Prop}{x y:Operand}{k:IntKind}{m:Int}{i len cap e:Nat}{ao:Option Addr}{l:List α}(hT:P.underlying T=some (.slice e))(he:EncTy P e En)(hx:Env.ev E x=some (.slice ao len cap))(hy:Env.ev E y=some (.int k m))
  (hv:Vw En S' (.slice ao len cap) l) (hm:m=(i:Int)) (hi:i<l.length):OpV P S N E (.indexAddr T x y) ty (.pointer (some ⟨bOf ao,oOf ao+i*En.size,none⟩)):=by
 obtain⟨h1,_⟩:=hv.get ao len cap rfl (by omega)
 have hl:=hv.len
 exact v_indexAddr hT he.size hx h1 hy hm (by omega)
theorem IsSl.drop' {e:TypeId}{size:Nat}{ao:Option Addr}{n cap l:Nat}{c:Hp}{xs:List Value}(h:IsSl e size (.slice ao n cap) c n xs)(hl:l≤n):
  IsSl e size (.slice (cutA ao cap l size) (n-l) (cap-l)) c (n-l) (xs.drop (l*size)):=by
 by_cases h0:l=0
 ·subst h0
  rw[cutA_zero]
  simpa using h
 ·exact h.drop hl (by omega)
theorem IsSl.take' {e:TypeId}{size:Nat}{ao:Option Addr}{n cap m:Nat}{c:Hp}{xs:List Value}(h:IsSl e size (.slice ao n cap) c n xs)(hm:m≤n):
  IsSl e size (.slice ao m cap) c m (xs.take (m*size)):=by
 cases h with
 |nil=>
  obtain rfl:m=0:=by omega
  simpa using IsSl.nil
 |@row b n cap pre xs spare post hx hs hn=>
  have h1:m*size≤xs.length:=by rw[hx];exact Nat.mul_le_mul_right _ hm
  have h2:pre++(xs++(spare++post))=pre++(xs.take (m*size)++((xs.drop (m*size)++spare)++post)):=by
   rw[List.append_assoc (xs.drop (m*size)),←List.append_assoc (xs.take (m*size)),List.take_append_drop]
  rw[h2]
  refine IsSl.row (by simp;omega) ?_ (by omega)
  simp only[List.length_append,List.length_drop,hx,hs,←Nat.sub_mul,←Nat.add_mul]
  congr 1
  omega
theorem IsSl.view {e:TypeId}{size:Nat}{v:Value}{c:Hp}{n:Nat}{xs:List Value}(h:IsSl e size v c n xs):∃ao cap,v=.slice ao n cap∧n≤cap:=by
 cases h with
 |nil=>exact⟨_,_,rfl,Nat.le_refl _⟩
 |row hx hs hn=>exact⟨_,_,rfl,hn⟩
theorem IsSl.grow {e:TypeId}{size:Nat}{ao:Option Addr}{n cap k:Nat}{c:Hp}{xs:List Value}(h:IsSl e size (.slice ao n cap) c n xs)(h1:n≤k)(h2:k≤cap):
  ∃ys,ys.length=(k-n)*size∧IsSl e size (.slice ao k cap) c k (xs++ys):=by
 cases h with
 |nil=>
  obtain rfl:k=0:=by omega
  exact⟨[],by simp,IsSl.nil⟩
 |@row b n cap pre xs spare post hx hs hn=>
  have h3:(k-n)*size≤spare.length:=by rw[hs];exact Nat.mul_le_mul_right _ (by omega)
  refine⟨spare.take ((k-n)*size),by simp;omega,?_⟩
  have h4:pre++(xs++(spare++post))=pre++((xs++spare.take ((k-n)*size))++(spare.drop ((k-n)*size)++post)):=by
   rw[List.append_assoc,←List.append_assoc (spare.take _),List.take_append_drop]
  rw[h4]
  refine IsSl.row ?_ ?_ h2
  ·simp only[List.length_append,List.length_take,Nat.min_eq_left h3,hx,←Nat.add_mul]
   congr 1
   omega
  ·simp only[List.length_drop,hs,←Nat.sub_mul]
   congr 1
   omega
theorem IsSl.reads {e:TypeId}{size:Nat}{ao:Option Addr}{n cap:Nat}{c:Hp}{xs:List Value}(h:IsSl e size (.slice ao n cap) c n xs)(h0:0<n):
  ao=some ⟨bOf ao,oOf ao,none⟩∧∃cs,(bOf ao,.cells cs e (0,0))∈c∧∀i u,xs[i]?=some u→cs[oOf ao+i]?=some u:=by
 cases h with
 |nil=>omega
 |@row b n cap pre xs spare post hx hs hn=>
  refine⟨rfl,_,by simp[bOf];rfl,fun i u hu=>?_⟩
  have hlt:i<xs.length:=(List.getElem?_eq_some_iff.1 hu).1
  simp only[oOf,List.getElem?_toArray]
  rw[List.getElem?_append_right (by omega),Nat.add_sub_cancel_left,List.getElem?_append_left hlt]
  exact hu
structure Ls {α:Type}(En:Enc α)(e:TypeId)(v:Value)(c:Hp)(l:List α):Prop where
 sl:IsSl e En.size v c l.length (l.flatMap En.f)
 ok:∀a∈l,En.ok a
section
variable {α:Type}{En:Enc α}{e:TypeId}{v:Value}{c:Hp}{l:List α}
theorem Ls.nil:Ls En e (.slice none 0 0) [] []:=⟨IsSl.nil,by simp⟩
theorem Ls.view (h:Ls En e v c l):∃ao cap,v=.slice ao l.length cap∧l.length≤cap:=h.sl.view
theorem Ls.len {ao:Option Addr}{n cap:Nat}(h:Ls En e (.slice ao n cap) c l):n=l.length:=by
 obtain⟨_,_,h1,_⟩:=h.view
 injection h1
theorem Ls.vw (h:Ls En e v c l)(hs:Sub c G):Vw En (St B w0 G) v l:=
 ⟨h.view,h.ok,fun ao n cap hv hl=>by
  subst hv
  have hn:=h.len
  subst hn
  obtain⟨h1,cs,h2,h3⟩:=h.sl.reads hl
  exact⟨h1,fun i u hu=>Cell.sub hs h2 (h3 i u hu)⟩⟩
theorem Ls.take {ao:Option Addr}{n cap m:Nat}(he:EncTy P e En)(h:Ls En e (.slice ao n cap) c l)(hm:m≤l.length):Ls En e (.slice ao m cap) c (l.take m):=by
 have hn:=h.len
 subst hn
 have h1:=h.sl.take' hm
 rw[fm_take m (fun a ha=>he.len a (h.ok a ha))]at h1
 exact⟨by rw[List.length_take,Nat.min_eq_left hm];exact h1,fun a ha=>h.ok a (List.mem_of_mem_take ha)⟩
theorem Ls.drop {ao:Option Addr}{n cap m:Nat}(he:EncTy P e En)(h:Ls En e (.slice ao n cap) c l)(hm:m≤l.length):Ls En e (.slice (cutA ao cap m En.size) (n-m) (cap-m)) c (l.drop m):=by
 have hn:=h.len
 subst hn
 have h1:=h.sl.drop' hm
 rw[fm_drop m (fun a ha=>he.len a (h.ok a ha))]at h1
 exact⟨by rw[List.length_drop];exact h1,fun a ha=>h.ok a (List.mem_of_mem_drop ha)⟩
end
theorem Vw.sub1 {α:Type}{En:Enc α}{e:TypeId}{ao:Option Addr}{n cap m:Nat}{l:List α}(he:EncTy P e En)(h:Vw En S (.slice ao n cap) l)(hm:m≤l.length):Vw En S (.slice ao m cap) (l.take m):=by
 have hn:=h.len
 subst hn
 obtain⟨_,_,hv,hc⟩:=h.view
 injection hv with h1 h2 h3
 subst h1
 subst h3
 refine⟨⟨_,_,by rw[List.length_take,Nat.min_eq_left hm],by simp;omega⟩,fun a ha=>h.ok a (List.mem_of_mem_take ha),fun ao' n' cap' hv' hl=>?_⟩
 injection hv' with g1 g2 g3
 subst g1
 subst g3
 have hl':0<l.length:=by simp at hl;omega
 obtain⟨k1,k2⟩:=h.get _ _ _ rfl hl'
 refine⟨k1,fun i u hu=>k2 i u ?_⟩
 rw[←fm_take m (fun a ha=>he.len a (h.ok a ha))]at hu
 rw[List.getElem?_take]at hu
 split at hu
 ·exact hu
 ·simp at hu
theorem Vw.sub2 {α:Type}{En:Enc α}{e:TypeId}{ao:Option Addr}{n cap m:Nat}{l:List α}(he:EncTy P e En)(h:Vw En S (.slice ao n cap) l)(hm:m≤l.length):Vw En S (.slice (cutA ao cap m En.size) (n-m) (cap-m)) (l.drop m):=by
 have hn:=h.len
 subst hn
 obtain⟨_,_,hv,hc⟩:=h.view
 injection hv with h1 h2 h3
 subst h1
 subst h3
 refine⟨⟨_,_,by rw[List.length_drop],by simp;omega⟩,fun a ha=>h.ok a (List.mem_of_mem_drop ha),fun ao' n' cap' hv' hl=>?_⟩
 injection hv' with g1 g2 g3
 subst g1
 subst g3
 have hl':m<l.length:=by simp at hl;omega
 obtain⟨k1,k2⟩:=h.get _ _ _ rfl (by omega)
 rw[k1,cutA_some (by omega)]
 refine⟨rfl,fun i u hu=>?_⟩
 simp only[bOf_some,oOf_some]
 rw[Nat.add_assoc]
 refine k2 _ u ?_
 rw[←fm_drop m (fun a ha=>he.len a (h.ok a ha)),List.getElem?_drop]at hu
 exact hu
theorem Vw.reads {α:Type}{En:Enc α}{e:TypeId}{ao:Option Addr}{n cap:Nat}{l:List α}(he:EncTy P e En)(h:Vw En S (.slice ao n cap) l){m:Nat}(hm:m≤l.length):Reads P S En.size (.slice ao n cap) m ((l.take m).flatMap En.f):=by
 by_cases h0:m=0
 ·subst h0
  simpa using Reads.none
 ·obtain⟨k1,k2⟩:=h.get _ _ _ rfl (by omega)
  rw[k1]
  refine Reads.slice ?_ fun i v hv=>?_
  ·rw[fm_len (k:=En.size) (fun a ha=>he.len a (h.ok a (List.mem_of_mem_take ha))),List.length_take,Nat.min_eq_left hm]
  ·rw[add_mk]
   refine k2 i v ?_
   rw[←fm_take m (fun a ha=>he.len a (h.ok a ha)),List.getElem?_take]at hv
   split at hv
   ·exact hv
   ·simp at hv
theorem Vw.reads_all {α:Type}{En:Enc α}{e:TypeId}{ao:Option Addr}{n cap:Nat}{l:List α}(he:EncTy P e En)(h:Vw En S (.slice ao n cap) l):Reads P S En.size (.slice ao n cap) l.length (l.flatMap En.f):=by
 simpa using h.reads he (Nat.le_refl _)
theorem enc_one {α:Type}{En:Enc α}{e:TypeId}{l:List α}(he:EncTy P e En)(h:∀a∈l,En.ok a):∀u∈l.flatMap En.f,u.oneCell'=true:=by
 intro u hu
 obtain⟨a,ha,hu⟩:=List.mem_flatMap.1 hu
 exact he.one a (h a ha) u hu
theorem run_lenOf_slice {ao:Option Addr}{n cap:Nat}(w:World):(Builtin.lenOf (.slice ao n cap)).run P w=.ok n w:=by simp[Builtin.lenOf]
theorem ow_appendL {α:Type}{En:Enc α}{d:Nat}{x y:Operand}{e bytes m cap2:Nat}{ao2:Option Addr}{sv:Value}{c:Hp}{l l2:List α}{R:Hp→List Hp}{pos:String}{af:Array Edge}{g:Option (Nat×Bool)}{rest:List Oper}(hg:Env.guard E ops g=some true)(hd:Nat.blt d N=true)
  (hT:P.underlying T=some (.slice e)) (hU:P.underlying U=some (.slice e)) (he:Elem P e En.size bytes) (hen:EncTy P e En)
  (hx:Env.ev E x=some sv) (hy:Env.ev E y=some (.slice ao2 m cap2)) (hsl:Ls En e sv c l) (hs:Sel G c R) (hv:Vw En (St B w0 G) (.slice ao2 m cap2) l2) (h47:(l.length+l2.length)*bytes≤140737488355328) (h63:l.length+l2.length≤9223372036854775807)
  (h:∀ao' cap' c',Ls En e (.slice ao' (l++l2).length cap') c' (l++l2)→OW P ops Q B w0 N (R c') ((d,.slice ao' (l++l2).length cap')::E) rest):
  OW P ops Q B w0 N G E (⟨some d,.call {callee:=.builtin .append,args:=#[x,y],argTypes:=#[T,U]},ty,pos,af,g⟩::rest):=by
 have hn:=hv.len
 subst hn
 refine ow_append hg hd hT hU he hx hy (run_lenOf_slice) hsl.sl hs (hv.reads_all hen) (enc_one hen hv.ok) h47 h63 fun v' c' h1=>?_
 obtain⟨ao',cap',rfl,_⟩:=h1.view
 have h2:Ls En e (.slice ao' (l.length+l2.length) cap') c' (l++l2):=⟨by simpa using h1,fun a ha=>by
  rcases List.mem_append.1 ha with h|h
  ·exact hsl.ok a h
  ·exact hv.ok a h⟩
 have h3:=h ao' cap' c' (by simpa using h2)
 simpa using h3
theorem IsSl.set' {e:TypeId}{size:Nat}{ao:Option Addr}{n cap i:Nat}{c:Hp}{xs:List Value}(h:IsSl e size (.slice ao n cap) c n xs)(hi:i+0<n*size)(k:Nat)(hk:i+k≤n*size){vs:List Value}(hv:vs.length=k):
  ∃obj obj',c=[(bOf ao,obj)]∧SetN obj (oOf ao+i) vs obj'∧IsSl e size (.slice ao n cap) [(bOf ao,obj')] n (xs.take i++(vs++xs.drop (i+k))):=by
 subst hv
 cases h with
 |nil=>simp at hi
 |@row b n cap pre xs spare post hx hs hn=>
  have h2:pre++(xs++(spare++post))=(pre++xs.take i)++(((xs.drop i).take vs.length)++(xs.drop (i+vs.length)++(spare++post))):=by
   have h3:xs.drop i=(xs.drop i).take vs.length++xs.drop (i+vs.length):=by
    rw[←List.drop_drop,List.take_append_drop]
   rw[List.append_assoc,←List.append_assoc ((xs.drop i).take vs.length),←h3,←List.append_assoc (xs.take i),List.take_append_drop]
  have h4:=SetN.part (a:=pre++xs.take i) (us:=(xs.drop i).take vs.length) (vs:=vs) (c:=xs.drop (i+vs.length)++(spare++post)) (e:=e) (off:=pre.length+i) (by simp;omega) (by simp;omega)
  rw[←h2]at h4
  refine⟨_,_,rfl,h4,?_⟩
  have h5:(pre++xs.take i)++(vs++(xs.drop (i+vs.length)++(spare++post)))=pre++((xs.take i++(vs++xs.drop (i+vs.length)))++(spare++post)):=by simp
  rw[h5]
  exact IsSl.row (by simp;omega) hs hn
theorem Ls.set {α:Type}{En:Enc α}{e:TypeId}{ao:Option Addr}{n cap i:Nat}{c:Hp}{l:List α}{a:α}(he:EncTy P e En)(h:Ls En e (.slice ao n cap) c l)(hi:i<l.length)(ha:En.ok a):
  ∃obj obj',c=[(bOf ao,obj)]∧SetN obj (oOf ao+i*En.size) (En.f a) obj'∧Ls En e (.slice ao n cap) [(bOf ao,obj')] (l.set i a):=by
 have hn:=h.len
 subst hn
 have hp:=he.pos
 have h1:(i+1)*En.size≤l.length*En.size:=Nat.mul_le_mul_right _ hi
 rw[Nat.succ_mul]at h1
 obtain⟨obj,obj',e1,e2,e3⟩:=h.sl.set' (i:=i*En.size) (by omega) En.size (by omega) (he.len a ha)
 refine⟨obj,obj',e1,e2,?_,fun x hx=>?_⟩
 ·have hl:∀a∈l,(En.f a).length=En.size:=fun a ha=>he.len a (h.ok a ha)
  have h5:i*En.size+En.size=(i+1)*En.size:=by rw[Nat.succ_mul]
  rw[h5,fm_take i hl,fm_drop (i+1) hl]at e3
  rw[List.length_set,List.set_eq_take_append_cons_drop,if_pos hi]
  simpa using e3
 ·rcases List.mem_or_eq_of_mem_set hx with h2|h2
  ·exact h.ok x h2
  ·subst h2;exact ha
theorem ow_storeL {α:Type}{En:Enc α}{x y:Operand}{ao:Option Addr}{n cap i:Nat}{c:Hp}{l:List α}{a:α}{e:TypeId}{R:Hp→List Hp}{pos:String}{af:Array Edge}{g:Option (Nat×Bool)}{rest:List Oper}(hg:Env.guard E ops g=some true)
  (hx:Env.ev E x=some (.pointer (some ⟨bOf ao,oOf ao+i*En.size,none⟩))) (hy:Env.ev E y=some (En.val a)) (he:EncTy P e En) (hL:Ls En e (.slice ao n cap) c l) (hs:Sel G c R) (hi:i<l.length) (ha:En.ok a)
  (h:∀c',Ls En e (.slice ao n cap) c' (l.set i a)→OW P ops Q B w0 N (R c') E rest):OW P ops Q B w0 N G E (⟨none,.store e x y,ty,pos,af,g⟩::rest):=by
 obtain⟨obj,obj',rfl,h1,h2⟩:=hL.set he hi ha
 exact ow_store hg hx hy (he.cells a ha) (by rw[he.size,he.len a ha]) (he.one a ha) hs h1 (h _ h2)
theorem v_indexAddr_ls {α:Type}{En:Enc α}{x y:Operand}{k:IntKind}{m:Int}{i len cap e e':Nat}{ao:Option Addr}{c:Hp}{l:List α}(hT:P.underlying T=some (.slice e))(he:EncTy P e En)(hx:Env.ev E x=some (.slice ao len cap))(hy:Env.ev E y=some (.int k m))
  (hL:Ls En e' (.slice ao len cap) c l) (hm:m=(i:Int)) (hi:i<l.length):OpV P S N E (.indexAddr T x y) ty (.pointer (some ⟨bOf ao,oOf ao+i*En.size,none⟩)):=
 v_indexAddr_vw (S':=St 0 default [c]) hT he hx hy (hL.vw Sub.here) hm hi
theorem ow_storeE {α:Type}{En:Enc α}{x y:Operand}{b:Nat}{cs:List Value}{a:α}{e T':TypeId}{R:Hp→List Hp}{pos:String}{af:Array Edge}{g:Option (Nat×Bool)}{rest:List Oper}(hg:Env.guard E ops g=some true)(he:EncTy P e En)
  (hx:Env.ev E x=some (.pointer (some ⟨b,0,none⟩))) (hy:Env.ev E y=some (En.val a)) (hs:Sel G [(b,.cells cs.toArray T' (0,0))] R) (hcs:cs.length=En.size) (ha:En.ok a)
  (h:OW P ops Q B w0 N (R [(b,.cells (En.f a).toArray T' (0,0))]) E rest):OW P ops Q B w0 N G E (⟨none,.store e x y,ty,pos,af,g⟩::rest):=
 ow_store hg hx hy (he.cells a ha) (by rw[he.size,he.len a ha]) (he.one a ha) hs (SetN.all (by rw[he.len a ha,hcs])) h
def Zone (P:Program)(e:TypeId):Prop:=(match (P.info? e).bind (·.zero)with|some z=>z.cells.toList.all (·.oneCell')|none=>true)=true
theorem Zone.all {e:TypeId}(h:Zone P e){i:TypeInfo}{z:Value}(hi:P.info? e=some i)(hz:i.zero=some z):∀u∈z.cells.toList,u.oneCell'=true:=by
 unfold Zone at h
 rw[hi]at h
 simp only[Option.bind_some,hz]at h
 exact List.all_eq_true.1 h
theorem ow_clear {x:Operand}{e size bytes n cap m k:Nat}{ao:Option Addr}{c:Hp}{xs:List Value}{R:Hp→List Hp}{pos:String}{af:Array Edge}{g:Option (Nat×Bool)}{rest:List Oper}(hg:Env.guard E ops g=some true)
  (hT:P.underlying T=some (.slice e)) (he:Elem P e size bytes) (hzo:Zone P e)
  (hx:Env.ev E x=some (.slice (cutA ao cap n size) m k)) (hm:m+n≤cap) (hsl:IsSl e size (.slice ao n cap) c n xs) (hs:Sel G c R)
  (h:∀c',IsSl e size (.slice ao n cap) c' n xs→OW P ops Q B w0 N (R c') E rest):
  OW P ops Q B w0 N G E (⟨none,.call {callee:=.builtin .clear,args:=#[x],argTypes:=#[T]},ty,pos,af,g⟩::rest):=fun a w ha hw=>by
 unfold wpList
 rw[if_pos (ha.guard (o:=⟨none,.call {callee:=.builtin .clear,args:=#[x],argTypes:=#[T]},ty,pos,af,g⟩) hg)]
 refine .inl ?_
 unfold Oper.wp
 obtain⟨i,hi,his,hib,z,hz,hzs⟩:=he.info
 by_cases h0:m=0
 ·subst h0
  have h3:(execOp a.eval ⟨none,.call {callee:=.builtin .clear,args:=#[x],argTypes:=#[T]},ty,pos,af,g⟩).run P w=.ok (.value (.tuple #[])) w:=by
   cases hc:cutA ao cap n size<;>simp[execOp,resolve,ha.ev hx,hc,invoke,builtin,Builtin.clear_,run_underlying hT]
  rw[h3]
  exact h c hsl _ _ ha (by rw[hs.eq];exact hw)
 ·cases hsl with
  |nil=>omega
  |@row b n cap pre xs spare post hx' hsp hn=>
   rw[cutA_some (by omega)]at hx
   have hb:=hw.read hs (List.Mem.head _)
   have hzl:((Builtin.zeroCells z.cells m).toList).length=m*size:=by simp[zeroCells_size,hzs]
   have hfit:m*size≤(cap-n)*size:=Nat.mul_le_mul_right _ (by omega)
   have h1:∀u∈(Builtin.zeroCells z.cells m).toList,u.oneCell'=true:=by
    intro u hu
    simp only[Builtin.zeroCells,Array.toList_map,List.mem_map]at hu
    obtain⟨j,hj,rfl⟩:=hu
    have hz0:0<z.cells.size:=by
     simp only[Array.toList_range,List.mem_range]at hj
     rcases Nat.eq_zero_or_pos z.cells.size with h|h
     ·rw[h]at hj;simp at hj
     ·exact h
    have hlt:=Nat.mod_lt j hz0
    rw[getElem!_pos z.cells _ hlt]
    exact hzo.all hi hz _ (by simp)
   have h2:=run_storeCells_at P b (pre.length+n*size) e (Builtin.zeroCells z.cells m).toList 0 (pre++(xs++(spare++post))).toArray w hb (by simp[hzl];omega) h1
   have h2':(storeCells ⟨b,pre.length+n*size,none⟩ (Builtin.zeroCells z.cells m).toList).run P w=.ok () (w.setRow b (splice (pre++(xs++(spare++post))) (pre.length+n*size) (Builtin.zeroCells z.cells m).toList).toArray):=by simpa [splice] using h2
   have hm':∃k,m=k+1:=⟨m-1,by omega⟩
   obtain⟨k',rfl⟩:=hm'
   have h3:(execOp a.eval ⟨none,.call {callee:=.builtin .clear,args:=#[x],argTypes:=#[T]},ty,pos,af,g⟩).run P w=.ok (.value (.tuple #[])) (w.setRow b (splice (pre++(xs++(spare++post))) (pre.length+n*size) (Builtin.zeroCells z.cells (k'+1)).toList).toArray):=by
    simp[execOp,resolve,ha.ev hx,invoke,builtin,Builtin.clear_,run_underlying hT,zeroValue,typeInfo,hi,hz,h2']
   rw[h3]
   have hspl:splice (pre++(xs++(spare++post))) (pre.length+n*size) (Builtin.zeroCells z.cells (k'+1)).toList=pre++(xs++(((Builtin.zeroCells z.cells (k'+1)).toList++spare.drop ((k'+1)*size))++post)):=by
    simp only[splice,←hx',hzl]
    have e8:pre.length+xs.length=(pre++xs).length:=by simp
    rw[e8,←List.append_assoc pre xs (spare++post),List.take_left,List.drop_append,List.drop_eq_nil_of_le (by omega),Nat.add_sub_cancel_left,List.drop_append_of_le_length (by omega)]
    simp
   have hst:=hw.setRow (cs':=(splice (pre++(xs++(spare++post))) (pre.length+n*size) (Builtin.zeroCells z.cells (k'+1)).toList).toArray) hs
   rw[hspl]at hst⊢
   refine h _ (IsSl.row hx' ?_ hn) _ _ ha hst
   simp only[List.length_append,hzl,List.length_drop,hsp]
   omega
theorem ow_copyL {d:Nat}{x y:Operand}{e size n cap k m sLen sCap q:Nat}{ao so:Option Addr}{c:Hp}{xs vs:List Value}{R:Hp→List Hp}{tys:Array TypeId}{pos:String}{af:Array Edge}{g:Option (Nat×Bool)}{rest:List Oper}(hg:Env.guard E ops g=some true)(hd:Nat.blt d N=true)
  (ht:tys[0]?=some T) (hT:P.underlying T=some (.slice e)) (he:(P.info? e).map (·.size)=some size)
  (hx:Env.ev E x=some (.slice (cutA ao cap k size) (n-k) q)) (hy:Env.ev E y=some (.slice so sLen sCap)) (hm:Nat.min sLen (n-k)=m) (hk:k≤n) (hsl:IsSl e size (.slice ao n cap) c n xs)
  (hr:Reads P (St B w0 G) size (.slice so sLen sCap) m vs) (h1:∀u∈vs,u.oneCell'=true) (hs:Sel G c R)
  (h:∀c',IsSl e size (.slice ao n cap) c' n (xs.take (k*size)++(vs++xs.drop (k*size+m*size)))→OW P ops Q B w0 N (R c') ((d,.int .i64 m)::E) rest):OW P ops Q B w0 N G E (⟨some d,.call {callee:=.builtin .copy,args:=#[x,y],argTypes:=tys},ty,pos,af,g⟩::rest):=by
 by_cases h0:m=0
 ·subst h0
  have hvs:vs=[]:=by have:=hr.len;simp at this;exact this
  subst hvs
  have h2:=h c (by simpa using hsl)
  intro a w ha hw
  unfold wpList
  rw[if_pos (ha.guard (o:=⟨some d,.call {callee:=.builtin .copy,args:=#[x,y],argTypes:=tys},ty,pos,af,g⟩) hg)]
  refine .inl ?_
  unfold Oper.wp
  have h3:(execOp a.eval ⟨some d,.call {callee:=.builtin .copy,args:=#[x,y],argTypes:=tys},ty,pos,af,g⟩).run P w=.ok (.value (.int .i64 0)) w:=by
   have h4:=hr.run w hw
   cases hc:cutA ao cap k size<;>simp[execOp,resolve,ha.ev hx,hc,ha.ev hy,invoke,builtin,Builtin.copy_,ht,run_underlying hT,Builtin.lenOf,run_sizeOf he w,h4,goInt,hm,storeCells]
  rw[h3]
  exact h2 _ _ (ha.put (by simpa using hd) _) (by rw[hs.eq];exact hw)
 ·have hmn:m≤n-k:=by rw[←hm];exact Nat.min_le_right _ _
  have hkm:(k+m)*size≤n*size:=Nat.mul_le_mul_right _ (by omega)
  rw[Nat.add_mul]at hkm
  by_cases hz:size=0
  ·subst hz
   have hvs:vs=[]:=by have:=hr.len;simp at this;exact this
   subst hvs
   have hxs:=hsl.length
   have h2:=h c (by simpa using hsl)
   intro a w ha hw
   unfold wpList
   rw[if_pos (ha.guard (o:=⟨some d,.call {callee:=.builtin .copy,args:=#[x,y],argTypes:=tys},ty,pos,af,g⟩) hg)]
   refine .inl ?_
   unfold Oper.wp
   have h3:(execOp a.eval ⟨some d,.call {callee:=.builtin .copy,args:=#[x,y],argTypes:=tys},ty,pos,af,g⟩).run P w=.ok (.value (.int .i64 m)) w:=by
    have h4:=hr.run w hw
    cases hc:cutA ao cap k 0<;>simp[execOp,resolve,ha.ev hx,hc,ha.ev hy,invoke,builtin,Builtin.copy_,ht,run_underlying hT,Builtin.lenOf,run_sizeOf he w,h4,goInt,hm,storeCells]
   rw[h3]
   exact h2 _ _ (ha.put (by simpa using hd) _) (by rw[hs.eq];exact hw)
  ·have hpos:0<m*size:=Nat.mul_pos (by omega) (by omega)
   obtain⟨obj,obj',rfl,e2,e3⟩:=hsl.set' (i:=k*size) (by omega) (m*size) (by omega) hr.len
   obtain⟨e4,_⟩:=hsl.reads (by omega)
   obtain⟨_,_,hv,hcap⟩:=hsl.view
   injection hv with _ _ hcc
   subst hcc
   have hcut:cutA ao cap k size=some ⟨bOf ao,oOf ao+k*size,none⟩:=by
    rw[e4,cutA_some (by omega)];simp
   rw[hcut]at hx
   exact ow_copy hg hd ht hT he hx hy hm hr h1 hs e2 (h _ e3)
def enB:Enc UInt8:=⟨fun b=>[.int .u8 b.toNat],1,fun b=>.int .u8 b.toNat,fun _=>True⟩
theorem enB_ty {e:TypeId}(hT:Scalar P e):EncTy P e enB:=EncTy.scalar hT rfl (fun _=>rfl) (fun _=>rfl)
theorem fm_enB (l:List UInt8):l.flatMap enB.f=l.map fun b=>Value.int .u8 b.toNat:=by
 induction l with
 |nil=>rfl
 |cons a l ih=>simp[enB]at *;exact ih
theorem v_str {x:Operand}{e:TypeId}{v:Value}{l:List UInt8}(hT:P.underlying T=some .string)(hU:P.underlying U=some (.slice e))(he:P.underlying e=some (.int .u8))(hx:Env.ev E x=some v)(hv:Vw enB S v l):OpV P S N E (.convert U T x) ty (.string ⟨l.toArray⟩):=fun a w ha hw=>by
 obtain⟨ao,cap,rfl,hc⟩:=hv.view
 by_cases h0:l=[]
 ·subst h0
  have:(convert U T (.slice ao ([]:List UInt8).length cap)).run P w=.ok (.string ⟨([]:List UInt8).toArray⟩) w:=by
   cases ao with
   |none=>simp[convert,run_underlying hT,run_underlying hU,run_underlying he,Conv.bytesToString];rfl
   |some p=>simp[convert,run_underlying hT,run_underlying hU,run_underlying he,Conv.bytesToString,loadCells];rfl
  simp only[execOp,Sem.run_bind,ha.ev hx,this]
  exact⟨rfl,rfl⟩
 ·have hl:0<l.length:=List.length_pos_iff.2 h0
  obtain⟨k1,k2⟩:=hv.get _ _ _ rfl hl
  have h1:=run_convert_bytes_back w U T e ⟨bOf ao,oOf ao,none⟩ cap l hU he hT fun j hj=>by
   rw[add_mk]
   refine k2 j _ ?_ w hw
   rw[fm_enB]
   simp[hj]
  rw[←k1]at h1
  simp only[execOp,Sem.run_bind,ha.ev hx,h1]
  exact⟨rfl,rfl⟩
theorem ba_beq (a b:ByteArray):(a.toList == b.toList)=decide (a=b):=by
 rw[←beq_toListBytes]
 obtain⟨x⟩:=a
 obtain⟨y⟩:=b
 show (x == y)=_
 by_cases h:x=y
 ·subst h;simp
 ·simp[h]
theorem v_neqS {x y:Operand}{s t:ByteArray}(hx:Env.ev E x=some (.string s))(hy:Env.ev E y=some (.string t)):OpV P S N E (.binOp .neq T x y U) ty (.bool (decide (s≠t))):=fun a w ha _=>by
 have h:=ba_beq s t
 simp[execOp,ha.ev hx,ha.ev hy,eqGuard,binOp,Op.stringOp,h,Oper.quietUpon]
theorem Fn.sel {f:FuncId}{args:Array Value}{c:Hp}{Rr:Hp→List Hp}{τ:Type}{V:τ→Value}{Pd:τ→Prop}{Γ:τ→Hp}{Nw:τ→List Hp}(hs:Sel G c Rr)
  (h:∀F,(∀x,(Rr x).Perm (x::F))→(∀w,St B w0 (c::F) w→St B w0 G w)→Fn P f args B w0 (c::F) fun u G'=>∃x,u=V x∧Pd x∧Cov (Γ x::(Nw x++F)) G'):
  Fn P f args B w0 G fun u G'=>∃x:τ,u=V x∧Pd x∧G'=Nw x++Rr (Γ x):=by
 obtain⟨F,h1,h2⟩:=hs.perm
 refine Fn.pre h1 ((h F h2 fun w hw=>hw.perm h1.symm).weak ?_)
 rintro v G' ⟨x,hu,hp,hc⟩
 refine⟨_,⟨x,hu,hp,rfl⟩,fun w hw=>(hw.cov hc).perm ?_⟩
 have h4:(Γ x::(Nw x++F)).Perm (Nw x++(Γ x::F)):=(List.perm_middle (a:=Γ x) (l₁:=Nw x) (l₂:=F)).symm
 exact h4.trans (List.Perm.append_left _ (h2 (Γ x)).symm)
theorem Fn.sel0 {f:FuncId}{args:Array Value}{c:Hp}{Rr:Hp→List Hp}{τ:Type}{V:τ→Value}{Pd:τ→Prop}{Γ:τ→Hp}(hs:Sel G c Rr)
  (h:∀F,(∀x,(Rr x).Perm (x::F))→(∀w,St B w0 (c::F) w→St B w0 G w)→Fn P f args B w0 (c::F) fun u G'=>∃x,u=V x∧Pd x∧Cov (Γ x::F) G'):
  Fn P f args B w0 G fun u G'=>∃x:τ,u=V x∧Pd x∧G'=Rr (Γ x):=Fn.sel (Nw:=fun _=>[]) hs h
theorem Fn.new {f:FuncId}{args:Array Value}{τ:Type}{V:τ→Value}{Pd:τ→Prop}{Nw:τ→List Hp}
  (h:Fn P f args B w0 G fun u G'=>∃x,u=V x∧Pd x∧Cov (Nw x++G) G'):Fn P f args B w0 G fun u G'=>∃x:τ,u=V x∧Pd x∧G'=Nw x++G:=
 h.weak fun v G' ⟨x,hu,hp,hc⟩=>⟨_,⟨x,hu,hp,rfl⟩,fun w hw=>hw.cov hc⟩
theorem Fn.pure {f:FuncId}{args:Array Value}{v:Value}(h:Fn P f args B w0 G fun u G'=>u=v∧Cov G G'):Fn P f args B w0 G fun u G'=>u=v∧G'=G:=
 h.weak fun _ G' ⟨hu,hc⟩=>⟨G,⟨hu,rfl⟩,fun w hw=>hw.cov hc⟩
end Go.Sl
