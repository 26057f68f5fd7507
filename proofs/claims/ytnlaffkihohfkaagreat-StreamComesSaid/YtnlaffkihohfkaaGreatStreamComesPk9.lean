/- Two sets of streams: streams that are not there are as new, and how great the measure may be. Conditions: none; no program is spoken of. Two sets of streams: when nothing waits, what is read is what was written. Conditions: none; no program is spoken of. Two sets of streams: a round, as the law makes it; does a side wait? Conditions: both sides are well made. -/
import Derived.Test.YtnlaffkihohfkaaGreatStreamComesPk8
set_option maxRecDepth 20000
set_option linter.unusedVariables false
set_option linter.unusedSimpArgs false
namespace Go.Proofs.YtnlaffkihohfkaaGreat
open Go Go.Sl Go.Proofs
variable {B:Nat}{w0:World}{G:List Hp}{R:Hp→List Hp}
structure New1 (x:SmM):Prop where
 u:un x=0
 vu:x.giv.used=0
 gu:x.got.used=0
 w:x.giv.wants=false
 stops:x.stops=false
 st:x.send=0∨x.send=1
 wr:x.wrote=0
 rv:x.recv=0∨x.recv=1
 rd:x.read=0
 wait:x.waits=false
theorem GivM.new_wants {a:Int}(h:0≤a):(GivM.new a).wants=false:=by
 cases e:(GivM.new a).wants with
 |false=>rfl
 |true=>
  have:=wants_def.1 e
  unfold GivM.new roomM at this
  dsimp only at this
  omega
theorem fresh_new {M:SsM}{id g:Int}(hM:M.WF):New1 (M.fresh id g):=by
 have ho:=hM.own
 have hg:0≤M.grants id:=by
  have h1:=ho.l;have h2:=ho.r;have h3:=ho.u
  unfold SsM.grants
  split
  ·omega
  ·split<;>omega
 have hw:(if M.mine id=false∨kdI id=0 then GivM.new (M.grants id) else giv0).wants=false:=by
  split
  ·exact GivM.new_wants hg
  ·rfl
 have hrd:(M.fresh id g).read=0:=by
  unfold SsM.fresh SmM.read
  dsimp only
  split<;>rfl
 have hrv:(M.fresh id g).recv=0∨(M.fresh id g).recv=1:=by
  unfold SsM.fresh
  dsimp only
  split
  ·exact .inr rfl
  ·exact .inl rfl
 have hvu:(M.fresh id g).giv.used=0:=by
  unfold SsM.fresh
  dsimp only
  split<;>rfl
 refine⟨?_,hvu,?_,hw,rfl,?_,?_,hrv,hrd,?_⟩
 ·unfold un tkS
  rw[if_neg zom,hvu,hrd]
  rfl
 ·unfold SsM.fresh
  dsimp only
  split<;>rfl
 ·unfold SsM.fresh
  dsimp only
  split
  ·exact .inr rfl
  ·exact .inl rfl
 ·unfold SsM.fresh SmM.wrote
  dsimp only
  split<;>rfl
 ·rw[SmM.waits_eq]
  unfold SsM.fresh
  dsimp only
  split
  ·rfl
  ·rfl
theorem AsAt.new1 {A:SdM}{b:Nat}{c:Hp}(h:AsAt A b c){id:Int}(hh:¬A.has id):New1 (A.x id):=by
 obtain⟨M,_,hw,e⟩:=h.fresh hh
 rw[e]
 exact fresh_new hw
def PrM.New (P:PrM):Prop:=∀i j,¬(P.s i).has j→New1 ((P.s i).x j)
theorem PrAt.new {P:PrM}{p:PrP}{b:Nat}{c:Hp}(h:PrAt P p b c):P.New:=fun i j hj=>by
 obtain⟨C,hC,_⟩:=h
 exact(hC.s i).new1 hj
theorem PrM.New.away {P:PrM}(h:P.New)(i:Bool):Away P i:=⟨fun j _ hj=>(h i j hj).u,fun j _ hj=>(h i j hj).gu,fun j _ hj e=>by
 have:=(h i j hj).w
 rw[e.2]at this
 cases this⟩
theorem PrAt.nm {P:PrM}{p:PrP}{b n:Nat}{c:Hp}{D one many:Int}(h:PrAt P p b c)(hI:Inv P D one many n)(i:Bool):P.Nm i:=fun id hid=>by
 obtain⟨C,hC,_⟩:=h
 obtain⟨h0,h1⟩:=hI.has_lt hid
 have hNS:(NS:Int)=400:=rfl
 obtain⟨g1,g2⟩:=(hC.s i).wf_x (id:=id) ⟨h0,by omega⟩
 exact⟨g2,g1.stop.2⟩
theorem sumTo_mul {f:Int→Int}{c:Int}{n:Nat}:sumTo (fun i=>c*f i) n=c*sumTo f n:=by
 induction n with
 |zero=>simp[sumTo]
 |succ n ih=>unfold sumTo;rw[ih,Int.mul_add]
theorem sumTo_in {c:Int}(hc:0≤c){n:Nat}:∀l:List Int,sumTo (fun i=>if i∈l then c else 0) n≤c*l.length
 |[]=>by
  rw[sumTo_zero (f:=fun i=>if i∈([]:List Int) then c else 0) fun i _ _=>by simp]
  simp
 |a::l=>by
  have ih:=sumTo_in hc (n:=n) l
  have e:c*((a::l).length:Nat)=c*(l.length:Nat)+c:=by
   rw[List.length_cons,Int.natCast_add,Int.mul_add]
   simp
  rw[e]
  by_cases ha:0≤a∧a<n
  ·have hu:=sumTo_upd (f:=fun i=>if i∈l then c else 0) (g:=fun i=>if i∈a::l then c else 0) (n:=n) ha.1 ha.2 fun i hi=>by
    by_cases hil:i∈l
    ·rw[if_pos hil,if_pos (List.mem_cons_of_mem _ hil)]
    ·rw[if_neg hil,if_neg (fun h=>by rcases List.mem_cons.1 h with h|h;exact hi h;exact hil h)]
   rw[hu,if_pos (List.mem_cons_self ..)]
   split<;>omega
  ·have hu:=sumTo_congr (f:=fun i=>if i∈a::l then c else 0) (g:=fun i=>if i∈l then c else 0) (n:=n) fun i h0 h1=>by
    have hia:i≠a:=fun h=>ha ⟨by omega,by omega⟩
    by_cases hil:i∈l
    ·rw[if_pos hil,if_pos (List.mem_cons_of_mem _ hil)]
    ·rw[if_neg hil,if_neg (fun h=>by rcases List.mem_cons.1 h with h|h;exact hia h;exact hil h)]
   rw[hu]
   omega
theorem sum_le_list {f:Int→Int}{c:Int}{n:Nat}{l:List Int}(hc:0≤c)(h0:∀j:Int,0≤j→j∉l→f j≤0)(h1:∀j:Int,0≤j→f j≤c):sumTo f n≤c*l.length:=by
 refine Int.le_trans (sumTo_le (g:=fun i=>if i∈l then c else 0) fun j j0 _=>?_) (sumTo_in hc l)
 by_cases hj:j∈l
 ·rw[if_pos hj];exact h1 j j0
 ·rw[if_neg hj];exact h0 j j0 hj
theorem new_phi {x y:SmM}{W Rd:List UInt8}{E:Bool}(hd:Dir x y W Rd E)(hx:New1 x)(hy:New1 y):phi x y W.length-21*(W.length:Int)≤0:=by
 have hw:W.length=0:=by
  have:=hd.places.2.1
  have:=hx.wr
  omega
 have hwz:(W.length:Int)=0:=by omega
 have h60:bt (y.stops=true∧liveS y.recv=true) 60=0:=bt_f (fun e=>by have:=hy.stops;rw[e.1]at this;cases this)
 rcases hd with⟨k,r,f,h⟩|⟨r,h⟩|⟨k,r,f,h⟩|h
 ·rw[h.phi_,h60,bt_f zom,bt_f zom,bt_f (by have:=hx.gu;omega),bt_f (by have:=hx.st;omega),bt_f (by have:=hx.st;omega)]
  have:=h.hk;have:=h.hr;have:=h.cr.o
  have:=h.vt;have:=h.cr.b;have:=h.cr.c
  omega
 ·have:=h.st;have:=hx.st;omega
 ·have:=h.st;have:=hx.st;omega
 ·rw[h.phi_];omega
theorem Inv.ids_len {P:PrM}{D one many:Int}{n:Nat}(h:Inv P D one many n)(i:Bool):((P.s i).ids.length:Int)≤opsT P i+opsT P (!i):=by
 have a0:=h.kd i 0 (.inl rfl)
 have a1:=h.kd i 1 (.inr rfl)
 have b0:=h.kd (!i) 0 (.inl rfl)
 have b1:=h.kd (!i) 1 (.inr rfl)
 rw[not_not_]at b0 b1
 have e:∀A:SdM,A.kn 0=A.k0∧A.kn 1=A.k1:=fun A=>⟨rfl,rfl⟩
 have a2:=a0.c;have a3:=a1.c;have b2:=b0.c;have b3:=b1.c
 have a4:=a0.z;have a5:=a1.z;have b4:=b0.z;have b5:=b1.z
 rw[(e _).1]at a2 a4 b2 b4
 rw[(e _).1]at a2 b2
 rw[(e _).2]at a3 a5 b3 b5
 rw[(e _).2]at a3 b3
 unfold SdM.ids SdM.idsOf opsT
 simp only[List.length_append,idsK_len]
 rw[(e _).1,(e _).2]
 omega
theorem Inv.side_le {P:PrM}{D one many:Int}{n:Nat}(h:Inv P D one many n)(hN:P.New)(i:Bool):sideP P i≤21*lenT P i+324*(opsT P i+opsT P (!i)):=by
 have h1:=h.ids_len i
 have h2:=h.ids_len (!i)
 rw[not_not_]at h2
 have hs:=sum_le_list (f:=fun j=>phi ((P.s i).x j) ((P.s (!i)).x j) (P.wr i j).length-21*((P.wr i j).length:Int)) (c:=162) (n:=NS) (l:=(P.s i).ids++(P.s (!i)).ids) (by decide) (fun j j0 hj=>by
   have g1:¬(P.s i).has j:=fun e=>hj (List.mem_append_left _ (SdM.ids_has.2 e))
   have g2:¬(P.s (!i)).has j:=fun e=>hj (List.mem_append_right _ (SdM.ids_has.2 e))
   exact new_phi (h.dir i j j0) (hN i j g1) (hN (!i) j g2)) (fun j j0=>by
   have:=(h.dir i j j0).phi_b
   (try dsimp only)
   omega)
 rw[sumTo_sub (f:=fun j=>phi ((P.s i).x j) ((P.s (!i)).x j) (P.wr i j).length) (g:=fun j=>21*((P.wr i j).length:Int)),sumTo_mul (f:=fun j=>((P.wr i j).length:Int)),List.length_append]at hs
 unfold sideP lenT
 omega
theorem Inv.gphi_b {P:PrM}{D one many:Int}{n:Nat}(h:Inv P D one many n)(i:Bool):0≤gphi (P.s i).got D (lenT P i)∧gphi (P.s i).got D (lenT P i)≤lenT P i+30:=by
 have hc:=h.cr i
 have ha:=h.ah (!i)
 have hb:=bt_b (p:=(P.s i).got.used<(P.s i).got.lim) (n:=30) (by decide)
 have c1:=hc.a;have c2:=hc.b;have c3:=hc.c;have c4:=hc.e;have c5:=hc.o;have c6:=hc.f;have c7:=hc.h
 have hu:=h.gu i
 have hle:=sumTo_le (f:=fun j=>((P.s i).x j).got.used) (g:=fun j=>((P.wr i j).length:Int)) (n:=NS) fun j j0 _=>by
  have:=(h.dir i j j0).used
  (try dsimp only)
  omega
 unfold gphi lenT
 omega
theorem Inv.phi_le {P:PrM}{D one many:Int}{n:Nat}(h:Inv P D one many n)(hN:P.New)(hw:P.wt≤4000):P.phi D≤88060:=by
 have s0:=h.side_le hN false
 have s1:=h.side_le hN true
 have g0:=h.gphi_b false
 have g1:=h.gphi_b true
 have l0:0≤lenT P false:=sumTo_nn fun j _ _=>by omega
 have l1:0≤lenT P true:=sumTo_nn fun j _ _=>by omega
 have a0:=h.ids_len false
 simp only[Bool.not_false,Bool.not_true]at s0 s1 a0
 unfold PrM.wt at hw
 unfold PrM.phi
 omega
theorem Inv.phi_nn {P:PrM}{D one many:Int}{n:Nat}(h:Inv P D one many n):0≤P.phi D:=by
 have g0:=h.gphi_b false
 have g1:=h.gphi_b true
 have s:∀i,0≤sideP P i:=fun i=>sumTo_nn fun j j0 _=>(h.dir i j j0).phi_b.1
 have s0:=s false
 have s1:=s true
 unfold PrM.phi
 omega
def PrM.Al (P:PrM)(c:Int):Prop:=∀i j,((P.s i).x j).giv.ahead≤c
theorem AhE.al {P Q:PrM}{c:Int}(h:∀i,AhE (P.s i) (Q.s i))(g:P.Al c):Q.Al c:=fun i j=>by
 have:=(h i j).1
 have:=g i j
 omega
theorem pr0_wt {D one many:Int}(hm:0≤many):(pr0 D one many).wt=0:=by
 have e:∀i,opsT (pr0 D one many) i=0:=fun i=>by
  unfold opsT
  show (SsM.first (!i) D one many).abs.k0.op+(SsM.first (!i) D one many).abs.k1.op=0
  rw[SsM.first_eq hm]
  rfl
 have l:∀i,lenT (pr0 D one many) i=0:=fun i=>sumTo_zero fun _ _ _=>rfl
 unfold PrM.wt
 rw[e,e,l,l]
 rfl
theorem pr0_al {D one many:Int}(ho:0≤one∧one≤900)(hm:0≤many):(pr0 D one many).Al 1000∧(pr0 D one many).Ah one:=by
 have key:∀i j,(((pr0 D one many).s i).x j).giv.ahead≤1000∧((((pr0 D one many).s i).x j).inn=none∨one≤(((pr0 D one many).s i).x j).giv.ahead):=fun i j=>by
  have hg:one≤(SsM.first (!i) D one many).grants j∧(SsM.first (!i) D one many).grants j≤one+3:=by
   rw[SsM.first_eq hm]
   unfold SsM.grants limP
   dsimp only
   split
   ·omega
   ·split<;>omega
  show (((SsM.first (!i) D one many).abs.x j).giv.ahead≤1000)∧(((SsM.first (!i) D one many).abs.x j).inn=none∨one≤((SsM.first (!i) D one many).abs.x j).giv.ahead)
  rw[first_x hm]
  unfold SsM.fresh
  dsimp only
  split
  ·refine⟨?_,.inr ?_⟩
   ·unfold GivM.new;dsimp only;omega
   ·unfold GivM.new;dsimp only;omega
  ·exact⟨by decide,.inl rfl⟩
 exact⟨fun i j=>(key i j).1,fun i j=>(key i j).2⟩
theorem PrM.Ah.mono {P:PrM}{a b:Int}(h:P.Ah b)(hab:a≤b):P.Ah a:=fun i j=>(h i j).imp_right fun e=>by omega
end Go.Proofs.YtnlaffkihohfkaaGreat
namespace Go.Proofs.YtnlaffkihohfkaaGreat
open Go Go.Sl Go.Proofs
variable {B:Nat}{w0:World}{G:List Hp}{R:Hp→List Hp}
def PrM.Idle (P:PrM):Prop:=∀i id,(P.s i).has id→((P.s i).x id).waits=false
theorem idle_dir {x y:SmM}{W Rd:List UInt8}{E:Bool}(hd:Dir x y W Rd E)(hw:x.waits=false)(hs:x.send=1∨x.send=2∨x.send=3):(x.send=1∧∃r,DOn x y W Rd E W.length r false)∨(x.send=3∧∃r,DAll x y W Rd E r):=by
 rcases hd with⟨k,r,f,h⟩|⟨r,h⟩|⟨k,r,f,h⟩|h
 ·left
  have hl:liveS x.send=true:=by
   rcases h.st with e|e|e
   ·rw[e.1];rfl
   ·rw[e.1];rfl
   ·omega
  rw[SmM.waits_eq,hl,h.out]at hw
  have hw2:(bufG W k f false).waits=false∧¬0<(bufG W k f false).pend.length:=by
   have:=(Bool.or_eq_false_iff.1 hw).2
   rw[Bool.true_and]at this
   have h2:=Bool.or_eq_false_iff.1 (show ((bufG W k f false).waits||decide (0<(bufG W k f false).pend.length))=false from this)
   exact⟨h2.1,of_decide_eq_false h2.2⟩
  have hf:f=false:=by
   have:(f&&!false)=false:=hw2.1
   simpa using this
  have hk:k=W.length:=by
   have hp:¬0<(rngL (k:Int) (W.length:Int)).length:=hw2.2
   unfold rngL at hp
   have:=h.hk
   split at hp
   ·exact absurd (Nat.succ_pos _) hp
   ·omega
  subst hf
  subst hk
  refine⟨?_,r,h⟩
  rcases h.st with e|e|e
  ·exact e.1
  ·exact Bool.noConfusion e.2
  ·omega
 ·exact .inr ⟨h.st,r,h⟩
 ·have:=h.st;omega
 ·have:=h.st;omega
theorem idle_none {x y:SmM}{W Rd:List UInt8}{E:Bool}(hd:Dir x y W Rd E)(hw:x.waits=false)(hs:x.send=1∨x.send=2∨x.send=3)(hy:New1 y):W.length=0∧x.send=1:=by
 rcases idle_dir hd hw hs with⟨e,r,h⟩|⟨_,r,h⟩
 ·have:=h.vu;have:=hy.vu
  exact⟨by omega,e⟩
 ·have:=h.rv;have:=hy.rv
  omega
theorem Inv.read_all {P:PrM}{D one many:Int}{n:Nat}{a:Bool}{id:Int}(h:Inv P D one many n)(hid:(P.s a).has id)(hal:P.Al 1000)(hw:((P.s (!a)).x id).waits=false)(hs:((P.s (!a)).x id).send=1∨((P.s (!a)).x id).send=2∨((P.s (!a)).x id).send=3):
  (P.take a id 1000).rd a id=P.wr (!a) id∧(P.take a id 1000).en a id=decide (((P.s (!a)).x id).send≠1):=by
 have hd:=h.dir' a hid.1
 have hW:=h.wl60 (a:=!a) hid
 have hA:=hal a id
 have key:∀(r:Nat) (kn:Bool) (fi:Int),r≤(P.wr (!a) id).length→(kn=true→fi=(P.wr (!a) id).length)→(((P.wr (!a) id).length:Int)-r≤1000)→((P.s a).x id).inn=some (inG (P.wr (!a) id) r (P.wr (!a) id).length kn fi)→P.rd a id=(P.wr (!a) id).take r→P.en a id=false→
   (match ((P.s a).x id).inn with|none=>P|some m=>(P.set2 a ((P.s a).readN id m (m.many 1000)) (P.s (!a))).setR a id (P.rd a id++m.bytes (m.many 1000)) (P.en a id||m.allAt (m.many 1000))).rd a id=P.wr (!a) id∧
   (match ((P.s a).x id).inn with|none=>P|some m=>(P.set2 a ((P.s a).readN id m (m.many 1000)) (P.s (!a))).setR a id (P.rd a id++m.bytes (m.many 1000)) (P.en a id||m.allAt (m.many 1000))).en a id=kn:=by
  intro r kn fi g1 g2 g3 g4 g5 g6
  rw[g4]
  dsimp only
  have hfi:kn=true→(((P.wr (!a) id).length:Nat):Int)≤fi∧fi≤4611686018427387903:=fun e=>by rw[g2 e];omega
  rw[inG_many (many:=1000) g1 (Nat.le_refl _) hW hfi]
  have hq:(min (((P.wr (!a) id).length:Nat)-(r:Int)) 1000).toNat=(P.wr (!a) id).length-r:=by omega
  rw[hq,inG_bytes (Nat.le_refl _) zom]
  refine⟨(if_pos ⟨rfl,rfl⟩:(if a=a∧id=id then _ else _)=_).trans ?_,(if_pos ⟨rfl,rfl⟩:(if a=a∧id=id then _ else _)=_).trans ?_⟩
  ·rw[g5,←List.take_add,List.take_of_length_le zom]
  ·rw[g6,Bool.false_or]
   show (kn&&decide ((r:Int)+(((P.wr (!a) id).length-r:Nat):Int)=fi))=kn
   cases kn with
   |false=>rfl
   |true=>
    rw[Bool.true_and,decide_eq_true (by rw[g2 rfl];omega)]
 rcases idle_dir hd hw hs with⟨e,r,g⟩|⟨e,r,g⟩
 ·rw[e]
  have hr:=g.rv
  unfold PrM.take
  rw[if_neg (by rw[hr];decide),if_neg zom]
  have c1:=g.cr.a;have c2:=g.cr.b;have c3:=g.cr.c;have c4:=g.cr.e;have c5:=g.vt;have c6:=g.gu
  have:=key r false 0 g.hr (fun e=>by cases e) zom g.inn g.rd g.en
  exact⟨this.1,this.2⟩
 ·rw[e]
  have c1:=g.vu;have c2:=g.vl;have c3:=g.va;have c4:=g.vt
  rcases g.rv with⟨r2,r3⟩|⟨r2,r3,r4⟩
  ·unfold PrM.take
   rw[if_neg (by rw[r2];decide),if_neg zom]
   have:=key r true _ g.hr (fun _=>rfl) zom g.inn g.rd r3
   exact⟨this.1,this.2⟩
  ·unfold PrM.take
   rw[if_pos (by rw[r2];rfl)]
   exact⟨by rw[g.rd,r4,List.take_length],r3⟩
structure End (P:PrM)(D one many:Int)(n:Nat):Prop where
 h:Inv P D one many n
 al:P.Al 1000
 idle:P.Idle
theorem End.take {P:PrM}{D one many:Int}{n:Nat}{a:Bool}{id mn:Int}(h:End P D one many n)(hid:(P.s a).has id)(hmn:0≤mn):End (P.take a id mn) D one many n∧SameK (P.s (!a)) ((P.take a id mn).s (!a))∧(P.take a id mn).s (!a)=P.s (!a)∧(P.take a id mn).wr=P.wr:=by
 have ht:=(h.h.take_e hid hmn)
 have hs:=ht.snd
 refine⟨⟨h.h.take hid hmn,AhE.al wt_take.a h.al,bool_two a (fun j hj=>?_) (fun j hj=>?_)⟩,by rw[hs.n];exact SameK.refl,hs.n,hs.w⟩
 ·obtain⟨a1,a2,a3,a4⟩:=hs.x j
  rw[waits_same a1 a2 a4]
  exact h.idle a j (take_k.has.1 hj)
 ·rw[hs.n]at hj⊢
  exact h.idle _ j hj
end Go.Proofs.YtnlaffkihohfkaaGreat
namespace Go.Proofs.YtnlaffkihohfkaaGreat
open Go Go.Sl Go.Proofs
variable {B:Nat}{w0:World}{G:List Hp}{R:Hp→List Hp}
theorem PrP.grn {p:PrP}{i:Bool}:GetN (.cells p.cells.toArray 42 (0,0)) (4+Int.toNat (1-iv i)*1) [.map (some (p.r (!i)))]:=by rw[iv_not];exact PrP.gr
theorem PrP.gen {p:PrP}{i:Bool}:GetN (.cells p.cells.toArray 42 (0,0)) (6+Int.toNat (1-iv i)*1) [.map (some (p.e (!i)))]:=by rw[iv_not];exact PrP.ge
theorem PrC.mem_s {C:PrC}{p:PrP}{b:Nat}{i:Bool}{q:Nat×Obj}(h:q∈C.s i):q∈C.all p b:=by
 unfold PrC.all
 refine List.mem_append_right _ ?_
 cases i
 ·exact List.mem_append_left _ h
 ·exact List.mem_append_right _ (List.mem_append_left _ h)
theorem PrAt.side {P:PrM}{p:PrP}{b:Nat}{c:Hp}{G:List Hp}(h:PrAt P p b c)(hs:Sub c G)(i:Bool):∃cs,AsAt (P.s i) (p.s i) cs∧Sub cs G:=by
 obtain⟨C,hC,rfl⟩:=h
 exact⟨_,hC.s i,fun q hq=>hs q (PrC.mem_s hq)⟩
theorem PrAt.top {P:PrM}{p:PrP}{b:Nat}{c:Hp}{G:List Hp}(h:PrAt P p b c)(hs:Sub c G):Sub [(b,Obj.cells p.cells.toArray 42 (0,0))] G:=by
 obtain⟨C,hC,rfl⟩:=h
 exact hs.left
theorem AsAt.wait {A:SdM}{b:Nat}{c:Hp}(h:AsAt A b c):∃v:Bool,(v=false↔∀id,A.has id→(A.x id).waits=false)∧∀{B:Nat} {w0:World} {G:List Hp},Sub c G→Go.Sl.Fn Tryz.prog 13 #[.pointer (some ⟨b,0,none⟩)] B w0 G fun u G'=>u=.bool v∧G'=G:=by
 obtain⟨M,ps,hM,hw,rfl⟩:=h
 refine⟨M.str.any SmM.waits,⟨fun hv id hid=>?_,fun hv=>?_⟩,fun hs=>waits_c hM hs hw⟩
 ·show (M.at id).waits=false
  cases hx:idxS M.str id with
  |none=>rw[SsM.at_none hx];exact(fresh_new hw).wait
  |some i=>
   have:=List.any_eq_false.1 hv _ (List.mem_of_getElem? (SsM.at_idx hx).1)
   simpa using this
 ·rw[List.any_eq_false]
  intro x hx
  have h3:=hw.ex _ hx
  have h4:=hv x.id ⟨h3.2.1,h3.2.2⟩
  obtain⟨i,hi,rfl⟩:=List.mem_iff_getElem.1 hx
  have h5:=(SsM.at_idx (idxS_some hw.nd hi rfl)).1
  rw[List.getElem?_eq_getElem hi]at h5
  have h6:(M.abs.x M.str[i].id)=M.str[i]:=(Option.some.inj h5).symm
  rw[h6]at h4
  rw[h4]
  decide
theorem PrAt.wait {P:PrM}{p:PrP}{b:Nat}{c:Hp}(h:PrAt P p b c)(i:Bool):∃v:Bool,(v=false↔∀id,(P.s i).has id→((P.s i).x id).waits=false)∧∀{B:Nat} {w0:World} {G:List Hp},Sub c G→Go.Sl.Fn Tryz.prog 13 #[.pointer (some ⟨p.s i,0,none⟩)] B w0 G fun u G'=>u=.bool v∧G'=G:=by
 obtain⟨C,hC,rfl⟩:=h
 obtain⟨v,h1,h2⟩:=(hC.s i).wait
 exact⟨v,h1,fun hs=>h2 fun q hq=>hs q (PrC.mem_s hq)⟩
theorem asGetNo_c {A:SdM}{b:Nat}{c:Hp}{id:Int}(hs:Sub c G)(hA:AsAt A b c)(hid:0≤id∧id≤18446744073709551615)(hh:¬A.has id):
  Go.Sl.Fn Tryz.prog 14 #[.pointer (some ⟨b,0,none⟩),.int .u64 id] B w0 G fun u G'=>u=.pointer none∧G'=G:=by
 obtain⟨M,ps,hM,hw,rfl⟩:=hA
 exact get_none_c hs hM hw hid hh
theorem Tks.keep {i:Bool}{mn:Int}{P Q:PrM}{l:List Int}(r:Tks i mn P l Q):SameK (P.s i) (Q.s i)∧SameN P Q:=by
 induction r with
 |nil=>exact⟨SameK.refl,SameN.refl⟩
 |snoc id r ih=>exact⟨ih.1.trans take_k,ih.2.trans wt_take⟩
structure HalfR (P Q:PrM)(i:Bool):Prop where
 ex:∃S l,PumpR i 40 true 3 P S∧Tks i 50 S l Q∧(l.Nodup∧∀id,id∈l↔(S.s i).has id)∧∀a,Away S a
def Rnd (S0:PrM):Nat→PrM→Prop
 |0,S=>S=S0
 |1,S=>HalfR S0 S false
 |_,S=>∃S2,HalfR S0 S2 false∧S2.Nm true∧Away S2 true∧HalfR S2 S true
theorem Rnd.next {S0 S Q:PrM}{j:Nat}{i:Bool}(h:Rnd S0 j S)(hi:(j:Int)=iv i)(hh:HalfR S Q i)(nm:S.Nm true)(aw:Away S true):Rnd S0 (j+1) Q:=by
 cases i
 ·obtain rfl:j=0:=by have:(j:Int)=0:=hi;omega
  obtain rfl:S=S0:=h
  exact hh
 ·obtain rfl:j=1:=by have:(j:Int)=1:=hi;omega
  exact⟨S,h,nm,aw,hh⟩
theorem Rnd.done {S0 S:PrM}{D one many:Int}{n:Nat}(h:Rnd S0 2 S)(r0:Rd3 S0 D one many n false)(a0:Away S0 false)(hD:400≤D):S.phi D+30≤S0.phi D∨(S.phi D≤S0.phi D∧S0.Idle):=by
 obtain⟨S2,⟨S1,l0,p0,t0,hl0,a1⟩,nm,a2,⟨S3,l1,p1,t1,hl1,a3⟩⟩:=h
 exact round p0 t0 p1 t1 r0 nm hD (by decide) (by decide) hl0 hl1 a0 a1 a2 a3
structure Gd (P:PrM)(D one many:Int)(n:Nat):Prop where
 h:Inv P D one many n
 ah:P.Ah 10
 al:P.Al 1000
theorem Gd.same {P Q:PrM}{D one many:Int}{n:Nat}(g:Gd P D one many n)(h:Inv Q D one many n)(s:SameN P Q):Gd Q D one many n:=⟨h,s.ah g.ah,AhE.al s.a g.al⟩
theorem Gd.act {P Q:PrM}{D one many:Int}{n n':Nat}(g:Gd P D one many n)(h:Inv Q D one many n')(s:ActN P Q):Gd Q D one many n':=⟨h,s.ah g.ah,AhE.al s.a g.al⟩
theorem Gd.stop {P:PrM}{D one many:Int}{n:Nat}(g:Gd P D one many n)(h:P.Idle):End P D one many n:=⟨g.h,g.al,h⟩
def RInv (P:PrM)(D:Int)(m:Nat):Prop:=(m=0∧P.phi D≤88060)∨(1≤m∧P.phi D+30*m≤88090∧¬P.Idle)
theorem RInv.next {S0 S:PrM}{D one many:Int}{n m:Nat}(h:RInv S0 D m)(r:Rnd S0 2 S)(g:Gd S0 D one many n)(nm:S0.Nm false)(a0:Away S0 false)(hD:400≤D)(hI:¬S.Idle):RInv S D (m+1):=by
 refine .inr ⟨by omega,?_,hI⟩
 rcases r.done ⟨g.h,nm,g.ah⟩ a0 hD with e|⟨e,e2⟩
 ·rcases h with⟨rfl,h⟩|⟨h1,h2,h3⟩<;>omega
 ·rcases h with⟨rfl,h⟩|⟨h1,h2,h3⟩
  ·omega
  ·exact absurd e2 h3
theorem RInv.no {P:PrM}{D one many:Int}{n m:Nat}(h:RInv P D m)(g:Inv P D one many n)(hm:3000≤m):False:=by
 have:=g.phi_nn
 rcases h with⟨rfl,h⟩|⟨h1,h2,h3⟩<;>omega
end Go.Proofs.YtnlaffkihohfkaaGreat
