/- Two sets of streams: what a side does by itself. Conditions: none; no program is spoken of. Two sets of streams: a side reads. Conditions: none; no program is spoken of. Maps from numbers to bytes that they own, or to true. Conditions: none. Streams: a new set; has any something to send still? Conditions: numbers fit. Two sets of streams in memory, and what was written and read. Conditions: none. Two sets of streams: a frame comes to a side. Conditions: numbers fit; it is one that the other side sends. Two sets of streams: a side reads, in memory. Conditions: what holds of both sides holds. Two sets of streams: one stream in hand: what is next, it was sent, lost, came. Conditions: numbers fit. Two sets of streams: a stream's next frame is sent, and comes, or is lost. Conditions: what holds of both sides holds. Two sets of streams: what a side has to send is sent: what it makes of both. Conditions: none; no program is spoken of. Two sets of streams: what a side has to send is sent, in memory. Conditions: what holds of both sides holds. Two sets of streams: how much was written and opened; no step but an act of the law adds to it. Conditions: none; no program is spoken of. -/
import Derived.Test.YtnlaffkihohfkaaGreatStreamComesPk6
import Derived.Test.YtnlaffkihohfkaaGreatStreamComesPk4
import Derived.Test.YtnlaffkihohfkaaGreatStreamComesPk3
set_option maxRecDepth 20000
set_option linter.unusedVariables false
set_option linter.unusedSimpArgs false
namespace Go.Proofs.YtnlaffkihohfkaaGreat
open Go Go.Sl Go.Proofs
variable {B:Nat}{w0:World}{G:List Hp}{R:Hp→List Hp}
theorem Inv.kn_ {P P':PrM}{D one many:Int}{n n':Nat}(h:Inv P D one many n)(hx:∀a,(P'.s a).x=(P.s a).x∧(P'.s a).giv=(P.s a).giv∧(P'.s a).got=(P.s a).got∧(P'.s a).cl=(P.s a).cl∧(P'.s a).own=(P.s a).own∧(P'.s a).their=(P.s a).their)
  (hw:P'.wr=P.wr∧P'.rd=P.rd∧P'.en=P.en) (hk:∀a k,k=0∨k=1→Kc ((P'.s a).kn k) ((P'.s (!a)).kn k) n') (hg:∀a,(P'.s a).k0.giv=(P.s a).k0.giv∧(P'.s a).k1.giv=(P.s a).k1.giv) (hn:n≤n'∧n'≤50):Inv P' D one many n':=by
 obtain⟨w1,w2,w3⟩:=hw
 refine⟨fun a=>(hx a).2.2.2.1.trans (h.cl a),fun a=>(hx a).2.2.2.2.1.trans (h.own a),fun a=>(hx a).2.2.2.2.2.trans (h.their a),fun a j hj=>?_,fun a=>?_,fun a=>?_,fun a=>?_,fun a=>?_,fun a=>?_,hk,fun a=>?_,fun a k hk2=>?_,?_,⟨hn.2,h.nb.2⟩⟩
 ·rw[(hx a).1,(hx (!a)).1,w1,w2,w3];exact h.dir a j hj
 ·rw[(hx a).2.2.1,(hx a).1];exact h.gu a
 ·rw[(hx a).2.1,(hx a).1];exact h.vu a
 ·rw[(hx a).2.1,(hx a).1];exact h.vt a
 ·rw[(hx a).2.2.1,(hx (!a)).2.1];exact h.cr a
 ·rw[(hx a).2.1];exact h.ah a
 ·rw[(hg a).1,(hg a).2,(hx a).1];exact h.cnt a
 ·have h1:=h.kg a k hk2
  rcases hk2 with rfl|rfl
  ·show 0≤(P'.s a).k0.giv;rw[(hg a).1];exact h1
  ·show 0≤(P'.s a).k1.giv;rw[(hg a).2];exact h1
 ·rw[w1]
  have:=h.wl
  omega
theorem Inv.mono {P:PrM}{D one many:Int}{n n':Nat}(h:Inv P D one many n)(hn:n≤n'∧n'≤50):Inv P D one many n':=
 h.kn_ (fun a=>⟨rfl,rfl,rfl,rfl,rfl,rfl⟩) ⟨rfl,rfl,rfl⟩ (fun a k hk=>by have k1:=h.kd a k hk;exact⟨k1.c,by have:=k1.o;omega,k1.m,k1.g,k1.t,k1.z⟩) (fun a=>⟨rfl,rfl⟩) hn
theorem Inv.opened {P:PrM}{D one many:Int}{n:Nat}{i:Bool}{k:Int}(h:Inv P D one many n)(hk:k=0∨k=1)(ho:((P.s i).kn k).op<((P.s i).kn k).may)(hn:n+1≤50):Inv (P.set2 i ((P.s i).opened k) (P.s (!i))) D one many (n+1):=by
 have e1:∀j,j=0∨j=1→((P.s i).opened k).kn j=if j=k then ((P.s i).kn k).opMore else (P.s i).kn j:=fun j hj=>SdM.setK_kn hk hj
 refine h.kn_ (n':=n+1) (bool_two i ?_ ?_) ⟨rfl,rfl,rfl⟩ (fun a j hj=>?_) (bool_two i ?_ ?_) ⟨by omega,hn⟩
 ·rw[PrM.set2_i]
  exact⟨SdM.setK_x,SdM.setK_giv,SdM.setK_got,SdM.setK_cl,SdM.setK_own,SdM.setK_their⟩
 ·rw[PrM.set2_n]
  exact⟨rfl,rfl,rfl,rfl,rfl,rfl⟩
 ·refine bool_two (p:=fun a=>Kc (((P.set2 i ((P.s i).opened k) (P.s (!i))).s a).kn j) (((P.set2 i ((P.s i).opened k) (P.s (!i))).s (!a)).kn j) (n+1)) i ?_ ?_ a
  ·rw[PrM.set2_i,PrM.set2_n,e1 j hj]
   have k1:=h.kd i j hj
   split
   ·next e=>
    subst e
    exact⟨by have:=k1.c;show _≤((P.s i).kn j).op+1;omega,by have:=k1.o;show ((P.s i).kn j).op+1≤((n+1:Nat):Int);omega,by show ((P.s i).kn j).op+1≤((P.s i).kn j).may;omega,k1.g,k1.t,k1.z⟩
   ·exact⟨k1.c,by have:=k1.o;omega,k1.m,k1.g,k1.t,k1.z⟩
  ·rw[not_not_,PrM.set2_i,PrM.set2_n,e1 j hj]
   have k1:=h.kd (!i) j hj
   rw[not_not_]at k1
   split
   ·next e=>
    subst e
    exact⟨k1.c,by have:=k1.o;omega,k1.m,k1.g,k1.t,k1.z⟩
   ·exact⟨k1.c,by have:=k1.o;omega,k1.m,k1.g,k1.t,k1.z⟩
 ·rw[PrM.set2_i]
  have h0:=e1 0 (.inl rfl)
  have h1:=e1 1 (.inr rfl)
  constructor
  ·show (((P.s i).opened k).kn 0).giv=((P.s i).kn 0).giv
   rw[h0];split
   ·next e=>rw[e];rfl
   ·rfl
  ·show (((P.s i).opened k).kn 1).giv=((P.s i).kn 1).giv
   rw[h1];split
   ·next e=>rw[e];rfl
   ·rfl
 ·rw[PrM.set2_n]
  exact⟨rfl,rfl⟩
def SdM.strS (A:SdM)(k:Int):SdM:=A.setK k (A.kn k).sentK
def SdM.strL (A:SdM)(k:Int):SdM:=A.setK k (A.kn k).lostK
def KdM.mayTo (k:KdM)(n:Int):KdM:={k with may:=max k.may n}
def SdM.raiseS (A:SdM)(k n:Int):SdM:=A.setK k ((A.kn k).mayTo n)
theorem Inv.kset {P:PrM}{D one many:Int}{n:Nat}{i:Bool}{k:Int}{a b:KdM}(h:Inv P D one many n)(hk:k=0∨k=1)(k1:Kc a b n)(k2:Kc b a n)(ga:a.giv=((P.s i).kn k).giv)(gb:b.giv=((P.s (!i)).kn k).giv):Inv (P.set2 i ((P.s i).setK k a) ((P.s (!i)).setK k b)) D one many n:=by
 have eA:∀j,j=0∨j=1→((P.s i).setK k a).kn j=if j=k then a else (P.s i).kn j:=fun j hj=>SdM.setK_kn hk hj
 have eB:∀j,j=0∨j=1→((P.s (!i)).setK k b).kn j=if j=k then b else (P.s (!i)).kn j:=fun j hj=>SdM.setK_kn hk hj
 refine h.kn_ (n':=n) (bool_two i ?_ ?_) ⟨rfl,rfl,rfl⟩ (fun c j hj=>?_) (bool_two i ?_ ?_) ⟨Nat.le_refl _,h.nb.1⟩
 ·rw[PrM.set2_i]
  exact⟨SdM.setK_x,SdM.setK_giv,SdM.setK_got,SdM.setK_cl,SdM.setK_own,SdM.setK_their⟩
 ·rw[PrM.set2_n]
  exact⟨SdM.setK_x,SdM.setK_giv,SdM.setK_got,SdM.setK_cl,SdM.setK_own,SdM.setK_their⟩
 ·refine bool_two (p:=fun c=>Kc (((P.set2 i ((P.s i).setK k a) ((P.s (!i)).setK k b)).s c).kn j) (((P.set2 i ((P.s i).setK k a) ((P.s (!i)).setK k b)).s (!c)).kn j) n) i ?_ ?_ c
  ·rw[PrM.set2_i,PrM.set2_n,eA j hj,eB j hj]
   split
   ·exact k1
   ·exact h.kd i j hj
  ·rw[not_not_,PrM.set2_i,PrM.set2_n,eA j hj,eB j hj]
   split
   ·exact k2
   ·have:=h.kd (!i) j hj
    rwa [not_not_]at this
 ·rw[PrM.set2_i]
  constructor
  ·show (((P.s i).setK k a).kn 0).giv=((P.s i).kn 0).giv
   rw[eA 0 (.inl rfl)];split
   ·next e=>rw[ga,e]
   ·rfl
  ·show (((P.s i).setK k a).kn 1).giv=((P.s i).kn 1).giv
   rw[eA 1 (.inr rfl)];split
   ·next e=>rw[ga,e]
   ·rfl
 ·rw[PrM.set2_n]
  constructor
  ·show (((P.s (!i)).setK k b).kn 0).giv=((P.s (!i)).kn 0).giv
   rw[eB 0 (.inl rfl)];split
   ·next e=>rw[gb,e]
   ·rfl
  ·show (((P.s (!i)).setK k b).kn 1).giv=((P.s (!i)).kn 1).giv
   rw[eB 1 (.inr rfl)];split
   ·next e=>rw[gb,e]
   ·rfl
theorem SdM.setK_same {A:SdM}{k:Int}(hk:k=0∨k=1):A.setK k (A.kn k)=A:=by rcases hk with rfl|rfl<;>rfl
theorem SdM.setK_setK {A:SdM}{k:Int}{a b:KdM}:(A.setK k a).setK k b=A.setK k b:=by
 unfold SdM.setK
 split<;>rfl
theorem Inv.str_lost {P:PrM}{D one many:Int}{n:Nat}{i:Bool}{k:Int}(h:Inv P D one many n)(hk:k=0∨k=1):Inv (P.set2 i (((P.s i).strS k).strL k) (P.s (!i))) D one many n:=by
 have k1:=h.kd i k hk
 have k2:=h.kd (!i) k hk
 rw[not_not_]at k2
 have hg:=h.kg i k hk
 have e1:((P.s i).strS k).strL k=(P.s i).setK k ((P.s i).kn k).sentK.lostK:=by
  unfold SdM.strL SdM.strS
  rw[SdM.setK_setK,SdM.setK_kn hk hk,if_pos rfl]
 have e2:((P.s i).kn k).sentK.lostK={(P.s i).kn k with told:=if 0<((P.s i).kn k).giv then min ((P.s i).kn k).giv (((P.s i).kn k).giv-1) else ((P.s i).kn k).giv}:=rfl
 rw[e1]
 have:=h.kset (i:=i) (k:=k) (a:=((P.s i).kn k).sentK.lostK) (b:=(P.s (!i)).kn k) hk ?_ ?_ rfl rfl
 ·rwa [SdM.setK_same hk]at this
 ·rw[e2]
  exact⟨k1.c,k1.o,k1.m,k1.g,k1.t,k1.z⟩
 ·rw[e2]
  exact⟨k2.c,k2.o,k2.m,k2.g,by dsimp only;split<;>omega,k2.z⟩
theorem Inv.str_came {P:PrM}{D one many:Int}{n:Nat}{i:Bool}{k:Int}(h:Inv P D one many n)(hk:k=0∨k=1):Inv (P.set2 i ((P.s i).strS k) ((P.s (!i)).raiseS k ((P.s i).kn k).giv)) D one many n:=by
 have k1:=h.kd i k hk
 have k2:=h.kd (!i) k hk
 rw[not_not_]at k2
 have hg:=h.kg i k hk
 have m2:=k2.m;have g2:=k2.g
 exact h.kset hk ⟨k1.c,k1.o,k1.m,k1.g,k1.t,k1.z⟩ ⟨k2.c,k2.o,by show ((P.s (!i)).kn k).op≤max ((P.s (!i)).kn k).may ((P.s i).kn k).giv;omega,by show max ((P.s (!i)).kn k).may ((P.s i).kn k).giv≤_;have:((P.s i).kn k).sentK.giv=((P.s i).kn k).giv:=rfl;omega,by show ((P.s i).kn k).giv≤((P.s i).kn k).giv∧0≤((P.s i).kn k).giv;omega,k2.z⟩ rfl rfl
theorem Inv.tell {P:PrM}{D one many:Int}{n:Nat}{i:Bool}(h:Inv P D one many n):Inv (P.set2 i {P.s i with giv:=(P.s i).giv.tell} {P.s (!i)with got:=(P.s (!i)).got.raise (P.s i).giv.lim}) D one many n:=by
 have u:∀{A B:SdM},B.x=A.x→B.cl=A.cl→B.own=A.own→B.their=A.their→B.giv.ahead=A.giv.ahead→B.got.used=A.got.used→B.giv.used=A.giv.used→B.giv.taken=A.giv.taken→B.k0=A.k0→B.k1=A.k1→Upd A B 0 (A.x 0):=fun {A B} e1 e2 e3 e4 e5 e6 e7 e8 e9 e10=>
  ⟨fun j=>by rw[e1];split<;>simp_all,e2,e3,e4,e5,by omega,by omega,by omega,by rw[e9,e10];omega,fun k hk=>by rcases hk with rfl|rfl<;>(unfold SdM.kn;rw[e9,e10];exact Kle.rfl')⟩
 refine h.step (i:=i) (id:=0) (x':=(P.s i).x 0) (y':=(P.s (!i)).x 0) ⟨Int.le_refl _,by decide⟩ ?_ ?_ (.inr (.inr ?_)) ?_ (fun a j _=>⟨rfl,rfl,rfl⟩) (h.dir i 0 (Int.le_refl _)) (h.dir' i (Int.le_refl _)) ?_ ?_ ⟨Nat.le_refl _,h.nb.1⟩ h.wl
 ·rw[PrM.set2_i];exact u rfl rfl rfl rfl rfl rfl rfl rfl rfl rfl
 ·rw[PrM.set2_n];exact u rfl rfl rfl rfl rfl rfl rfl rfl rfl rfl
 ·rw[PrM.set2_n,PrM.set2_i];exact⟨rfl,rfl,rfl,rfl⟩
 ·rw[PrM.set2_i];exact fun k _=>rfl
 ·rw[PrM.set2_n,PrM.set2_i];exact h.cr i
 ·rw[PrM.set2_n,PrM.set2_i];exact(h.cr' i).came
def PrM.setW (P:PrM)(i:Bool)(id:Int)(W:List UInt8):PrM:={P with wr:=fun a j=>if a=i∧j=id then W else P.wr a j}
def PrM.setR (P:PrM)(i:Bool)(id:Int)(Rd:List UInt8)(E:Bool):PrM:={P with rd:=fun a j=>if a=i∧j=id then Rd else P.rd a j,en:=fun a j=>if a=i∧j=id then E else P.en a j}
theorem Inv.one_ {P P':PrM}{D one many:Int}{n n':Nat}{i:Bool}{id:Int}{x':SmM}(h:Inv P D one many n)(hid:(P.s i).has id)(hA:Upd (P.s i) (P'.s i) id x')(hB:P'.s (!i)=P.s (!i))(hc:∀k,k=0∨k=1→((P'.s i).kn k).came=((P.s i).kn k).came)
  (hw:∀a j,j≠id→P'.wr a j=P.wr a j∧P'.rd a j=P.rd a j∧P'.en a j=P.en a j)
  (d1:Dir x' ((P.s (!i)).x id) (P'.wr i id) (P'.rd (!i) id) (P'.en (!i) id)) (d2:Dir ((P.s (!i)).x id) x' (P'.wr (!i) id) (P'.rd i id) (P'.en i id)) (c1:(P'.s i).got=(P.s i).got) (c2:Cr (P.s (!i)).got (P'.s i).giv) (hn:n≤n'∧n'≤50)
  (wl:sumTo (fun id=>(P'.wr false id).length) NS+sumTo (fun id=>(P'.wr true id).length) NS≤100*n'):Inv P' D one many n':=by
 refine h.step (i:=i) (id:=id) (x':=x') (y':=(P.s (!i)).x id) (h.has_lt hid) hA (by rw[hB];exact Upd.refl) (.inl hid) hc hw d1 d2 ?_ ?_ hn wl
 ·rw[c1,hB];exact h.cr i
 ·rw[hB];exact c2
theorem Inv.write {P:PrM}{D one many:Int}{n:Nat}{i:Bool}{id:Int}{l:List UInt8}(h:Inv P D one many n)(hid:(P.s i).has id)(h1:((P.s i).x id).send=1)(hl:l.length≤100)(hn:n+1≤50):
  ((P.s i).x id).writeE=0∧((P.s i).x id).wrote+l.length≤65536∧((P.s i).x id).wrote=(P.wr i id).length∧(∃o,((P.s i).x id).write l=((P.s i).x id).outTo o∧o.WF)∧Inv ((P.set2 i ((P.s i).put id (((P.s i).x id).write l)) (P.s (!i))).setW i id (P.wr i id++l)) D one many (n+1):=by
 obtain⟨k,r,f,g⟩:=(h.dir i id hid.1).on_send (.inl h1)
 have hf:f=false:=by rcases g.st with⟨_,e⟩|⟨e,_⟩|⟨e,_⟩;exact e;omega;omega
 subst hf
 obtain⟨h00,h01⟩:=h.has_lt hid
 have hW:=h.wl_ i h00 h01
 have hk:=g.hk
 have ho:=g.out
 have hE:((P.s i).x id).writeE=0:=by
  unfold SmM.writeE
  rw[if_neg zom,ho]
  rfl
 have hwr:((P.s i).x id).wrote=(P.wr i id).length:=by
  unfold SmM.wrote
  rw[ho]
  show (k:Int)+(((P.wr i id).drop k).length:Int)=_
  rw[List.length_drop]
  omega
 have hx:((P.s i).x id).write l=((P.s i).x id).outTo (bufG (P.wr i id++l) k false false):=by
  unfold SmM.write
  rw[if_neg zom,ho]
  have:=bufG_write (t:=P.wr i id) (l:=l) (k:=k) hk zom
  show SmM.outTo ((P.s i).x id) (if (bufG (P.wr i id) k false false).fin=true then bufG (P.wr i id) k false false else (bufG (P.wr i id) k false false).write l)=_
  rw[this]
  rfl
 refine⟨hE,by omega,hwr,⟨_,hx,bufG_wf (by rw[List.length_append];omega) (by rw[List.length_append];omega)⟩,?_⟩
 have hwi:((P.set2 i ((P.s i).put id (((P.s i).x id).write l)) (P.s (!i))).setW i id (P.wr i id++l)).wr i id=P.wr i id++l:=if_pos ⟨rfl,rfl⟩
 have hwn:∀j,((P.set2 i ((P.s i).put id (((P.s i).x id).write l)) (P.s (!i))).setW i id (P.wr i id++l)).wr (!i) j=P.wr (!i) j:=fun j=>if_neg (fun e=>not_ne i e.1)
 refine h.one_ (i:=i) (id:=id) (x':=((P.s i).x id).write l) hid ?_ (PrM.set2_n (P:=P)) ?_ ?_ ?_ ?_ ?_ ?_ ⟨by omega,hn⟩ ?_
 ·have:((P.set2 i ((P.s i).put id (((P.s i).x id).write l)) (P.s (!i))).setW i id (P.wr i id++l)).s i=(P.s i).put id (((P.s i).x id).write l):=PrM.set2_i (P:=P)
  rw[this]
  exact Upd.put (by rw[hx];rfl) (by rw[hx];rfl) (by rw[hx];rfl) (by rw[hx];rfl)
 ·have:((P.set2 i ((P.s i).put id (((P.s i).x id).write l)) (P.s (!i))).setW i id (P.wr i id++l)).s i=(P.s i).put id (((P.s i).x id).write l):=PrM.set2_i (P:=P)
  rw[this]
  exact fun k _=>rfl
 ·exact fun a j hj=>⟨if_neg (fun e=>hj e.2),rfl,rfl⟩
 ·rw[hwi]
  show Dir _ _ _ (P.rd (!i) id) (P.en (!i) id)
  have hla:(P.wr i id++l).length=(P.wr i id).length+l.length:=List.length_append
  refine .inl ⟨k,r,false,by rw[hx];rfl,by rw[inG_app hk];exact g.inn,by omega,g.hr,by rw[hx];exact g.st,g.rv,?_,g.en,?_,g.vu,g.vt,by rw[hx];exact g.cr⟩
  ·rw[List.take_append_of_le_length (by have:=g.hr;omega)];exact g.rd
  ·rw[hx,hla]
   have:=g.gu
   show (k:Int)≤((P.s i).x id).got.used∧((P.s i).x id).got.used≤_
   omega
 ·rw[hwn]
  exact(h.dir' i hid.1).alike ⟨rfl,rfl,rfl,fun _=>rfl,by rw[hx];rfl,by rw[hx];rfl,by rw[hx];rfl⟩
 ·have:((P.set2 i ((P.s i).put id (((P.s i).x id).write l)) (P.s (!i))).setW i id (P.wr i id++l)).s i=(P.s i).put id (((P.s i).x id).write l):=PrM.set2_i (P:=P)
  rw[this]
  rfl
 ·have:((P.set2 i ((P.s i).put id (((P.s i).x id).write l)) (P.s (!i))).setW i id (P.wr i id++l)).s i=(P.s i).put id (((P.s i).x id).write l):=PrM.set2_i (P:=P)
  rw[this]
  exact h.cr' i
 ·have g1:=sumTo_upd (f:=fun j=>((P.wr i j).length:Int)) (g:=fun j=>((((P.set2 i ((P.s i).put id (((P.s i).x id).write l)) (P.s (!i))).setW i id (P.wr i id++l)).wr i j).length:Int)) h00 h01 fun j hj=>by
   show (((if i=i∧j=id then P.wr i id++l else P.wr i j)).length:Int)=_
   rw[if_neg (fun e=>hj e.2)]
  have g2:sumTo (fun j=>((((P.set2 i ((P.s i).put id (((P.s i).x id).write l)) (P.s (!i))).setW i id (P.wr i id++l)).wr (!i) j).length:Int)) NS=sumTo (fun j=>((P.wr (!i) j).length:Int)) NS:=sumTo_congr fun j _ _=>by rw[hwn]
  rw[hwi,List.length_append]at g1
  have h3:=h.wl
  generalize (P.set2 i ((P.s i).put id (((P.s i).x id).write l)) (P.s (!i))).setW i id (P.wr i id++l)=P' at g1 g2⊢
  cases i<;>(simp only[Bool.not_true,Bool.not_false]at g1 g2;omega)
theorem Inv.own_ {P:PrM}{D one many:Int}{n:Nat}{i:Bool}{id:Int}{x':SmM}(h:Inv P D one many n)(hid:(P.s i).has id)(h1:x'.got=((P.s i).x id).got)(h2:x'.giv=((P.s i).x id).giv)(h3:x'.recv=((P.s i).x id).recv)(h4:x'.inn=((P.s i).x id).inn)(h5:x'.counted=((P.s i).x id).counted)(d:Dir x' ((P.s (!i)).x id) (P.wr i id) (P.rd (!i) id) (P.en (!i) id)):Inv (P.set2 i ((P.s i).put id x') (P.s (!i))) D one many n:=by
 refine h.both hid (Upd.put (by rw[h1]) (by rw[h2]) (by unfold tkS SmM.read;rw[h2,h3,h4]) (by unfold cS;rw[h5])) Upd.refl (fun k _=>rfl) d ?_ (h.cr i) (h.cr' i)
 exact(h.dir' i hid.1).alike ⟨rfl,rfl,rfl,fun _=>rfl,h3,h4,h2⟩
theorem Inv.finish {P:PrM}{D one many:Int}{n:Nat}{i:Bool}{id:Int}(h:Inv P D one many n)(hid:(P.s i).has id):Inv (P.set2 i ((P.s i).put id ((P.s i).x id).finish) (P.s (!i))) D one many n:=by
 by_cases h1:((P.s i).x id).send=1
 ·obtain⟨k,r,f,g⟩:=(h.dir i id hid.1).on_send (.inl h1)
  have hf:f=false:=by rcases g.st with⟨_,e⟩|⟨e,_⟩|⟨e,_⟩;exact e;omega;omega
  subst hf
  have hx:((P.s i).x id).finish={(P.s i).x id with out:=some (bufG (P.wr i id) k true false),send:=2}:=by
   unfold SmM.finish
   rw[if_neg zom,g.out]
   rfl
  rw[hx]
  refine h.own_ hid rfl rfl rfl rfl rfl (.inl ⟨k,r,true,rfl,g.inn,g.hk,g.hr,.inr (.inl ⟨rfl,rfl⟩),g.rv,g.rd,g.en,g.gu,g.vu,g.vt,g.cr⟩)
 ·have hx:((P.s i).x id).finish=(P.s i).x id:=by
   unfold SmM.finish
   rw[if_pos h1]
  rw[hx]
  exact h.own_ hid rfl rfl rfl rfl rfl (h.dir i id hid.1)
theorem Inv.giveUp {P:PrM}{D one many:Int}{n:Nat}{i:Bool}{id c:Int}(h:Inv P D one many n)(hid:(P.s i).has id)(hc:c≤4611686018427387903):Inv (P.set2 i ((P.s i).put id (((P.s i).x id).giveUp c)) (P.s (!i))) D one many n:=by
 obtain⟨e1,e2,e3,e4,e5,e6⟩:=giveUp_same (x:=(P.s i).x id) (c:=c)
 exact h.own_ hid e1 e2 e3 e4 e6 ((h.dir i id hid.1).giveUp hc)
theorem Inv.unwant {P:PrM}{D one many:Int}{n:Nat}{i:Bool}{id c:Int}(h:Inv P D one many n)(hid:(P.s i).has id):Inv (P.set2 i ((P.s i).put id (((P.s i).x id).unwant c)) (P.s (!i))) D one many n:=by
 have e:∀x:SmM,(x.unwant c).got=x.got∧(x.unwant c).giv=x.giv∧(x.unwant c).recv=x.recv∧(x.unwant c).inn=x.inn∧(x.unwant c).counted=x.counted∧(x.unwant c).send=x.send∧(x.unwant c).out=x.out∧(x.unwant c).resets=x.resets:=fun x=>by
  unfold SmM.unwant
  split<;>exact⟨rfl,rfl,rfl,rfl,rfl,rfl,rfl,rfl⟩
 obtain⟨e1,e2,e3,e4,e5,e6,e7,e8⟩:=e ((P.s i).x id)
 exact h.own_ hid e1 e2 e3 e4 e5 ((h.dir i id hid.1).alike ⟨e6,e7,e1,fun _=>e8,rfl,rfl,rfl⟩)
end Go.Proofs.YtnlaffkihohfkaaGreat
namespace Go.Proofs.YtnlaffkihohfkaaGreat
open Go Go.Sl Go.Proofs
variable {B:Nat}{w0:World}{G:List Hp}{R:Hp→List Hp}
theorem SdM.settle_put {A:SdM}{id:Int}{x:SmM}:(A.put id x).settle id x=A.settle id x:=by
 unfold SdM.settle
 have e1:(A.put id x).mine id=A.mine id:=rfl
 rw[e1,SdM.put_put,SdM.put_put]
 rfl
theorem SdM.settle_giv {A:SdM}{id:Int}{x:SmM}:(A.settle id x).giv=A.giv:=by
 unfold SdM.settle;split
 ·rw[SdM.setK_giv];rfl
 ·rfl
theorem SdM.settle_got {A:SdM}{id:Int}{x:SmM}:(A.settle id x).got=A.got:=by
 unfold SdM.settle;split
 ·rw[SdM.setK_got];rfl
 ·rfl
theorem Inv.heard {P:PrM}{D one many:Int}{n:Nat}{i:Bool}{id:Int}(h:Inv P D one many n)(hid:(P.s i).has id)(h1:((P.s i).x id).recv=4):Inv (P.set2 i ((P.s i).settle id ((P.s i).x id).heard) (P.s (!i))) D one many n:=by
 have hd:=h.dir' i hid.1
 refine h.both hid (Upd.settle rfl rfl (by unfold tkS;rw[if_pos (.inr rfl),if_pos (.inl h1)];rfl) rfl) Upd.refl (fun k hk=>settle_came hk) (Dir.fin ((h.dir i id hid.1).alike ⟨rfl,rfl,rfl,fun _=>rfl,rfl,rfl,rfl⟩)) (Dir.fin2 ?_) (by rw[SdM.settle_got];exact h.cr i) (by rw[SdM.settle_giv];exact h.cr' i)
 rcases hd with⟨k,r,f,g⟩|⟨r,g⟩|⟨k,r,f,g⟩|g
 ·have:=g.rv;omega
 ·have:=g.rv;omega
 ·exact .inr (.inr (.inl ⟨k,r,f,g.out,g.inn,g.hk,g.hr,g.st,.inr rfl,g.rd,g.en,g.gu,g.vu,g.gl,g.vl⟩))
 ·have:=g.rv;omega
def SdM.readN (A:SdM)(id:Int)(m:InM)(n:Nat):SdM:=
 if m.allAt n=true then ({A with giv:=A.giv.take n}:SdM).settle id ((A.x id).offG m n).over else ({A with giv:=A.giv.take n}:SdM).put id ((A.x id).offG m n)
theorem Inv.read {P:PrM}{D one many:Int}{n:Nat}{i:Bool}{id mn:Int}(h:Inv P D one many n)(hid:(P.s i).has id)(h1:((P.s i).x id).recv=1∨((P.s i).x id).recv=2)(hmn:0≤mn):
  ∃m,((P.s i).x id).inn=some m∧m.WF∧(m.off (m.many mn)).WF∧∃E,(E=(P.en i id||m.allAt (m.many mn)))∧Inv ((P.set2 i ((P.s i).readN id m (m.many mn)) (P.s (!i))).setR i id (P.rd i id++m.bytes (m.many mn)) E) D one many n:=by
 have hW:=h.wl60 (a:=!i) hid
 have hd:=h.dir' i hid.1
 have hcr:=h.cr' i
 have ha:=hcr.a;have hb:=hcr.b;have hcc:=hcr.c;have hn:=hcr.n;have hh:=hcr.h;have hff:=hcr.f
 obtain⟨b0,b1⟩:=h.has_lt hid
 -- both kinds at once
 have fin:∀(k r:Nat) (kn:Bool) (fi:Int),r≤k→k≤(P.wr (!i) id).length→(kn=true→fi=k)→((P.s i).x id).inn=some (inG (P.wr (!i) id) r k kn fi)→P.rd i id=(P.wr (!i) id).take r→((P.s i).x id).giv.used=k→((P.s i).x id).recv=(if kn=true then 2 else 1)→P.en i id=false→tkS ((P.s i).x id)=r→(kn=false→((P.s i).x id).giv.taken=r)→
   (∀(q:Nat) (x':SmM),r+q≤k→q=(inG (P.wr (!i) id) r k kn fi).many mn→x'.recv=(if (kn&&decide ((r:Int)+q=fi))=true then 3 else ((P.s i).x id).recv)→x'.inn=some (inG (P.wr (!i) id) (r+q) k kn fi)→x'.giv=(if kn=true then ((P.s i).x id).giv else ((P.s i).x id).giv.take q)→Dir ((P.s (!i)).x id) x' (P.wr (!i) id) ((P.wr (!i) id).take (r+q)) (kn&&decide ((r:Int)+q=fi)))→
   ∃m,((P.s i).x id).inn=some m∧m.WF∧(m.off (m.many mn)).WF∧∃E,(E=(P.en i id||m.allAt (m.many mn)))∧Inv ((P.set2 i ((P.s i).readN id m (m.many mn)) (P.s (!i))).setR i id (P.rd i id++m.bytes (m.many mn)) E) D one many n:=by
  intro k r kn fi g1 g2 g3 g4 g5 g6 g7 g8 g9 g10 hdir
  have hfi:kn=true→(k:Int)≤fi∧fi≤4611686018427387903:=fun e=>by rw[g3 e];omega
  have hq:=inG_many (many:=mn) g1 g2 hW hfi
  have hmw:=inG_wf (t:=P.wr (!i) id) g1 g2 hW hfi
  generalize hqq:(inG (P.wr (!i) id) r k kn fi).many mn=q at hq
  have hqk:r+q≤k:=by omega
  have hoff:=inG_off (t:=P.wr (!i) id) (r:=r) (k:=k) (n:=q) (kn:=kn) (fi:=fi) g2 hW hqk
  have hby:=inG_bytes (t:=P.wr (!i) id) (r:=r) (k:=k) (n:=q) (kn:=kn) (fi:=fi) g2 hqk
  have hall:(inG (P.wr (!i) id) r k kn fi).allAt q=(kn&&decide ((r:Int)+q=fi)):=rfl
  have htk:(P.wr (!i) id).take r++((P.wr (!i) id).drop r).take q=(P.wr (!i) id).take (r+q):=by
   rw[List.take_add]
  refine⟨_,g4,hmw,by rw[hqq,hoff];exact inG_wf zom g2 hW hfi,_,rfl,?_⟩
  rw[hqq,hby,g5,htk,g8,Bool.false_or,hall]
  have ei:((((P.s i).x id).offG (inG (P.wr (!i) id) r k kn fi) q)).inn=some (inG (P.wr (!i) id) (r+q) k kn fi):=by
   unfold SmM.offG;split<;>(rw[←hoff])
  have eg:((((P.s i).x id).offG (inG (P.wr (!i) id) r k kn fi) q)).giv=(if kn=true then ((P.s i).x id).giv else ((P.s i).x id).giv.take q):=by
   unfold SmM.offG
   cases kn with
   |true=>rw[if_neg (by rw[g7];decide),if_pos rfl]
   |false=>rw[if_pos (by rw[g7];decide),if_neg (by decide)]
  have er:((((P.s i).x id).offG (inG (P.wr (!i) id) r k kn fi) q)).recv=((P.s i).x id).recv:=by unfold SmM.offG;split<;>rfl
  have es:((((P.s i).x id).offG (inG (P.wr (!i) id) r k kn fi) q)).send=((P.s i).x id).send∧((((P.s i).x id).offG (inG (P.wr (!i) id) r k kn fi) q)).out=((P.s i).x id).out∧((((P.s i).x id).offG (inG (P.wr (!i) id) r k kn fi) q)).got=((P.s i).x id).got∧((((P.s i).x id).offG (inG (P.wr (!i) id) r k kn fi) q)).resets=((P.s i).x id).resets∧((((P.s i).x id).offG (inG (P.wr (!i) id) r k kn fi) q)).counted=((P.s i).x id).counted:=by unfold SmM.offG;split<;>exact⟨rfl,rfl,rfl,rfl,rfl⟩
  obtain⟨s1,s2,s3,s4,s5⟩:=es
  have hu0:((((P.s i).x id).offG (inG (P.wr (!i) id) r k kn fi) q)).giv.used=((P.s i).x id).giv.used:=by
   rw[eg];split<;>rfl
  have hT:=h.roomT (i:=i) ⟨b0,b1⟩ (a:=(k:Int)) (b:=((r+q:Nat):Int)) zom
  rw[g9,g6]at hT
  have hfew:=h.few (i:=!i)
  have tk:=GivM.take_eq (v:=(P.s i).giv) (n:=q) zom zom zom zom zom
  have tkx:tkS (((P.s i).x id).offG (inG (P.wr (!i) id) r k kn fi) q)=r+q:=by
   unfold tkS SmM.read
   rw[er,if_neg (by rw[g7];split<;>omega),ei]
   show ((r+q:Nat):Int)=_
   omega
  have tko:tkS (((P.s i).x id).offG (inG (P.wr (!i) id) r k kn fi) q).over=r+q:=by
   unfold tkS SmM.read
   rw[if_neg (by show ¬((3:Int)=4∨(3:Int)=5);decide)]
   show rdO (((P.s i).x id).offG (inG (P.wr (!i) id) r k kn fi) q).inn=_
   rw[ei]
   show ((r+q:Nat):Int)=_
   omega
  have c2:Cr (P.s (!i)).got ((P.s i).giv.take q):=hcr.take zom zom
  unfold SdM.readN
  rw[hall]
  have wr0:∀(A:SdM) (Rd:List UInt8) (E:Bool),sumTo (fun j=>(((P.set2 i A (P.s (!i))).setR i id Rd E).wr false j).length) NS+sumTo (fun j=>(((P.set2 i A (P.s (!i))).setR i id Rd E).wr true j).length) NS≤100*n:=fun _ _ _=>h.wl
  have ss:∀(A:SdM) (Rd:List UInt8) (E:Bool),((P.set2 i A (P.s (!i))).setR i id Rd E).s i=A∧((P.set2 i A (P.s (!i))).setR i id Rd E).s (!i)=P.s (!i)∧((P.set2 i A (P.s (!i))).setR i id Rd E).rd i id=Rd∧((P.set2 i A (P.s (!i))).setR i id Rd E).en i id=E∧(∀j,((P.set2 i A (P.s (!i))).setR i id Rd E).rd (!i) j=P.rd (!i) j)∧(∀j,((P.set2 i A (P.s (!i))).setR i id Rd E).en (!i) j=P.en (!i) j):=fun A Rd E=>⟨PrM.set2_i (P:=P),PrM.set2_n (P:=P),if_pos ⟨rfl,rfl⟩,if_pos ⟨rfl,rfl⟩,fun j=>if_neg fun e=>not_ne i e.1,fun j=>if_neg fun e=>not_ne i e.1⟩
  by_cases hal:(kn&&decide ((r:Int)+q=fi))=true
  ·have hkn:kn=true:=by
    cases kn with
    |true=>rfl
    |false=>cases hal
   rw[if_pos hal]
   obtain⟨q1,q2,q3,q4,q5,q6⟩:=ss (({P.s i with giv:=(P.s i).giv.take q}:SdM).settle id (((P.s i).x id).offG (inG (P.wr (!i) id) r k kn fi) q).over) ((P.wr (!i) id).take (r+q)) (kn&&decide ((r:Int)+q=fi))
   have hA:Upd (P.s i) (({P.s i with giv:=(P.s i).giv.take q}:SdM).settle id (((P.s i).x id).offG (inG (P.wr (!i) id) r k kn fi) q).over) id ((((P.s i).x id).offG (inG (P.wr (!i) id) r k kn fi) q).over.fin ((P.s i).mine id)):=by
    have u1:Upd (P.s i) ((P.s i).put2 id (((P.s i).x id).offG (inG (P.wr (!i) id) r k kn fi) q).over ((P.s i).giv.take q) (P.s i).got) id (((P.s i).x id).offG (inG (P.wr (!i) id) r k kn fi) q).over:=by
     refine Upd.put2 ?_ ?_ ?_ ?_ ?_
     ·show _=(P.s i).got.used+((((P.s i).x id).offG (inG (P.wr (!i) id) r k kn fi) q).got.used-((P.s i).x id).got.used)
      rw[s3];omega
     ·show _=(P.s i).giv.used+((((P.s i).x id).offG (inG (P.wr (!i) id) r k kn fi) q).giv.used-((P.s i).x id).giv.used)
      rw[hu0,tk];dsimp only;omega
     ·rw[tko,g9,tk];dsimp only;omega
     ·rw[tk]
     ·unfold cS
      show (if (((P.s i).x id).offG (inG (P.wr (!i) id) r k kn fi) q).counted=true then (1:Int) else 0)=_
      rw[s5]
    have e:((P.s i).put2 id (((P.s i).x id).offG (inG (P.wr (!i) id) r k kn fi) q).over ((P.s i).giv.take q) (P.s i).got)=({P.s i with giv:=(P.s i).giv.take q}:SdM).put id (((P.s i).x id).offG (inG (P.wr (!i) id) r k kn fi) q).over:=rfl
    rw[e]at u1
    have u2:=u1.trans (Upd.settle (A:=({P.s i with giv:=(P.s i).giv.take q}:SdM).put id (((P.s i).x id).offG (inG (P.wr (!i) id) r k kn fi) q).over) (id:=id) (x':=(((P.s i).x id).offG (inG (P.wr (!i) id) r k kn fi) q).over) (by rw[SdM.put_x]) (by rw[SdM.put_x]) (by rw[SdM.put_x]) (by rw[SdM.put_x]))
    rw[SdM.settle_put]at u2
    exact u2
   refine h.one_ (i:=i) (id:=id) (x':=(((P.s i).x id).offG (inG (P.wr (!i) id) r k kn fi) q).over.fin ((P.s i).mine id)) hid ?_ q2 ?_ ?_ ?_ ?_ ?_ ?_ ⟨Nat.le_refl _,h.nb.1⟩ (wr0 _ _ _)
   ·rw[q1];exact hA
   ·rw[q1];exact fun k hk=>settle_came hk
   ·exact fun a j hj=>⟨rfl,if_neg fun e=>hj e.2,if_neg fun e=>hj e.2⟩
   ·rw[q5,q6]
    exact Dir.fin ((h.dir i id hid.1).alike ⟨s1,s2,s3,fun _=>s4,rfl,rfl,rfl⟩)
   ·rw[q3,q4]
    refine Dir.fin2 (hdir q _ hqk hqq.symm ?_ ei eg)
    rw[if_pos hal];rfl
   ·rw[q1,SdM.settle_got]
   ·rw[q1,SdM.settle_giv];exact c2
  ·rw[if_neg hal]
   obtain⟨q1,q2,q3,q4,q5,q6⟩:=ss (({P.s i with giv:=(P.s i).giv.take q}:SdM).put id (((P.s i).x id).offG (inG (P.wr (!i) id) r k kn fi) q)) ((P.wr (!i) id).take (r+q)) (kn&&decide ((r:Int)+q=fi))
   have hA:Upd (P.s i) (({P.s i with giv:=(P.s i).giv.take q}:SdM).put id (((P.s i).x id).offG (inG (P.wr (!i) id) r k kn fi) q)) id (((P.s i).x id).offG (inG (P.wr (!i) id) r k kn fi) q):=by
    have u1:Upd (P.s i) ((P.s i).put2 id (((P.s i).x id).offG (inG (P.wr (!i) id) r k kn fi) q) ((P.s i).giv.take q) (P.s i).got) id (((P.s i).x id).offG (inG (P.wr (!i) id) r k kn fi) q):=by
     refine Upd.put2 ?_ ?_ ?_ ?_ ?_
     ·rw[s3];omega
     ·rw[hu0,tk];dsimp only;omega
     ·rw[tkx,g9,tk];dsimp only;omega
     ·rw[tk]
     ·unfold cS;rw[s5]
    exact u1
   refine h.one_ (i:=i) (id:=id) (x':=((P.s i).x id).offG (inG (P.wr (!i) id) r k kn fi) q) hid ?_ q2 ?_ ?_ ?_ ?_ ?_ ?_ ⟨Nat.le_refl _,h.nb.1⟩ (wr0 _ _ _)
   ·rw[q1];exact hA
   ·rw[q1];exact fun k hk=>rfl
   ·exact fun a j hj=>⟨rfl,if_neg fun e=>hj e.2,if_neg fun e=>hj e.2⟩
   ·rw[q5,q6]
    exact(h.dir i id hid.1).alike ⟨s1,s2,s3,fun _=>s4,rfl,rfl,rfl⟩
   ·rw[q3,q4]
    refine hdir q _ hqk hqq.symm ?_ ei eg
    rw[if_neg hal];exact er
   ·rw[q1];rfl
   ·rw[q1];exact c2
 rcases hd with⟨k,r,f,g⟩|⟨r,g⟩|⟨k,r,f,g⟩|g
 ·refine fin k r false 0 g.hr g.hk (fun e=>by cases e) g.inn g.rd g.vu g.rv g.en (by unfold tkS SmM.read;rw[if_neg (by have:=g.rv;omega),g.inn];rfl) (fun _=>g.vt) fun q x' h2 h3 h4 h5 h6=>.inl ⟨k,r+q,f,g.out,h5,g.hk,h2,g.st,?_,rfl,rfl,g.gu,?_,?_,?_⟩
  ·rw[h4];exact g.rv
  ·rw[h6];exact g.vu
  ·have hvu:=g.vu;have hvt:=g.vt;have hgn:=g.cr.n;have hgf:=g.cr.f
   rw[h6,if_neg (by decide),GivM.take_eq zom zom zom zom zom]
   dsimp only
   omega
  ·have hvu:=g.vu;have hvt:=g.vt
   rw[h6,if_neg (by decide)]
   exact g.cr.take zom zom
 ·rcases g.rv with⟨r1,r2⟩|⟨r1,_⟩
  ·refine fin (P.wr (!i) id).length r true ((P.wr (!i) id).length:Nat) g.hr (Nat.le_refl _) (fun _=>rfl) g.inn g.rd g.vu r1 r2 (by unfold tkS SmM.read;rw[if_neg zom,g.inn];rfl) (fun e=>by cases e) fun q x' h2 h3 h4 h5 h6=>.inr (.inl ⟨r+q,g.out,h5,h2,g.st,?_,rfl,g.gu,?_,?_,g.gl,?_,?_⟩)
   ·rw[h4,Bool.true_and]
    by_cases hz:(r:Int)+q=((P.wr (!i) id).length:Nat)
    ·rw[decide_eq_true hz,if_pos rfl]
     exact .inr ⟨rfl,rfl,by omega⟩
    ·rw[decide_eq_false hz,if_neg (by decide)]
     exact .inl ⟨r1,rfl⟩
   ·rw[h6,if_pos rfl];exact g.vu
   ·rw[h6,if_pos rfl];have:=g.vt;omega
   ·rw[h6,if_pos rfl];exact g.vl
   ·rw[h6,if_pos rfl];exact g.va
  ·omega
 ·have:=g.rv;omega
 ·have:=g.rv;omega
end Go.Proofs.YtnlaffkihohfkaaGreat
namespace Go.Sl
theorem mem_cnt' {p:Nat×Obj}{l:Hp}(h:p∈l):0<cnt p l:=by
 unfold cnt
 exact List.countP_pos_iff.2 ⟨p,h,by simp⟩
theorem look_some_mem {m:List (Int×Value)}(hn:(m.map (·.1)).Nodup){p:Int×Value}(h:p∈m):Go.Sl.look m p.1=some p.2:=(look_mem hn).2 h
end Go.Sl
namespace Go.Proofs.YtnlaffkihohfkaaGreat
open Go Go.Sl Go.Proofs
variable {B:Nat}{w0:World}{G:List Hp}{R:Hp→List Hp}
structure BmE where
 k:Int
 ao:Option Addr
 cap:Nat
 c:Hp
def BmAt (f:Int→List UInt8)(b:Nat)(c:Hp):Prop:=∃(g:Int→Option Value) (cm:Hp) (L:List BmE),c=cm++(L.map (·.c)).flatten∧MapG .u64 g b cm∧(L.map (·.k)).Nodup∧(∀e∈L,0≤e.k)∧(∀e∈L,g e.k=some (.slice e.ao (f e.k).length e.cap)∧Ls enB 5 (.slice e.ao (f e.k).length e.cap) e.c (f e.k))∧∀k,k∉L.map (·.k)→g k=none∧f k=[]
theorem BmAt.new {b:Nat}{c:Hp}(h:MapG .u64 (fun _=>none) b c):BmAt (fun _=>[]) b c:=⟨_,c,[],by simp,h,by simp,(fun e he=>by cases he),(fun e he=>by cases he),(fun k _=>⟨rfl,rfl⟩)⟩
theorem BmAt.focus {f:Int→List UInt8}{b:Nat}{c:Hp}(h:BmAt f b c)(k:Int)(h0:0≤k):∃(g:Int→Option Value) (cm ck cr:Hp) (ao:Option Addr) (cap:Nat),(∀z,cnt z c=cnt z cm+(cnt z ck+cnt z cr))∧MapG .u64 g b cm∧(g k).getD (.slice none 0 0)=.slice ao (f k).length cap∧Ls enB 5 (.slice ao (f k).length cap) ck (f k)∧
  ∀(l':List UInt8) (ao':Option Addr) (cap':Nat) (cm' ck':Hp),MapG .u64 (fun j=>if j=k then some (.slice ao' l'.length cap') else g j) b cm'→Ls enB 5 (.slice ao' l'.length cap') ck' l'→∃c',BmAt (fun j=>if j=k then l' else f j) b c'∧∀z,cnt z c'=cnt z cm'+(cnt z ck'+cnt z cr):=by
 obtain⟨g,cm,L,rfl,hM,hn,hk0,hL,hno⟩:=h
 by_cases hk:k∈L.map (·.k)
 ·obtain⟨e,he,rfl⟩:=List.mem_map.1 hk
  obtain⟨L1,L2,rfl⟩:=List.append_of_mem he
  obtain⟨h1,h2⟩:=hL e he
  have hne:∀x∈L1++L2,x.k≠e.k:=fun x hx hxe=>by
   rw[List.map_append,List.map_cons]at hn
   rcases List.mem_append.1 hx with hx|hx
   ·exact(List.nodup_append.1 hn).2.2 x.k (List.mem_map.2 ⟨x,hx,rfl⟩) e.k (List.mem_cons_self ..) hxe
   ·exact(List.nodup_cons.1 (List.nodup_append.1 hn).2.1).1 (by rw[←hxe];exact List.mem_map.2 ⟨x,hx,rfl⟩)
  refine⟨g,cm,e.c,(L1.map (·.c)).flatten++(L2.map (·.c)).flatten,e.ao,e.cap,fun z=>?_,hM,by rw[h1];rfl,h2,fun l' ao' cap' cm' ck' hM' hL'=>⟨cm'++((L1++(⟨e.k,ao',cap',ck'⟩:BmE)::L2).map (·.c)).flatten,⟨_,cm',_,rfl,hM',?_,fun x hx=>?_,fun x hx=>?_,fun j hj=>?_⟩,fun z=>?_⟩⟩
  ·simp only[List.map_append,List.map_cons,List.flatten_append,List.flatten_cons,cnt_append]
   omega
  ·rw[List.map_append,List.map_cons]at hn⊢
   exact hn
  ·rcases List.mem_append.1 hx with hx|hx
   ·exact hk0 x (List.mem_append_left _ hx)
   ·rcases List.mem_cons.1 hx with rfl|hx
    ·exact h0
    ·exact hk0 x (List.mem_append_right _ (List.mem_cons_of_mem _ hx))
  ·rcases List.mem_append.1 hx with hx|hx
   ·have hxe:=hne x (List.mem_append_left _ hx)
    dsimp only
    rw[if_neg hxe,if_neg hxe]
    exact hL x (List.mem_append_left _ hx)
   ·rcases List.mem_cons.1 hx with rfl|hx
    ·dsimp only
     rw[if_pos rfl,if_pos rfl]
     exact⟨rfl,hL'⟩
    ·have hxe:=hne x (List.mem_append_right _ hx)
     dsimp only
     rw[if_neg hxe,if_neg hxe]
     exact hL x (List.mem_append_right _ (List.mem_cons_of_mem _ hx))
  ·rw[List.map_append,List.map_cons]at hj
   have hje:j≠e.k:=fun e1=>hj (by rw[e1];exact List.mem_append_right _ (List.mem_cons_self ..))
   dsimp only
   rw[if_neg hje,if_neg hje]
   exact hno j (by rw[List.map_append,List.map_cons];exact hj)
  ·simp only[List.map_append,List.map_cons,List.flatten_append,List.flatten_cons,cnt_append]
   omega
 ·obtain⟨h1,h2⟩:=hno k hk
  refine⟨g,cm,[],(L.map (·.c)).flatten,none,0,fun z=>?_,hM,by rw[h1,h2];rfl,by rw[h2];exact Ls.nil,fun l' ao' cap' cm' ck' hM' hL'=>⟨cm'++(((⟨k,ao',cap',ck'⟩:BmE)::L).map (·.c)).flatten,⟨_,cm',_,rfl,hM',?_,fun x hx=>?_,fun x hx=>?_,fun j hj=>?_⟩,fun z=>?_⟩⟩
  ·simp only[cnt_append,cnt_nil]
   omega
  ·exact List.nodup_cons.2 ⟨hk,hn⟩
  ·rcases List.mem_cons.1 hx with rfl|hx
   ·exact h0
   ·exact hk0 x hx
  ·rcases List.mem_cons.1 hx with rfl|hx
   ·dsimp only
    rw[if_pos rfl,if_pos rfl]
    exact⟨rfl,hL'⟩
   ·have hxe:x.k≠k:=fun e1=>hk (by rw[←e1];exact List.mem_map.2 ⟨x,hx,rfl⟩)
    dsimp only
    rw[if_neg hxe,if_neg hxe]
    exact hL x hx
  ·rw[List.map_cons]at hj
   have hje:j≠k:=fun e1=>hj (by rw[e1];exact List.mem_cons_self ..)
   dsimp only
   rw[if_neg hje,if_neg hje]
   exact hno j fun hm=>hj (List.mem_cons_of_mem _ hm)
  ·simp only[List.map_cons,List.flatten_cons,cnt_append]
theorem BmAt.look {f:Int→List UInt8}{b:Nat}{c:Hp}{G:List Hp}(h:BmAt f b c)(hs:Sub c G)(k:Int)(h0:0≤k):∃(g:Int→Option Value) (cm ck:Hp) (ao:Option Addr) (cap:Nat),Sub cm G∧Sub ck G∧MapG .u64 g b cm∧(g k).getD (.slice none 0 0)=.slice ao (f k).length cap∧Ls enB 5 (.slice ao (f k).length cap) ck (f k):=by
 obtain⟨g,cm,ck,cr,ao,cap,h1,h2,h3,h4,_⟩:=h.focus k h0
 refine⟨g,cm,ck,ao,cap,fun z hz=>hs z (cnt_pos ?_),fun z hz=>hs z (cnt_pos ?_),h2,h3,h4⟩
 ·have:=mem_cnt' hz;have:=h1 z;omega
 ·have:=mem_cnt' hz;have:=h1 z;omega
theorem BmAt.range {f:Int→List UInt8}{b:Nat}{c:Hp}{G:List Hp}(h:BmAt f b c)(hs:Sub c G):∃(m:List (Int×Value)) (cm:Hp),Sub cm G∧MapV .u64 m (.map (some b)) cm∧∀p∈m,0≤p.1∧∃(ao:Option Addr) (cap:Nat) (ck:Hp),p.2=.slice ao (f p.1).length cap∧Sub ck G∧Ls enB 5 (.slice ao (f p.1).length cap) ck (f p.1):=by
 obtain⟨g,cm,L,rfl,hM,hn,hk0,hL,hno⟩:=h
 obtain⟨m,hR,hf⟩:=hM
 have hnd:(m.map (·.1)).Nodup:=by
  obtain⟨es,clock,_,_,hn,_⟩:=hR
  exact hn
 refine⟨m,cm,hs.left,.inr ⟨b,rfl,hR⟩,fun p hp=>?_⟩
 have h1:g p.1=some p.2:=(hf p.1).symm.trans (look_some_mem hnd hp)
 have hk:p.1∈L.map (·.k):=Classical.byContradiction fun hk=>by
  rw[(hno _ hk).1]at h1
  cases h1
 obtain⟨e,he,hek⟩:=List.mem_map.1 hk
 obtain⟨h2,h3⟩:=hL e he
 have hek':e.k=p.1:=hek
 rw[hek']at h2 h3
 rw[h1]at h2
 refine⟨hek' ▸ hk0 e he,e.ao,e.cap,e.c,Option.some.inj h2,fun z hz=>hs z (List.mem_append_right _ ?_),h3⟩
 exact List.mem_flatten.2 ⟨e.c,List.mem_map.2 ⟨e,he,rfl⟩,hz⟩
def BlAt (f:Int→Bool)(b:Nat)(c:Hp):Prop:=∃g:Int→Option Value,MapG .u64 g b c∧∀k,(g k).getD (.bool false)=.bool (f k)
theorem BlAt.new {b:Nat}{c:Hp}(h:MapG .u64 (fun _=>none) b c):BlAt (fun _=>false) b c:=⟨_,h,fun _=>rfl⟩
theorem v_bytes {N:Nat}{B:Nat}{w0:World}{G:List Hp}{E:Env}{ty:TypeId}{x y:Operand}{b:Nat}{k:Int}{g:Int→Option Value}{c:Hp}{v:Value}(hx:Env.ev E x=some (.map (some b)))(hy:Env.ev E y=some (.int .u64 k))(hs:Sub c G)(hM:MapG .u64 g b c)(hf:(g k).getD (.slice none 0 0)=v):OpV Tryz.prog (St B w0 G) N E (.lookup 37 x y false) ty v:=by
 have h:=v_lookupM0 (P:=Tryz.prog) (B:=B) (w0:=w0) (G:=G) (N:=N) (E:=E) (ty:=ty) (T:=37) (z:=.slice none 0 0) Tryz.underlying37 Tryz.underlying27 (fun w=>by kernel_rfl) hx hy hs hM.f
 rwa [hf]at h
theorem v_bools {N:Nat}{B:Nat}{w0:World}{G:List Hp}{E:Env}{ty:TypeId}{x y:Operand}{b:Nat}{k:Int}{f:Int→Bool}{c:Hp}(hx:Env.ev E x=some (.map (some b)))(hy:Env.ev E y=some (.int .u64 k))(hs:Sub c G)(hM:BlAt f b c):OpV Tryz.prog (St B w0 G) N E (.lookup 39 x y false) ty (.bool (f k)):=by
 obtain⟨g,hM,hf⟩:=hM
 have h:=v_lookupM0 (P:=Tryz.prog) (B:=B) (w0:=w0) (G:=G) (N:=N) (E:=E) (ty:=ty) (T:=39) (z:=.bool false) Tryz.underlying39 Tryz.underlying27 (fun w=>by kernel_rfl) hx hy hs hM.f
 rwa [hf]at h
end Go.Proofs.YtnlaffkihohfkaaGreat
namespace Go.Proofs.YtnlaffkihohfkaaGreat
open Go Go.Sl Go.Proofs
variable {B:Nat}{w0:World}{G:List Hp}{R:Hp→List Hp}
def SsM.new (cl:Bool)(d:Int)(own:LimM)(bi un:Int):SsM:=⟨GivM.new d,got0,cl,own,⟨0,0,0⟩,[],[],[],⟨0,0,0,bi,bi⟩,⟨0,0,0,un,un⟩⟩
theorem b_two {x y:Int}:Build Tryz.prog 71 #[(0,.int .u64 x),(1,.int .u64 y)] (.agg [Value.int .u64 x,.int .u64 y].toArray):=fun w=>by kernel_rfl
theorem b_ssNew {g:GivM}{cl:Bool}{own:LimM}{bm:Nat}{bi un:Int}:Build Tryz.prog 73 #[(0,.agg g.cells.toArray),(2,.bool cl),(3,.agg own.cells.toArray),(5,.map (some bm)),(10,.agg [Value.int .u64 bi,.int .u64 un].toArray),(11,.agg [Value.int .u64 bi,.int .u64 un].toArray)] (.agg (SsM.cells ⟨g,got0,cl,own,⟨0,0,0⟩,[],[],[],⟨0,0,0,bi,bi⟩,⟨0,0,0,un,un⟩⟩ ⟨bm,none,0,none,0⟩).toArray):=fun w=>by kernel_rfl
set_option maxHeartbeats 4000000 in
theorem ssNew_c {cl:Bool}{d bi un:Int}{own:LimM}(hd:0≤d∧d≤18446744073709551615):
  Go.Sl.Fn Tryz.prog 15 #[.bool cl,.int .u64 d,.agg own.cells.toArray,.int .u64 bi,.int .u64 un] B w0 G fun u G'=>∃y:Nat×Hp,u=.pointer (some ⟨y.1,0,none⟩)∧SsAt (SsM.new cl d own bi un) [] y.1 y.2∧G'=[y.2]++G:=by
 refine Fn.new ?_
 refine fn_enter Tryz.func15 rfl (by kernel_rfl) Tryz.ntmps15 (by simp) ?_
 refine qs<|ow_box rfl rfl rfl rfl fun b7=>qa<|qt<|cw_seq<|cw_any Ty.mixed<|aw_pure 0 rfl zdk rfl rfl (v_move rfl) rfl<|aw_pure 2 rfl zdk rfl rfl (v_move rfl) rfl<|aw_pure 5 rfl zdk rfl rfl (v_move rfl) rfl<|aw_pure 6 rfl zdk rfl rfl (v_move rfl) rfl<|aw_pure 7 rfl zdk rfl rfl (v_build rfl (b_two)) rfl<|aw_pure 8 rfl zdk rfl rfl (v_move rfl) rfl ?_
 refine aw_pure 9 rfl zdk rfl rfl (v_move rfl) rfl<|aw_pure 10 rfl zdk rfl rfl (v_build rfl (b_two)) rfl ?_
 refine aw_step3 1 3 4 zdk rfl rfl rfl ?_ ?_ ?_
 refine qv (v_call rfl rfl (givNew_c hd))<|qx ?_
 refine aw_step2 3 4 zdk rfl rfl ?_ ?_
 refine ql (Var.atN Ty.ag59 .here GetN.all zra)<|qx<|aw_step1 4 zdk rfl ?_
 (refine ow_makeMapG (kd:=.u64) rfl rfl ?_;intro b15 c15 hm15)
 refine qx<|aw_pure 11 rfl zdk rfl rfl (v_build rfl (b_ssNew)) rfl<|aw_step1 12 zdk rfl<|ow_box rfl rfl rfl rfl fun b23=>qx<|aw_pure 13 rfl zdk rfl rfl (v_assign rfl) rfl<|aw_end zdk<|xw_np<|xw_then<|cw_ret<|ret1 rfl (res_tmp rfl) ?_
 rotate_left
 (refine ow_makeMapG (kd:=.u64) rfl rfl ?_;intro b15 c15 hm15)
 refine qx<|aw_step1 3 zdk rfl<|ql (Var.atN Ty.ag59 (.there .here) GetN.all zra)<|qx<|aw_pure 11 rfl zdk rfl rfl (v_build rfl (b_ssNew)) rfl<|aw_step1 12 zdk rfl<|ow_box rfl rfl rfl rfl fun b23=>qx<|aw_pure 13 rfl zdk rfl rfl (v_assign rfl) rfl<|aw_end zdk<|xw_np<|xw_then ?_
 refine cw_ret<|ret1 rfl (res_tmp rfl) ?_
 rotate_left
 refine ql (Var.atN Ty.ag59 .here GetN.all zra)<|qx ?_
 refine aw_step2 1 4 zdk rfl rfl ?_ ?_
 refine qv (v_call rfl rfl (givNew_c hd))<|qx<|aw_step1 4 zdk rfl ?_
 (refine ow_makeMapG (kd:=.u64) rfl rfl ?_;intro b15 c15 hm15)
 refine qx<|aw_pure 11 rfl zdk rfl rfl (v_build rfl (b_ssNew)) rfl<|aw_step1 12 zdk rfl<|ow_box rfl rfl rfl rfl fun b23=>qx<|aw_pure 13 rfl zdk rfl rfl (v_assign rfl) rfl<|aw_end zdk<|xw_np<|xw_then<|cw_ret<|ret1 rfl (res_tmp rfl) ?_
 rotate_left
 (refine ow_makeMapG (kd:=.u64) rfl rfl ?_;intro b15 c15 hm15)
 refine qx<|aw_step1 1 zdk rfl<|qv (v_call rfl rfl (givNew_c hd))<|qx<|aw_pure 11 rfl zdk rfl rfl (v_build rfl (b_ssNew)) rfl<|aw_step1 12 zdk rfl<|ow_box rfl rfl rfl rfl fun b23=>qx<|aw_pure 13 rfl zdk rfl rfl (v_assign rfl) rfl<|aw_end zdk<|xw_np<|xw_then ?_
 refine cw_ret<|ret1 rfl (res_tmp rfl) ?_
 rotate_left
 (refine ow_makeMapG (kd:=.u64) rfl rfl ?_;intro b15 c15 hm15)
 refine qx ?_
 refine aw_step2 1 3 zdk rfl rfl ?_ ?_
 refine qv (v_call rfl rfl (givNew_c hd))<|qx<|aw_step1 3 zdk rfl<|ql (Var.atN Ty.ag59 (.there .here) GetN.all zra)<|qx<|aw_pure 11 rfl zdk rfl rfl (v_build rfl (b_ssNew)) rfl<|aw_step1 12 zdk rfl<|ow_box rfl rfl rfl rfl fun b23=>qx<|aw_pure 13 rfl zdk rfl rfl (v_assign rfl) rfl<|aw_end zdk<|xw_np ?_
 refine xw_then<|cw_ret<|ret1 rfl (res_tmp rfl) ?_
 rotate_left
 refine ql (Var.atN Ty.ag59 (.there .here) GetN.all zra)<|qx<|aw_step1 1 zdk rfl<|qv (v_call rfl rfl (givNew_c hd))<|qx<|aw_pure 11 rfl zdk rfl rfl (v_build rfl (b_ssNew)) rfl<|aw_step1 12 zdk rfl<|ow_box rfl rfl rfl rfl fun b23=>qx<|aw_pure 13 rfl zdk rfl rfl (v_assign rfl) rfl<|aw_end zdk<|xw_np ?_
 refine xw_then<|cw_ret<|ret1 rfl (res_tmp rfl) ?_
 rotate_left
 all_goals exact⟨(b23,[(b23,.cells (SsM.cells ⟨GivM.new d,got0,cl,own,⟨0,0,0⟩,[],[],[],⟨0,0,0,bi,bi⟩,⟨0,0,0,un,un⟩⟩ ⟨b15,none,0,none,0⟩).toArray 73 (0,0))]++(c15++([]++([]++[])))),rfl,⟨⟨b15,none,0,none,0⟩,c15,[],[],[],rfl,hm15,Ls.nil,Ls.nil,Strs.nil⟩,zcov⟩
def SmM.waits (x:SmM):Bool:=(x.resets&&decide (x.send=4))||(liveS x.send&&match x.out with
 |none=>false
 |some o=>o.waits||decide (0<o.pend.length))
end Go.Proofs.YtnlaffkihohfkaaGreat
namespace Go.Proofs.YtnlaffkihohfkaaGreat
open Go Go.Sl Go.Proofs
variable {B:Nat}{w0:World}{G:List Hp}{R:Hp→List Hp}
def iv (i:Bool):Int:=if i=true then 1 else 0
theorem iv_b (i:Bool):0≤iv i∧iv i≤1:=by cases i<;>decide
theorem iv_not (i:Bool):1-iv i=iv (!i):=by cases i<;>rfl
def AsAt (A:SdM)(b:Nat)(c:Hp):Prop:=∃(M:SsM) (ps:List Nat),SsAt M ps b c∧M.WF∧M.abs=A
structure PrP where
 s:Bool→Nat
 w:Bool→Nat
 r:Bool→Nat
 e:Bool→Nat
def PrP.cells (p:PrP):List Value:=[.pointer (some ⟨p.s false,0,none⟩),.pointer (some ⟨p.s true,0,none⟩),.map (some (p.w false)),.map (some (p.w true)),.map (some (p.r false)),.map (some (p.r true)),.map (some (p.e false)),.map (some (p.e true)),.bool true]
theorem PrP.gs {p:PrP}{i:Bool}:GetN (.cells p.cells.toArray 42 (0,0)) (0+Int.toNat (iv i)*1) [.pointer (some ⟨p.s i,0,none⟩)]:=by cases i<;>exact GetN.lit rfl
theorem PrP.gw {p:PrP}{i:Bool}:GetN (.cells p.cells.toArray 42 (0,0)) (2+Int.toNat (iv i)*1) [.map (some (p.w i))]:=by cases i<;>exact GetN.lit rfl
theorem PrP.gr {p:PrP}{i:Bool}:GetN (.cells p.cells.toArray 42 (0,0)) (4+Int.toNat (iv i)*1) [.map (some (p.r i))]:=by cases i<;>exact GetN.lit rfl
theorem PrP.ge {p:PrP}{i:Bool}:GetN (.cells p.cells.toArray 42 (0,0)) (6+Int.toNat (iv i)*1) [.map (some (p.e i))]:=by cases i<;>exact GetN.lit rfl
theorem PrP.gn {p:PrP}{i:Bool}:GetN (.cells p.cells.toArray 42 (0,0)) (0+Int.toNat (1-iv i)*1) [.pointer (some ⟨p.s (!i),0,none⟩)]:=by rw[iv_not];exact PrP.gs
theorem PrP.gwn {p:PrP}{i:Bool}:GetN (.cells p.cells.toArray 42 (0,0)) (2+Int.toNat (1-iv i)*1) [.map (some (p.w (!i)))]:=by rw[iv_not];exact PrP.gw
structure PrC where
 s:Bool→Hp
 w:Bool→Hp
 r:Bool→Hp
 e:Bool→Hp
structure PrC.Ok (C:PrC)(P:PrM)(p:PrP):Prop where
 s:∀i,AsAt (P.s i) (p.s i) (C.s i)
 w:∀i,BmAt (P.wr i) (p.w i) (C.w i)
 r:∀i,BmAt (P.rd i) (p.r i) (C.r i)
 e:∀i,BlAt (P.en i) (p.e i) (C.e i)
def PrC.all (C:PrC)(p:PrP)(b:Nat):Hp:=[(b,.cells p.cells.toArray 42 (0,0))]++(C.s false++(C.s true++(C.w false++(C.w true++(C.r false++(C.r true++(C.e false++C.e true)))))))
def PrAt (P:PrM)(p:PrP)(b:Nat)(c:Hp):Prop:=∃C:PrC,C.Ok P p∧c=C.all p b
theorem PrC.cnt_ {C:PrC}{p:PrP}{b:Nat}(i:Bool)(z:Nat×Obj):cnt z (C.all p b)=cnt z [(b,.cells p.cells.toArray 42 (0,0))]+(cnt z (C.s i)+(cnt z (C.s (!i))+(cnt z (C.w i)+(cnt z (C.w (!i))+(cnt z (C.r i)+(cnt z (C.r (!i))+(cnt z (C.e i)+cnt z (C.e (!i))))))))):=by
 unfold PrC.all
 simp only[cnt_append]
 cases i<;>simp only[Bool.not_true,Bool.not_false]<;>omega
def upB {α:Type}(f:Bool→α)(i:Bool)(a:α):Bool→α:=fun j=>if j=i then a else f j
theorem upB_i {α:Type}{f:Bool→α}{i:Bool}{a:α}:upB f i a i=a:=if_pos rfl
theorem upB_n {α:Type}{f:Bool→α}{i:Bool}{a:α}:upB f i a (!i)=f (!i):=if_neg (not_ne i)
theorem PrC.Ok.setS {C:PrC}{P:PrM}{p:PrP}(h:C.Ok P p){i:Bool}{A:SdM}{c:Hp}(hA:AsAt A (p.s i) c):PrC.Ok {C with s:=upB C.s i c} (P.set2 i A (P.s (!i))) p:=
 ⟨bool_two i (by rw[PrM.set2_i];show AsAt A (p.s i) (upB C.s i c i);rw[upB_i];exact hA) (by rw[PrM.set2_n];show AsAt _ _ (upB C.s i c (!i));rw[upB_n];exact h.s _),h.w,h.r,h.e⟩
theorem PrC.Ok.set2 {C:PrC}{P:PrM}{p:PrP}(h:C.Ok P p){i:Bool}{A B:SdM}{c d:Hp}(hA:AsAt A (p.s i) c)(hB:AsAt B (p.s (!i)) d):PrC.Ok {C with s:=upB (upB C.s i c) (!i) d} (P.set2 i A B) p:=
 ⟨bool_two i (by rw[PrM.set2_i];show AsAt A (p.s i) (upB (upB C.s i c) (!i) d i);rw[show upB (upB C.s i c) (!i) d i=c from (if_neg (Ne.symm (not_ne i))).trans upB_i];exact hA) (by rw[PrM.set2_n];show AsAt _ _ (upB (upB C.s i c) (!i) d (!i));rw[upB_i];exact hB),h.w,h.r,h.e⟩
theorem AsAt.of {M:SsM}{ps:List Nat}{A:SdM}{b:Nat}{c:Hp}{i:Nat}{id:Int}(h:SsAt M ps b c)(hm:Made M A i id):AsAt A b c:=⟨M,ps,h,hm.wf,hm.abs⟩
theorem AsAt.look {A:SdM}{b:Nat}{c:Hp}{G:List Hp}(h:AsAt A b c)(hs:Sub c G):∃(M:SsM) (p:SsP),Sub [(b,.cells (M.cells p).toArray 73 (0,0))] G∧M.WF∧M.abs=A:=by
 obtain⟨M,ps,⟨p,cm,cr0,cr1,cs,rfl,_⟩,hw,ha⟩:=h
 exact⟨M,p,hs.left,hw,ha⟩
theorem AsAt.wf_giv {A:SdM}{b:Nat}{c:Hp}(h:AsAt A b c):A.giv.WF∧A.got.WF:=by
 obtain⟨M,ps,_,hw,rfl⟩:=h
 exact⟨hw.giv,hw.got⟩
theorem AsAt.wf_x {A:SdM}{b:Nat}{c:Hp}(h:AsAt A b c){id:Int}(hid:0≤id∧id≤18446744073709551615):(A.x id).WF∧(A.x id).id=id:=by
 obtain⟨M,ps,_,hw,rfl⟩:=h
 exact⟨hw.at_ hid,SsM.at_id⟩
theorem asRead_no_c {A:SdM}{b:Nat}{c:Hp}{id many:Int}(hsel:Sel G c R)(hA:AsAt A b c)(hid:0≤id∧id≤18446744073709551615)(hh:A.has id)(hf:finalS (A.x id).recv=true):
  Go.Sl.Fn Tryz.prog 37 #[.pointer (some ⟨b,0,none⟩),.int .u64 id,.int .i64 many] B w0 G fun u G'=>∃c':Hp,u=.tuple #[.slice none 0 0,.bool false,.int .u64 0,.int .i64 16]∧AsAt A b c'∧G'=R c':=by
 obtain⟨M,ps,hM,hw,rfl⟩:=hA
 refine(readNo_c (x:=M.at id) hsel hM hw hid hh (fun i hi=>?_) hf).mono fun u G' h=>?_
 ·have:=(SsM.touch_made hw hid hh hi).get.1
  exact this
 ·obtain⟨y,rfl,hy,rfl⟩:=h
  obtain⟨i,x,hi,_,_⟩:=SsM.touch_str (M:=M) (id:=id)
  exact⟨y.2,rfl,.of hy (SsM.touch_made hw hid hh hi),rfl⟩
theorem asRead_broken_c {A:SdM}{b:Nat}{c:Hp}{id many:Int}(hsel:Sel G c R)(hA:AsAt A b c)(hid:0≤id∧id≤18446744073709551615)(hh:A.has id)(hr:(A.x id).recv=4)(hg:(A.kd id).giv<4611686018427387903):
  Go.Sl.Fn Tryz.prog 37 #[.pointer (some ⟨b,0,none⟩),.int .u64 id,.int .i64 many] B w0 G fun u G'=>∃c':Hp,u=.tuple #[.slice none 0 0,.bool false,.int .u64 (A.x id).code,.int .i64 19]∧AsAt (A.settle id (A.x id).heard) b c'∧G'=R c':=by
 have hA':=hA
 obtain⟨M,ps,hM,hw,rfl⟩:=hA
 have hxw:=hA'.wf_x hid
 obtain⟨i0,x0,hi0,_,_⟩:=SsM.touch_str (M:=M) (id:=id)
 have hm0:=SsM.touch_made hw hid hh hi0
 have hxid:(M.at id).id=id:=SsM.at_id
 have hkd:(M.touch id).kd (M.at id).id=M.abs.kd id:=by
  rw[hxid]
  have:(M.touch id).abs.kd id=M.abs.kd id:=by rw[hm0.abs]
  exact this
 refine(readBroken_c (x:=M.at id) hsel hM hw hid hh (fun i hi=>(SsM.touch_made hw hid hh hi).get.1) hr (by rw[hxid];exact hid) (by rw[hkd];have:(M.kd id).WF:=hw.kd_;have:=this.giv;exact this)).mono fun u G' h=>?_
 obtain⟨y,rfl,⟨hi,hy⟩,rfl⟩:=h
 have hm:=SsM.touch_made hw hid hh hi
 have hxw':(M.at id).heard.WF:=⟨hxw.1.id,hxw.1.giv,hxw.1.got,hxw.1.reset,hxw.1.stop,hxw.1.code,hxw.1.inn,hxw.1.out,hxw.1.send,⟨⟨fun e=>absurd e (by show (5:Int)≠0;decide),fun e=>by have h2:=hxw.1.recv.1.2 e;rw[hr]at h2;exact absurd h2 (by decide)⟩,by show (0:Int)≤5∧(5:Int)≤5;decide⟩⟩
 exact⟨y.2.2,rfl,.of hy (hm.settle hxw' hxid hg),rfl⟩
theorem asRead_c {A:SdM}{b:Nat}{c:Hp}{id many:Int}{m:InM}(hsel:Sel G c R)(hA:AsAt A b c)(hid:0≤id∧id≤18446744073709551615)(hh:A.has id)(hr:(A.x id).recv=1∨(A.x id).recv=2)(hm:(A.x id).inn=some m)(hg:(A.kd id).giv<4611686018427387903)(hmany:0≤many∧many≤1000000)(hoff:(m.off (m.many many)).WF):
  Go.Sl.Fn Tryz.prog 37 #[.pointer (some ⟨b,0,none⟩),.int .u64 id,.int .i64 many] B w0 G fun u G'=>∃y:Option Addr×Nat×Hp×Hp,u=.tuple #[.slice y.1 (m.bytes (m.many many)).length y.2.1,.bool (m.allAt (m.many many)),.int .u64 0,.int .i64 0]∧(Ls enB 5 (.slice y.1 (m.bytes (m.many many)).length y.2.1) y.2.2.1 (m.bytes (m.many many))∧AsAt (A.readN id m (m.many many)) b y.2.2.2)∧G'=[y.2.2.1]++R y.2.2.2:=by
 have hA':=hA
 obtain⟨M,ps,hM,hw,rfl⟩:=hA
 have hxw:=hA'.wf_x hid
 obtain⟨i0,x0,hi0,_,_⟩:=SsM.touch_str (M:=M) (id:=id)
 have hm0:=SsM.touch_made hw hid hh hi0
 have hxid:(M.at id).id=id:=SsM.at_id
 have hkd:(M.touch id).kd (M.at id).id=M.abs.kd id:=by
  rw[hxid]
  have:(M.touch id).abs.kd id=M.abs.kd id:=by rw[hm0.abs]
  exact this
 have hgiv:(M.touch id).giv=M.giv:=by
  have:(M.touch id).abs.giv=M.abs.giv:=by rw[hm0.abs]
  exact this
 refine(read_c (x:=M.at id) (m:=m) hsel hM hw hid hh (fun i hi=>(SsM.touch_made hw hid hh hi).get.1) hr hm hxw.1 hm0.wf.giv (by rw[hkd];have:(M.kd id).WF:=hw.kd_;have:=this.giv;exact this) hmany).mono fun u G' h=>?_
 obtain⟨y,rfl,⟨hL,hi,hy⟩,rfl⟩:=h
 have hm1:=SsM.touch_made hw hid hh hi
 have hn0:(0:Int)≤(m.many many:Nat):=by omega
 have hxo:((M.at id).offG m (m.many many)).WF∧((M.at id).offG m (m.many many)).id=id:=by
  unfold SmM.offG
  split
  ·exact⟨⟨hxw.1.id,GivM.take_wf hxw.1.giv hn0,hxw.1.got,hxw.1.reset,hxw.1.stop,hxw.1.code,fun m' e=>by cases e;exact hoff,hxw.1.out,hxw.1.send,⟨⟨fun e=>absurd e (by show (M.at id).recv≠0;have:(M.at id).recv=1∨(M.at id).recv=2:=hr;omega),fun e=>by cases e⟩,hxw.1.recv.2⟩⟩,hxid⟩
  ·exact⟨⟨hxw.1.id,hxw.1.giv,hxw.1.got,hxw.1.reset,hxw.1.stop,hxw.1.code,fun m' e=>by cases e;exact hoff,hxw.1.out,hxw.1.send,⟨⟨fun e=>absurd e (by show (M.at id).recv≠0;have:(M.at id).recv=1∨(M.at id).recv=2:=hr;omega),fun e=>by cases e⟩,hxw.1.recv.2⟩⟩,hxid⟩
 have hxv:((M.at id).offG m (m.many many)).over.WF:=⟨hxo.1.id,hxo.1.giv,hxo.1.got,hxo.1.reset,hxo.1.stop,hxo.1.code,hxo.1.inn,hxo.1.out,hxo.1.send,⟨⟨fun e=>absurd e (by show (3:Int)≠0;decide),fun e=>by
  have e2:((M.at id).offG m (m.many many)).inn=none:=e
  have h3:=hxo.1.recv.1.2 e2
  have h4:((M.at id).offG m (m.many many)).recv=(M.at id).recv:=by unfold SmM.offG;split<;>rfl
  have:(M.at id).recv=1∨(M.at id).recv=2:=hr
  omega⟩,by show (0:Int)≤3∧(3:Int)≤5;decide⟩⟩
 have hm2:=hm1.give (g:=M.giv.take (m.many many)) (GivM.take_wf hw.giv hn0)
 have e2:({M.touch id with giv:=M.giv.take (m.many many)}:SsM)=(M.touch id).takeG (m.many many):=by unfold SsM.takeG;rw[hgiv]
 rw[e2]at hm2
 refine⟨(y.1,y.2.1,y.2.2.1,y.2.2.2.2.2),rfl,⟨hL,?_⟩,rfl⟩
 unfold SdM.readN
 unfold SsM.readN at hy
 by_cases hal:m.allAt (m.many many)=true
 ·rw[if_pos hal]at hy⊢
  exact .of hy (hm2.settle hxv hxo.2 hg)
 ·rw[if_neg hal]at hy⊢
  exact .of hy (hm2.put hxo.1 hxo.2)
end Go.Proofs.YtnlaffkihohfkaaGreat
namespace Go.Proofs.YtnlaffkihohfkaaGreat
open Go Go.Sl Go.Proofs
variable {B:Nat}{w0:World}{G:List Hp}{R:Hp→List Hp}
def SdM.open_ (B:SdM)(id:Int):Prop:=B.has id∨(B.mine id=false∧cnI id<(B.kd id).giv∧(B.kd id).giv≤1000000)
theorem Made.x_wf {M:SsM}{A:SdM}{i:Nat}{id:Int}(h:Made M A i id)(hid:0≤id∧id≤18446744073709551615):(A.x id).WF:=by
 rw[←h.abs]
 exact h.wf.at_ hid
theorem come_hx {M:SsM}{id:Int}(hw:M.WF)(hid:0≤id∧id≤18446744073709551615)(ho:M.abs.open_ id):∀i,idxS (M.come id).str id=some i→(M.come id).str[i]?=some (M.abs.x id):=fun i hi=>by
 have hm:=SsM.come_made hw hid ho hi
 have:=hm.get.1
 rw[SdM.come_x]at this
 exact this
theorem come_credit {M:SsM}{id:Int}:(M.come id).giv=M.giv∧(M.come id).got=M.got:=by
 have e1:∀N:SsM,(N.touch id).giv=N.giv∧(N.touch id).got=N.got:=fun N=>by unfold SsM.touch;split<;>exact⟨rfl,rfl⟩
 have e2:(M.reached id).giv=M.giv∧(M.reached id).got=M.got:=by
  unfold SsM.reached SsM.setK SsM.setR
  split<;>exact⟨rfl,rfl⟩
 unfold SsM.come
 split
 ·exact e1 M
 ·exact⟨(e1 _).1.trans e2.1,(e1 _).2.trans e2.2⟩
theorem come_wf {M:SsM}{id:Int}(hw:M.WF)(hid:0≤id∧id≤18446744073709551615)(ho:M.abs.open_ id):(M.come id).WF:=by
 have:∃i,idxS (M.come id).str id=some i:=by
  unfold SsM.come
  split
  ·obtain⟨i,x,h,_,_⟩:=SsM.touch_str (M:=M) (id:=id);exact⟨i,h⟩
  ·obtain⟨i,x,h,_,_⟩:=SsM.touch_str (M:=M.reached id) (id:=id);exact⟨i,h⟩
 obtain⟨i,hi⟩:=this
 exact(SsM.come_made hw hid ho hi).wf
theorem asData_c {A:SdM}{b:Nat}{c cd:Hp}{f:FsM}{ao:Option Addr}{cap:Nat}{m:InM}(hsel:Sel G c R)(hA:AsAt A b c)(hid:0≤f.id∧f.id≤18446744073709551615)(ho:A.open_ f.id)(hr:(A.x f.id).recv=1)(hm:(A.x f.id).inn=some m)
  (hD:Ls enB 5 (.slice ao f.data.length cap) cd f.data) (hsd:∀c',Sub cd (R c')) (hf:0≤f.off∧f.off+f.data.length≤1000000000) (hag:m.Agree (max f.off m.read) (m.fresh f.off f.data)) (h1:(A.x f.id).giv.useE (m.more (f.off+f.data.length))=0) (h2:A.giv.useE (m.more (f.off+f.data.length))=0) (hadd:m.addE f.off f.data f.fin=0) (hmn:0≤m.more (f.off+f.data.length)):
  Go.Sl.Fn Tryz.prog 51 #[.pointer (some ⟨b,0,none⟩),.agg (f.cells ao cap).toArray] B w0 G fun u G'=>∃c':Hp,u=.int .i64 0∧AsAt ((A.come f.id).put2 f.id ((A.x f.id).dataE m f) (A.giv.use (m.more (f.off+f.data.length))) A.got) b c'∧G'=R c':=by
 have hxw:=(hA.wf_x hid).1
 obtain⟨M,ps,hM,hw,rfl⟩:=hA
 obtain⟨g1,g2⟩:=come_credit (M:=M) (id:=f.id)
 have hcw:=come_wf hw hid ho
 refine(data_c hsel (reach_ok hM hw hid ho) (come_hx hw hid ho) hxw hcw.giv hr hm hD hsd hf hag ?_ hadd).mono fun u G' h=>?_
 ·unfold SsM.roomE
  rw[g1,if_neg (by rw[h1];simp),if_neg (by show ¬M.abs.giv.useE _≠0;rw[h2];simp)]
 ·obtain⟨y,rfl,⟨hi,hy⟩,rfl⟩:=h
  have hmd:=SsM.come_made hw hid ho hi
  have hmw:m.WF:=hxw.inn m hm
  have hx':((M.abs.x f.id).dataE m f).WF:=⟨hxw.id,GivM.use_wf hxw.giv hmn,hxw.got,hxw.reset,hxw.stop,hxw.code,fun m' e=>by cases e;exact InM.add_wf hmw ⟨hf.1,by omega⟩,hxw.out,hxw.send,⟨⟨fun e=>by
   exfalso
   have e':(if (m.add f.off f.data f.fin).known=true then (2:Int) else (M.abs.x f.id).recv)=0:=e
   split at e'<;>omega,fun e=>by cases e⟩,by
   show 0≤(if (m.add f.off f.data f.fin).known=true then (2:Int) else (M.abs.x f.id).recv)∧(if (m.add f.off f.data f.fin).known=true then (2:Int) else (M.abs.x f.id).recv)≤5
   split<;>omega⟩⟩
  have hxid:((M.abs.x f.id).dataE m f).id=f.id:=SsM.at_id
  have h3:=(hmd.put hx' hxid).give (g:=M.giv.use (m.more (f.off+f.data.length))) (GivM.use_wf hw.giv hmn)
  refine⟨y.2.2,rfl,?_,rfl⟩
  have e1:(M.come f.id).data y.1 (M.abs.x f.id) m f={(M.come f.id).setS y.1 ((M.abs.x f.id).dataE m f)with giv:=M.giv.use (m.more (f.off+f.data.length))}:=by
   unfold SsM.data
   rw[g1]
   rfl
  rw[e1]at hy
  have:=AsAt.of hy h3
  have e2:(M.abs.come f.id).put2 f.id ((M.abs.x f.id).dataE m f) (M.abs.giv.use (m.more (f.off+f.data.length))) M.abs.got={(M.abs.come f.id).put f.id ((M.abs.x f.id).dataE m f)with giv:=M.giv.use (m.more (f.off+f.data.length))}:=by
   unfold SdM.put2
   rw[←SdM.come_got (A:=M.abs) (id:=f.id)]
   rfl
  rw[e2]
  exact this
theorem asReset_c {A:SdM}{b:Nat}{c:Hp}{f:FsM}{ao:Option Addr}{cap:Nat}{m:InM}(hsel:Sel G c R)(hA:AsAt A b c)(hid:0≤f.id∧f.id≤18446744073709551615)(ho:A.open_ f.id)(hr:(A.x f.id).recv=1)(hm:(A.x f.id).inn=some m)
  (hf:m.read≤f.lim∧f.lim≤1000000000) (h1:(A.x f.id).giv.useE (m.more f.lim)=0) (h2:A.giv.useE (m.more f.lim)=0) (hend:m.stopE f.lim=0) (hsw:(m.stop f.lim).WF) (hmn:0≤m.more f.lim) (hrd:(m.stop f.lim).read=m.read) (hcode:0≤f.code∧f.code≤18446744073709551615):
  Go.Sl.Fn Tryz.prog 52 #[.pointer (some ⟨b,0,none⟩),.agg (f.cells ao cap).toArray] B w0 G fun u G'=>∃c':Hp,u=.int .i64 0∧AsAt ((A.come f.id).put2 f.id ((A.x f.id).rstE m f) ((A.giv.use (m.more f.lim)).take (f.lim-(m.stop f.lim).read)) A.got) b c'∧G'=R c':=by
 have hxw:=(hA.wf_x hid).1
 obtain⟨M,ps,hM,hw,rfl⟩:=hA
 obtain⟨g1,g2⟩:=come_credit (M:=M) (id:=f.id)
 have hcw:=come_wf hw hid ho
 refine(rst_c hsel (reach_ok hM hw hid ho) (come_hx hw hid ho) hxw hcw.giv hr hm hf ?_ hend).mono fun u G' h=>?_
 ·unfold SsM.roomE
  rw[g1,if_neg (by rw[h1];simp),if_neg (by show ¬M.abs.giv.useE _≠0;rw[h2];simp)]
 ·obtain⟨y,rfl,⟨hi,hy⟩,rfl⟩:=h
  have hmd:=SsM.come_made hw hid ho hi
  have hx':((M.abs.x f.id).rstE m f).WF:=⟨hxw.id,GivM.use_wf hxw.giv hmn,hxw.got,hxw.reset,hxw.stop,by show inQ f.code;unfold inQ;exact hcode,fun m' e=>by cases e;exact hsw,hxw.out,hxw.send,⟨⟨fun e=>absurd e (by show (4:Int)≠0;decide),fun e=>by cases e⟩,by show (0:Int)≤4∧(4:Int)≤5;decide⟩⟩
  have hxid:((M.abs.x f.id).rstE m f).id=f.id:=SsM.at_id
  have h3:=(hmd.put hx' hxid).give (g:=(M.giv.use (m.more f.lim)).take (f.lim-(m.stop f.lim).read)) (GivM.take_wf (GivM.use_wf hw.giv hmn) (by rw[hrd];omega))
  refine⟨y.2.2,rfl,?_,rfl⟩
  have e1:(M.come f.id).rst y.1 (M.abs.x f.id) m f={(M.come f.id).setS y.1 ((M.abs.x f.id).rstE m f)with giv:=(M.giv.use (m.more f.lim)).take (f.lim-(m.stop f.lim).read)}:=by
   unfold SsM.rst
   rw[g1]
   rfl
  rw[e1]at hy
  have:=AsAt.of hy h3
  have e2:(M.abs.come f.id).put2 f.id ((M.abs.x f.id).rstE m f) ((M.abs.giv.use (m.more f.lim)).take (f.lim-(m.stop f.lim).read)) M.abs.got={(M.abs.come f.id).put f.id ((M.abs.x f.id).rstE m f)with giv:=(M.giv.use (m.more f.lim)).take (f.lim-(m.stop f.lim).read)}:=by
   unfold SdM.put2
   rw[←SdM.come_got (A:=M.abs) (id:=f.id)]
   rfl
  rw[e2]
  exact this
theorem SmM.WF.giveUp {x:SmM}{c:Int}(h:x.WF)(hc:0≤c):(x.giveUp c).WF:=by
 unfold SmM.giveUp
 split
 ·exact h
 ·next hl=>
  split
  ·exact h
  ·refine⟨h.id,h.giv,h.got,⟨hc,by dsimp only;omega⟩,h.stop,h.code,h.inn,h.out,⟨⟨fun e=>absurd e (by show (4:Int)≠0;decide),fun e=>?_⟩,by show (0:Int)≤4∧(4:Int)≤5;decide⟩,h.recv⟩
   exfalso
   have h2:=h.send.1.2 e
   rw[h2]at hl
   exact hl rfl
theorem asStop_c {A:SdM}{b:Nat}{c:Hp}{f:FsM}{ao:Option Addr}{cap:Nat}(hsel:Sel G c R)(hA:AsAt A b c)(hid:0≤f.id∧f.id≤18446744073709551615)(ho:A.open_ f.id)(hr:(A.x f.id).send≠0)(hk:0≤f.code∧f.code≤18446744073709551615)(he:(A.x f.id).giveUpE f.code=0):
  Go.Sl.Fn Tryz.prog 53 #[.pointer (some ⟨b,0,none⟩),.agg (f.cells ao cap).toArray] B w0 G fun u G'=>∃c':Hp,u=.int .i64 0∧AsAt ((A.come f.id).put f.id ((A.x f.id).giveUp f.code)) b c'∧G'=R c':=by
 have hxw:=(hA.wf_x hid).1
 obtain⟨M,ps,hM,hw,rfl⟩:=hA
 refine(stp_c hsel (reach_ok hM hw hid ho) (come_hx hw hid ho) hr hk).mono fun u G' h=>?_
 obtain⟨y,rfl,⟨hi,hy⟩,rfl⟩:=h
 have hmd:=SsM.come_made hw hid ho hi
 have hxid:((M.abs.x f.id).giveUp f.code).id=f.id:=giveUp_id.trans SsM.at_id
 exact⟨y.2.2,by rw[he],.of hy (hmd.put (hxw.giveUp hk.1) hxid),rfl⟩
theorem asRaise_c {A:SdM}{b:Nat}{c:Hp}{f:FsM}{ao:Option Addr}{cap:Nat}(hsel:Sel G c R)(hA:AsAt A b c)(hid:0≤f.id∧f.id≤18446744073709551615)(ho:A.open_ f.id)(hr:(A.x f.id).send≠0)(hl:0≤f.lim):
  Go.Sl.Fn Tryz.prog 54 #[.pointer (some ⟨b,0,none⟩),.agg (f.cells ao cap).toArray] B w0 G fun u G'=>∃c':Hp,u=.int .i64 0∧AsAt ((A.come f.id).put f.id ((A.x f.id).rz f.lim)) b c'∧G'=R c':=by
 have hxw:=(hA.wf_x hid).1
 obtain⟨M,ps,hM,hw,rfl⟩:=hA
 refine(raise_c hsel (reach_ok hM hw hid ho) (come_hx hw hid ho) hr).mono fun u G' h=>?_
 obtain⟨y,rfl,⟨hi,hy⟩,rfl⟩:=h
 have hmd:=SsM.come_made hw hid ho hi
 have hxid:((M.abs.x f.id).rz f.lim).id=f.id:=SsM.at_id
 exact⟨y.2.2,rfl,.of hy (hmd.put (hxw.gotTo (GotM.raise_wf hxw.got hl)) hxid),rfl⟩
theorem asRaiseS_c {A:SdM}{b:Nat}{c:Hp}{k n:Int}(hsel:Sel G c R)(hA:AsAt A b c)(hk:k=0∨k=1)(hn:0≤n∧n≤4611686018427387903):
  Go.Sl.Fn Tryz.prog 46 #[.pointer (some ⟨b,0,none⟩),.int .i64 k,.int .u64 n] B w0 G fun u G'=>∃c':Hp,u=.tuple #[]∧AsAt (A.raiseS k n) b c'∧G'=R c':=by
 obtain⟨M,ps,hM,hw,rfl⟩:=hA
 refine(raiseS_c hsel hM hk).mono fun u G' h=>?_
 obtain⟨c',rfl,hc,rfl⟩:=h
 have hkw:(M.kn k).WF:=by unfold SsM.kn;split;exact hw.k0;exact hw.k1
 refine⟨c',rfl,⟨_,ps,hc,hw.setK hk ⟨hkw.op,by have:=hkw.may;dsimp only;omega,hkw.came,hkw.giv,hkw.told⟩ rfl rfl,?_⟩,rfl⟩
 unfold SsM.raiseS SdM.raiseS
 rw[SsM.abs_setK]
 rfl
theorem frame8_c {p:PrP}{i:Bool}{b:Nat}{c cd:Hp}{f:FsM}{ao:Option Addr}{cap:Nat}{A':SdM}(hb:Sub [(b,.cells p.cells.toArray 42 (0,0))] G)(hbR:∀c',Sub [(b,.cells p.cells.toArray 42 (0,0))] (R c'))(hsel:Sel G c R)(hcd:∀c',Sub cd (R c'))(hk:f.k=8)
  (hF:∀(G:List Hp) (R':Hp→List Hp),Sel G c R'→(∀c',Sub cd (R' c'))→Go.Sl.Fn Tryz.prog 51 #[.pointer (some ⟨p.s i,0,none⟩),.agg (f.cells ao cap).toArray] B w0 G fun u G'=>∃c':Hp,u=.int .i64 0∧AsAt A' (p.s i) c'∧G'=R' c'):
  Go.Sl.Fn Tryz.prog 27 #[.pointer (some ⟨b,0,none⟩),.int .i64 (iv i),.agg (f.cells ao cap).toArray] B w0 G fun u G'=>∃c':Hp,u=.int .i64 0∧AsAt A' (p.s i) c'∧G'=R c':=by
 refine Fn.sel0 hsel fun F hR hF2=>?_
 have fl:=f.len (ao:=ao) (cap:=cap)
 have fo:=f.one (ao:=ao) (cap:=cap)
 have hi:=iv_b i
 have hbF:Sub [(b,.cells p.cells.toArray 42 (0,0))] F:=sub_of_R hR hbR
 have hcF:Sub cd F:=sub_of_R hR hcd
 refine fn_enter Tryz.func27 rfl (by kernel_rfl) Tryz.ntmps27 (by simp) ?_
 refine qs ?_
 refine ow_box rfl rfl rfl rfl fun b5=>qa<|qt<|qs<|qm<|qm<|qn ?_
 refine qf Ty.fd42_0 ?_
 refine qv (v_indexAddrA Tryz.underlying36 Ty.el36 rfl rfl (Int.toNat_of_nonneg zom).symm zom) ?_
 refine ql (Var.sub1 Ty.sc35 zthr (.head _) (PrP.gs))<|qa ?_
 refine qt<|cw_seq<|qs ?_
 refine qf Ty.fd82_0 ?_
 refine ql (Var.at1 Ty.sc76 .here (GetN.lit rfl))<|qt ?_
 refine cw_block<|qs ?_
 refine qv (v_eql rfl rfl)<|qa<|qt ?_
 refine cw_dec rfl (fun hc16=>?_) (fun hc16=>?_)
 rotate_left;(exfalso;omega);rotate_right
 refine qs<|qm ?_
 refine ql (Var.atN Ty.ag82 .here GetN.all zra) ?_
 (refine ow_call rfl rfl rfl rfl (hF _ _ zsel (fun c'=>zthr)) ?_;rintro _ _ ⟨x20,rfl,hq20,rfl⟩)
 refine qa<|qt ?_
 refine cw_ret ?_
 refine xw_block_ret ?_
 refine xw_then_ret ?_
 refine ret1 rfl (res_tmp rfl) ?_
 exact⟨_,rfl,hq20,zcov⟩
theorem frame4_c {p:PrP}{i:Bool}{b:Nat}{c cd:Hp}{f:FsM}{ao:Option Addr}{cap:Nat}{A':SdM}(hb:Sub [(b,.cells p.cells.toArray 42 (0,0))] G)(hbR:∀c',Sub [(b,.cells p.cells.toArray 42 (0,0))] (R c'))(hsel:Sel G c R)(hcd:∀c',Sub cd (R c'))(hk:f.k=4)
  (hF:∀(G:List Hp) (R':Hp→List Hp),Sel G c R'→(∀c',Sub cd (R' c'))→Go.Sl.Fn Tryz.prog 52 #[.pointer (some ⟨p.s i,0,none⟩),.agg (f.cells ao cap).toArray] B w0 G fun u G'=>∃c':Hp,u=.int .i64 0∧AsAt A' (p.s i) c'∧G'=R' c'):
  Go.Sl.Fn Tryz.prog 27 #[.pointer (some ⟨b,0,none⟩),.int .i64 (iv i),.agg (f.cells ao cap).toArray] B w0 G fun u G'=>∃c':Hp,u=.int .i64 0∧AsAt A' (p.s i) c'∧G'=R c':=by
 refine Fn.sel0 hsel fun F hR hF2=>?_
 have fl:=f.len (ao:=ao) (cap:=cap)
 have fo:=f.one (ao:=ao) (cap:=cap)
 have hi:=iv_b i
 have hbF:Sub [(b,.cells p.cells.toArray 42 (0,0))] F:=sub_of_R hR hbR
 have hcF:Sub cd F:=sub_of_R hR hcd
 refine fn_enter Tryz.func27 rfl (by kernel_rfl) Tryz.ntmps27 (by simp) ?_
 refine qs ?_
 refine ow_box rfl rfl rfl rfl fun b5=>qa<|qt<|qs<|qm<|qm<|qn ?_
 refine qf Ty.fd42_0 ?_
 refine qv (v_indexAddrA Tryz.underlying36 Ty.el36 rfl rfl (Int.toNat_of_nonneg zom).symm zom) ?_
 refine ql (Var.sub1 Ty.sc35 zthr (.head _) (PrP.gs))<|qa ?_
 refine qt<|cw_seq<|qs ?_
 refine qf Ty.fd82_0 ?_
 refine ql (Var.at1 Ty.sc76 .here (GetN.lit rfl))<|qt ?_
 refine cw_block<|qs ?_
 refine qv (v_eql rfl rfl)<|qa<|qt ?_
 refine cw_dec rfl (fun hc16=>?_) (fun hc16=>?_)
 (exfalso;omega)
 refine qs ?_
 refine qv (v_eql rfl rfl)<|qa<|qt ?_
 refine cw_dec rfl (fun hc21=>?_) (fun hc21=>?_)
 rotate_left;(exfalso;omega);rotate_right
 refine qs<|qm ?_
 refine ql (Var.atN Ty.ag82 .here GetN.all zra) ?_
 (refine ow_call rfl rfl rfl rfl (hF _ _ zsel (fun c'=>zthr)) ?_;rintro _ _ ⟨x25,rfl,hq25,rfl⟩)
 refine qa<|qt ?_
 refine cw_ret ?_
 refine xw_block_ret ?_
 refine xw_then_ret ?_
 refine ret1 rfl (res_tmp rfl) ?_
 exact⟨_,rfl,hq25,zcov⟩
theorem frame5_c {p:PrP}{i:Bool}{b:Nat}{c cd:Hp}{f:FsM}{ao:Option Addr}{cap:Nat}{A':SdM}(hb:Sub [(b,.cells p.cells.toArray 42 (0,0))] G)(hbR:∀c',Sub [(b,.cells p.cells.toArray 42 (0,0))] (R c'))(hsel:Sel G c R)(hcd:∀c',Sub cd (R c'))(hk:f.k=5)
  (hF:∀(G:List Hp) (R':Hp→List Hp),Sel G c R'→(∀c',Sub cd (R' c'))→Go.Sl.Fn Tryz.prog 53 #[.pointer (some ⟨p.s i,0,none⟩),.agg (f.cells ao cap).toArray] B w0 G fun u G'=>∃c':Hp,u=.int .i64 0∧AsAt A' (p.s i) c'∧G'=R' c'):
  Go.Sl.Fn Tryz.prog 27 #[.pointer (some ⟨b,0,none⟩),.int .i64 (iv i),.agg (f.cells ao cap).toArray] B w0 G fun u G'=>∃c':Hp,u=.int .i64 0∧AsAt A' (p.s i) c'∧G'=R c':=by
 refine Fn.sel0 hsel fun F hR hF2=>?_
 have fl:=f.len (ao:=ao) (cap:=cap)
 have fo:=f.one (ao:=ao) (cap:=cap)
 have hi:=iv_b i
 have hbF:Sub [(b,.cells p.cells.toArray 42 (0,0))] F:=sub_of_R hR hbR
 have hcF:Sub cd F:=sub_of_R hR hcd
 refine fn_enter Tryz.func27 rfl (by kernel_rfl) Tryz.ntmps27 (by simp) ?_
 refine qs ?_
 refine ow_box rfl rfl rfl rfl fun b5=>qa<|qt<|qs<|qm<|qm<|qn ?_
 refine qf Ty.fd42_0 ?_
 refine qv (v_indexAddrA Tryz.underlying36 Ty.el36 rfl rfl (Int.toNat_of_nonneg zom).symm zom) ?_
 refine ql (Var.sub1 Ty.sc35 zthr (.head _) (PrP.gs))<|qa ?_
 refine qt<|cw_seq<|qs ?_
 refine qf Ty.fd82_0 ?_
 refine ql (Var.at1 Ty.sc76 .here (GetN.lit rfl))<|qt ?_
 refine cw_block<|qs ?_
 refine qv (v_eql rfl rfl)<|qa<|qt ?_
 refine cw_dec rfl (fun hc16=>?_) (fun hc16=>?_)
 (exfalso;omega)
 refine qs ?_
 refine qv (v_eql rfl rfl)<|qa<|qt ?_
 refine cw_dec rfl (fun hc21=>?_) (fun hc21=>?_)
 (exfalso;omega)
 refine qs ?_
 refine qv (v_eql rfl rfl)<|qa<|qt ?_
 refine cw_dec rfl (fun hc26=>?_) (fun hc26=>?_)
 rotate_left;(exfalso;omega);rotate_right
 refine qs<|qm ?_
 refine ql (Var.atN Ty.ag82 .here GetN.all zra) ?_
 (refine ow_call rfl rfl rfl rfl (hF _ _ zsel (fun c'=>zthr)) ?_;rintro _ _ ⟨x30,rfl,hq30,rfl⟩)
 refine qa<|qt ?_
 refine cw_ret ?_
 refine xw_block_ret ?_
 refine xw_then_ret ?_
 refine ret1 rfl (res_tmp rfl) ?_
 exact⟨_,rfl,hq30,zcov⟩
theorem frame17_c {p:PrP}{i:Bool}{b:Nat}{c cd:Hp}{f:FsM}{ao:Option Addr}{cap:Nat}{A':SdM}(hb:Sub [(b,.cells p.cells.toArray 42 (0,0))] G)(hbR:∀c',Sub [(b,.cells p.cells.toArray 42 (0,0))] (R c'))(hsel:Sel G c R)(hcd:∀c',Sub cd (R c'))(hk:f.k=17)
  (hF:∀(G:List Hp) (R':Hp→List Hp),Sel G c R'→(∀c',Sub cd (R' c'))→Go.Sl.Fn Tryz.prog 54 #[.pointer (some ⟨p.s i,0,none⟩),.agg (f.cells ao cap).toArray] B w0 G fun u G'=>∃c':Hp,u=.int .i64 0∧AsAt A' (p.s i) c'∧G'=R' c'):
  Go.Sl.Fn Tryz.prog 27 #[.pointer (some ⟨b,0,none⟩),.int .i64 (iv i),.agg (f.cells ao cap).toArray] B w0 G fun u G'=>∃c':Hp,u=.int .i64 0∧AsAt A' (p.s i) c'∧G'=R c':=by
 refine Fn.sel0 hsel fun F hR hF2=>?_
 have fl:=f.len (ao:=ao) (cap:=cap)
 have fo:=f.one (ao:=ao) (cap:=cap)
 have hi:=iv_b i
 have hbF:Sub [(b,.cells p.cells.toArray 42 (0,0))] F:=sub_of_R hR hbR
 have hcF:Sub cd F:=sub_of_R hR hcd
 refine fn_enter Tryz.func27 rfl (by kernel_rfl) Tryz.ntmps27 (by simp) ?_
 refine qs ?_
 refine ow_box rfl rfl rfl rfl fun b5=>qa<|qt<|qs<|qm<|qm<|qn ?_
 refine qf Ty.fd42_0 ?_
 refine qv (v_indexAddrA Tryz.underlying36 Ty.el36 rfl rfl (Int.toNat_of_nonneg zom).symm zom) ?_
 refine ql (Var.sub1 Ty.sc35 zthr (.head _) (PrP.gs))<|qa ?_
 refine qt<|cw_seq<|qs ?_
 refine qf Ty.fd82_0 ?_
 refine ql (Var.at1 Ty.sc76 .here (GetN.lit rfl))<|qt ?_
 refine cw_block<|qs ?_
 refine qv (v_eql rfl rfl)<|qa<|qt ?_
 refine cw_dec rfl (fun hc16=>?_) (fun hc16=>?_)
 (exfalso;omega)
 refine qs ?_
 refine qv (v_eql rfl rfl)<|qa<|qt ?_
 refine cw_dec rfl (fun hc21=>?_) (fun hc21=>?_)
 (exfalso;omega)
 refine qs ?_
 refine qv (v_eql rfl rfl)<|qa<|qt ?_
 refine cw_dec rfl (fun hc26=>?_) (fun hc26=>?_)
 (exfalso;omega)
 refine qs ?_
 refine qv (v_eql rfl rfl)<|qa<|qt ?_
 refine cw_dec rfl (fun hc31=>?_) (fun hc31=>?_)
 rotate_left;(exfalso;omega);rotate_right
 refine qs<|qm ?_
 refine ql (Var.atN Ty.ag82 .here GetN.all zra) ?_
 (refine ow_call rfl rfl rfl rfl (hF _ _ zsel (fun c'=>zthr)) ?_;rintro _ _ ⟨x35,rfl,hq35,rfl⟩)
 refine qa<|qt ?_
 refine cw_ret ?_
 refine xw_block_ret ?_
 refine xw_then_ret ?_
 refine ret1 rfl (res_tmp rfl) ?_
 exact⟨_,rfl,hq35,zcov⟩
theorem frameS_c {p:PrP}{i:Bool}{b:Nat}{c:Hp}{f:FsM}{ao:Option Addr}{cap:Nat}{A:SdM}{k:Int}(hb:Sub [(b,.cells p.cells.toArray 42 (0,0))] G)(hbR:∀c',Sub [(b,.cells p.cells.toArray 42 (0,0))] (R c'))(hsel:Sel G c R)(hA:AsAt A (p.s i) c)(hk:f.k=18+k)(hk2:k=0∨k=1)(hl:0≤f.lim∧f.lim≤4611686018427387903):
  Go.Sl.Fn Tryz.prog 27 #[.pointer (some ⟨b,0,none⟩),.int .i64 (iv i),.agg (f.cells ao cap).toArray] B w0 G fun u G'=>∃c':Hp,u=.int .i64 0∧AsAt (A.raiseS k f.lim) (p.s i) c'∧G'=R c':=by
 refine Fn.sel0 hsel fun F hR hF2=>?_
 have fl:=f.len (ao:=ao) (cap:=cap)
 have fo:=f.one (ao:=ao) (cap:=cap)
 have hi:=iv_b i
 have hbF:Sub [(b,.cells p.cells.toArray 42 (0,0))] F:=sub_of_R hR hbR
 have hkk:f.k-18=k:=by omega
 refine fn_enter Tryz.func27 rfl (by kernel_rfl) Tryz.ntmps27 (by simp) ?_
 refine qs ?_
 refine ow_box rfl rfl rfl rfl fun b5=>qa<|qt<|qs<|qm<|qm<|qn ?_
 refine qf Ty.fd42_0 ?_
 refine qv (v_indexAddrA Tryz.underlying36 Ty.el36 rfl rfl (Int.toNat_of_nonneg zom).symm zom) ?_
 refine ql (Var.sub1 Ty.sc35 zthr (.head _) (PrP.gs))<|qa ?_
 refine qt<|cw_seq<|qs ?_
 refine qf Ty.fd82_0 ?_
 refine ql (Var.at1 Ty.sc76 .here (GetN.lit rfl))<|qt ?_
 refine cw_block<|qs ?_
 refine qv (v_eql rfl rfl)<|qa<|qt ?_
 refine cw_dec rfl (fun hc16=>?_) (fun hc16=>?_)
 (exfalso;omega)
 refine qs ?_
 refine qv (v_eql rfl rfl)<|qa<|qt ?_
 refine cw_dec rfl (fun hc21=>?_) (fun hc21=>?_)
 (exfalso;omega)
 refine qs ?_
 refine qv (v_eql rfl rfl)<|qa<|qt ?_
 refine cw_dec rfl (fun hc26=>?_) (fun hc26=>?_)
 (exfalso;omega)
 refine qs ?_
 refine qv (v_eql rfl rfl)<|qa<|qt ?_
 refine cw_dec rfl (fun hc31=>?_) (fun hc31=>?_)
 (exfalso;omega)
 refine cw_skip ?_
 refine xw_block<|xw_then<|qs<|qm ?_
 refine qf Ty.fd82_0 ?_
 refine ql (Var.at1 Ty.sc76 .here (GetN.lit rfl)) ?_
 refine qv (v_sub rfl rfl (nw_u8 zom zom)) ?_
 refine qv (v_convert Tryz.underlying76 Tryz.underlying3 rfl (nw_i64 zom zom)) ?_
 refine qf Ty.fd82_3 ?_
 refine ql (Var.at1 Ty.sc27 .here (GetN.lit rfl)) ?_
 (refine ow_call rfl rfl rfl rfl (hkk ▸ asRaiseS_c zsel hA hk2 hl) ?_;rintro _ _ ⟨x43,rfl,hq43,rfl⟩)
 refine qt<|qs<|qa<|qt ?_
 refine cw_ret ?_
 refine ret1 rfl (res_tmp rfl) ?_
 rw[hkk]at hq43
 exact⟨x43,rfl,hq43,zcov⟩
end Go.Proofs.YtnlaffkihohfkaaGreat
namespace Go.Proofs.YtnlaffkihohfkaaGreat
open Go Go.Sl Go.Proofs
variable {B:Nat}{w0:World}{G:List Hp}{R:Hp→List Hp}
def PrM.take (P:PrM)(i:Bool)(id mn:Int):PrM:=
 if finalS ((P.s i).x id).recv=true then P
 else if ((P.s i).x id).recv=4 then P.set2 i ((P.s i).settle id ((P.s i).x id).heard) (P.s (!i))
 else match ((P.s i).x id).inn with
  |none=>P
  |some m=>(P.set2 i ((P.s i).readN id m (m.many mn)) (P.s (!i))).setR i id (P.rd i id++m.bytes (m.many mn)) (P.en i id||m.allAt (m.many mn))
theorem recv_cases {s:Int}(h0:0≤s∧s≤5):finalS s=true∨s=4∨s=1∨s=2:=by
 unfold finalS
 have:s=0∨s=1∨s=2∨s=3∨s=4∨s=5:=by omega
 rcases this with h|h|h|h|h|h<;>simp[h]
theorem Dir.recv_b {x y:SmM}{W Rd:List UInt8}{E:Bool}(h:Dir x y W Rd E):0≤y.recv∧y.recv≤5:=by
 rcases h with⟨k,r,f,h⟩|⟨r,h⟩|⟨k,r,f,h⟩|h
 ·have:=h.rv;omega
 ·have:=h.rv;omega
 ·have:=h.rv;omega
 ·have:=h.rv;omega
theorem Dir.rd_len {x y:SmM}{W Rd:List UInt8}{E:Bool}(h:Dir x y W Rd E):Rd.length≤W.length:=by
 rcases h with⟨k,r,f,h⟩|⟨r,h⟩|⟨k,r,f,h⟩|h
 ·rw[h.rd,List.length_take];omega
 ·rw[h.rd,List.length_take];omega
 ·rw[h.rd,List.length_take];omega
 ·rw[h.rd];simp
theorem Inv.take {P:PrM}{D one many:Int}{n:Nat}{i:Bool}{id mn:Int}(h:Inv P D one many n)(hid:(P.s i).has id)(hmn:0≤mn):Inv (P.take i id mn) D one many n:=by
 unfold PrM.take
 have hb:=(h.dir' i hid.1).recv_b
 by_cases h1:finalS ((P.s i).x id).recv=true
 ·rw[if_pos h1];exact h
 rw[if_neg h1]
 by_cases h2:((P.s i).x id).recv=4
 ·rw[if_pos h2];exact h.heard hid h2
 rw[if_neg h2]
 obtain⟨m,hm,_,_,E,hE,hI⟩:=h.read hid (((recv_cases hb).resolve_left h1).resolve_left h2) hmn
 rw[hm]
 rw[hE]at hI
 exact hI
theorem Inv.kd_lt {P:PrM}{D one many:Int}{n:Nat}(h:Inv P D one many n){i:Bool}{id:Int}:((P.s i).kd id).giv<4611686018427387903:=by
 have:=h.giv_b (i:=i) (k:=kdI id) kdI_or
 show ((P.s i).kn (kdI id)).giv<_
 omega
theorem setR_i {P:PrM}{i:Bool}{id:Int}{Rd:List UInt8}{E:Bool}:(P.setR i id Rd E).rd i=(fun j=>if j=id then Rd else P.rd i j)∧(P.setR i id Rd E).en i=(fun j=>if j=id then E else P.en i j)∧(P.setR i id Rd E).rd (!i)=P.rd (!i)∧(P.setR i id Rd E).en (!i)=P.en (!i):=by
 refine⟨?_,?_,?_,?_⟩
 ·funext j
  by_cases h:j=id
  ·exact(if_pos ⟨rfl,h⟩).trans (if_pos h).symm
  ·exact(if_neg fun e=>h e.2).trans (if_neg h).symm
 ·funext j
  by_cases h:j=id
  ·exact(if_pos ⟨rfl,h⟩).trans (if_pos h).symm
  ·exact(if_neg fun e=>h e.2).trans (if_neg h).symm
 ·funext j;exact if_neg fun e=>not_ne i e.1
 ·funext j;exact if_neg fun e=>not_ne i e.1
theorem PrC.Ok.setR {C:PrC}{P:PrM}{p:PrP}(h:C.Ok P p){i:Bool}{id:Int}{Rd:List UInt8}{E:Bool}{c d:Hp}(hr:BmAt (fun j=>if j=id then Rd else P.rd i j) (p.r i) c)(he:BlAt (fun j=>if j=id then E else P.en i j) (p.e i) d):PrC.Ok {C with r:=upB C.r i c,e:=upB C.e i d} (P.setR i id Rd E) p:=by
 obtain⟨e1,e2,e3,e4⟩:=setR_i (P:=P) (i:=i) (id:=id) (Rd:=Rd) (E:=E)
 refine⟨h.s,h.w,bool_two i ?_ ?_,bool_two i ?_ ?_⟩
 ·rw[e1];show BmAt _ _ (upB C.r i c i);rw[upB_i];exact hr
 ·rw[e3];show BmAt _ _ (upB C.r i c (!i));rw[upB_n];exact h.r _
 ·rw[e2];show BlAt _ _ (upB C.e i d i);rw[upB_i];exact he
 ·rw[e4];show BlAt _ _ (upB C.e i d (!i));rw[upB_n];exact h.e _
theorem BlAt.congr {f g:Int→Bool}{b:Nat}{c:Hp}(h:BlAt f b c)(he:∀j,f j=g j):BlAt g b c:=by
 obtain⟨m,h1,h2⟩:=h
 exact⟨m,h1,fun k=>by rw[h2,he]⟩
set_option maxHeartbeats 4000000 in
theorem takeC_c {P:PrM}{p:PrP}{i:Bool}{b n:Nat}{C:PrC}{id mn D one many:Int}(hsel:Sel G (C.all p b) R)(hC:C.Ok P p)(h:Inv P D one many n)(hid:(P.s i).has id)(hmn:0≤mn∧mn≤1000000):
  Go.Sl.Fn Tryz.prog 12 #[.pointer (some ⟨b,0,none⟩),.int .i64 (iv i),.int .u64 id,.int .i64 mn] B w0 G fun u G'=>∃C':PrC,u=.tuple #[]∧(C'.Ok (P.take i id mn) p∧C'.s (!i)=C.s (!i))∧G'=R (C'.all p b):=by
 refine Fn.sel0 hsel fun F hR hF=>?_
 have hi:=iv_b i
 obtain⟨i0,i1⟩:=h.has_lt hid
 have hidb:0≤id∧id≤18446744073709551615:=⟨i0,by have:(NS:Int)=400:=rfl;omega⟩
 have hb:=(h.dir' i hid.1).recv_b
 have hS:=hC.s i
 have hcn:=PrC.cnt_ (C:=C) (p:=p) (b:=b) i
 refine fn_enter Tryz.func12 rfl (by kernel_rfl) Tryz.ntmps12 (by simp) ?_
 refine cw_cov ([(b,.cells p.cells.toArray 42 (0,0))]::C.s i::C.s (!i)::C.w i::C.w (!i)::C.r i::C.r (!i)::C.e i::C.e (!i)::F) (zcv1 hcn) ?_
 unfold PrM.take
 rcases recv_cases hb with h1|h1|h1
 ·rw[if_pos h1]
  refine qs<|qm<|qm<|qn ?_
  refine qf Ty.fd42_0 ?_
  refine qv (v_indexAddrA Tryz.underlying36 Ty.el36 rfl rfl (Int.toNat_of_nonneg zom).symm zom) ?_
  refine ql (Var.at1 Ty.sc35 .here (PrP.gs))<|qm<|qm ?_
  (refine ow_call rfl rfl rfl rfl (asRead_no_c zsel hS hidb hid h1) ?_;rintro _ _ ⟨x21,rfl,hq21,rfl⟩)
  refine qm ?_
  refine qv (v_extract rfl rfl) ?_
  refine qv (v_extract rfl rfl) ?_
  refine qv (v_extract rfl rfl) ?_
  refine qv (v_extract rfl rfl)<|qa<|qa<|qa<|qa<|qt<|cw_seq<|qs ?_
  refine qm ?_
  refine qv (v_neq rfl rfl)<|qt ?_
  refine cw_true rfl ?_
  refine cw_ret ?_
  refine xw_then_ret ?_
  refine ret0 rfl ?_
  have hC2:PrC.Ok {C with s:=upB C.s i x21} P p:=by
   have:=hC.setS hq21
   rwa [PrM.set2_same]at this
  have hcn2:=PrC.cnt_ (C:={C with s:=upB C.s i x21}) (p:=p) (b:=b) i
  simp only[upB_i,upB_n]at hcn2
  exact⟨_,rfl,⟨hC2,upB_n⟩,(zcv1 hcn2)⟩
 ·rw[if_neg (by rw[h1];decide),if_pos h1]
  refine qs<|qm<|qm<|qn ?_
  refine qf Ty.fd42_0 ?_
  refine qv (v_indexAddrA Tryz.underlying36 Ty.el36 rfl rfl (Int.toNat_of_nonneg zom).symm zom) ?_
  refine ql (Var.at1 Ty.sc35 .here (PrP.gs))<|qm<|qm ?_
  (refine ow_call rfl rfl rfl rfl (asRead_broken_c zsel hS hidb hid h1 h.kd_lt) ?_;rintro _ _ ⟨x21,rfl,hq21,rfl⟩)
  refine qm ?_
  refine qv (v_extract rfl rfl) ?_
  refine qv (v_extract rfl rfl) ?_
  refine qv (v_extract rfl rfl) ?_
  refine qv (v_extract rfl rfl)<|qa<|qa<|qa<|qa<|qt<|cw_seq<|qs ?_
  refine qm ?_
  refine qv (v_neq rfl rfl)<|qt ?_
  refine cw_true rfl ?_
  refine cw_ret ?_
  refine xw_then_ret ?_
  refine ret0 rfl ?_
  have hC2:=hC.setS hq21
  have hcn2:=PrC.cnt_ (C:={C with s:=upB C.s i x21}) (p:=p) (b:=b) i
  simp only[upB_i,upB_n]at hcn2
  exact⟨_,rfl,⟨hC2,upB_n⟩,(zcv1 hcn2)⟩
 ·have h4:¬((P.s i).x id).recv=4:=by omega
  have h5:¬finalS ((P.s i).x id).recv=true:=by rcases h1 with e|e<;>(rw[e];decide)
  rw[if_neg h5,if_neg h4]
  obtain⟨m,hm,hmw,hof,_⟩:=h.read hid h1 hmn.1
  rw[hm]
  dsimp only
  have hR0:=hC.r i
  have hbl:(m.bytes (m.many mn)).length=m.many mn:=InM.bytes_len
  have hmm:(m.many mn:Int)≤1000000:=by unfold InM.many;omega
  obtain⟨g,cm,ck,cr,ao,cap,hfc,hM,hg,hL,back⟩:=hR0.focus id i0
  have hE0:=hC.e i
  have hrl:(P.rd i id).length≤60000:=Nat.le_trans (h.dir' i hid.1).rd_len (h.wl60 hid)
  refine qs<|qm<|qm<|qn ?_
  refine qf Ty.fd42_0 ?_
  refine qv (v_indexAddrA Tryz.underlying36 Ty.el36 rfl rfl (Int.toNat_of_nonneg zom).symm zom) ?_
  refine ql (Var.at1 Ty.sc35 .here (PrP.gs))<|qm<|qm ?_
  (refine ow_call rfl rfl rfl rfl (asRead_c zsel hS hidb hid h1 hm h.kd_lt hmn hof) ?_;rintro _ _ ⟨x21,rfl,hq21,rfl⟩)
  refine qm ?_
  refine qv (v_extract rfl rfl) ?_
  refine qv (v_extract rfl rfl) ?_
  refine qv (v_extract rfl rfl) ?_
  refine qv (v_extract rfl rfl)<|qa<|qa<|qa<|qa<|qt<|cw_seq<|qs ?_
  refine qm ?_
  refine qv (v_neq rfl rfl)<|qt ?_
  refine cw_false rfl<|cw_skip<|xw_then ?_
  refine cw_cov ([(b,.cells p.cells.toArray 42 (0,0))]::x21.2.2.2::cm::ck::cr::C.e i::x21.2.2.1::C.s (!i)::C.w i::C.w (!i)::C.r (!i)::C.e (!i)::F) (zcv1 hfc) ?_
  obtain⟨hLb,hS2⟩:=hq21
  refine cw_cut2 (ι:=((Option Addr×Nat×Hp×Hp))) [(0,_),(1,_),(2,_),(9,_)] ⟨rfl,rfl,rfl,rfl,trivial⟩ ((fun y=>[])) ((fun y=>MapG .u64 (fun j=>if j=id then some (.slice y.1 (P.rd i id++m.bytes (m.many mn)).length y.2.1) else g j) (p.r i) y.2.2.1∧Ls enB 5 (.slice y.1 (P.rd i id++m.bytes (m.many mn)).length y.2.1) y.2.2.2 (P.rd i id++m.bytes (m.many mn)))) ((fun y=>[(b,.cells p.cells.toArray 42 (0,0))]::x21.2.2.2::y.2.2.1::y.2.2.2::cr::C.e i::C.s (!i)::C.w i::C.w (!i)::C.r (!i)::C.e (!i)::F)) ?_ ?_
  ·refine cw_any Ty.mixed ?_
   refine aw_pure 0 rfl zdk rfl rfl (v_move rfl) rfl ?_
   refine aw_pure 1 rfl zdk rfl rfl (v_move rfl) rfl ?_
   refine aw_pure 2 rfl zdk rfl rfl (v_nilCheck rfl) rfl ?_
   refine aw_pure 3 rfl zdk rfl rfl (v_fieldAddr0 Ty.fd42_2 rfl) rfl ?_
   refine aw_pure 4 rfl zdk rfl rfl (v_indexAddrA Tryz.underlying38 Ty.el38 rfl rfl (Int.toNat_of_nonneg zom).symm zom) rfl ?_
   refine aw_pure 6 rfl zdk rfl rfl (v_move rfl) rfl ?_
   refine aw_pure 7 rfl zdk rfl rfl (v_move rfl) rfl ?_
   refine aw_pure 8 rfl zdk rfl rfl (v_move rfl) rfl ?_
   refine aw_pure 9 rfl zdk rfl rfl (v_nilCheck rfl) rfl ?_
   refine aw_pure 10 rfl zdk rfl rfl (v_fieldAddr0 Ty.fd42_2 rfl) rfl ?_
   refine aw_pure 11 rfl zdk rfl rfl (v_indexAddrA Tryz.underlying38 Ty.el38 rfl rfl (Int.toNat_of_nonneg zom).symm zom) rfl ?_
   refine aw_pure 13 rfl zdk rfl rfl (v_move rfl) rfl ?_
   refine aw_pure 15 rfl zdk rfl rfl (v_move rfl) rfl ?_
   refine aw_step2 5 12 zdk rfl rfl ?_ ?_
   refine ql (Var.at1 Ty.sc37 .here (PrP.gr))<|qx ?_
   refine aw_step1 12 zdk rfl ?_
   refine ql (Var.at1 Ty.sc37 .here (PrP.gr))<|qx ?_
   refine aw_step1 14 zdk rfl ?_
   refine qv ((v_bytes rfl rfl zhas hM hg))<|qx ?_
   refine aw_step1 16 zdk rfl ?_
   (refine ow_appendL rfl rfl Tryz.underlying28 Tryz.underlying28 Ty.em28 (u8Ty) rfl rfl zas zsel ((Go.Sl.Ls.vw hLb zhas)) zlo zlo ?_;intro ao44 cap44 c44 hL44)
   refine qx ?_
   refine aw_step1 17 zdk rfl ?_
   rotate_left
   refine ql (Var.at1 Ty.sc37 .here (PrP.gr))<|qx ?_
   refine aw_step2 5 14 zdk rfl rfl ?_ ?_
   refine ql (Var.at1 Ty.sc37 .here (PrP.gr))<|qx ?_
   refine aw_step1 14 zdk rfl ?_
   refine qv ((v_bytes rfl rfl zhas hM hg))<|qx ?_
   refine aw_step1 16 zdk rfl ?_
   (refine ow_appendL rfl rfl Tryz.underlying28 Tryz.underlying28 Ty.em28 (u8Ty) rfl rfl zas zsel ((Go.Sl.Ls.vw hLb zhas)) zlo zlo ?_;intro ao44 cap44 c44 hL44)
   refine qx ?_
   refine aw_step1 17 zdk rfl ?_
   rotate_left
   refine qv ((v_bytes rfl rfl zhas hM hg))<|qx ?_
   refine aw_step2 5 16 zdk rfl rfl ?_ ?_
   refine ql (Var.at1 Ty.sc37 .here (PrP.gr))<|qx ?_
   refine aw_step1 16 zdk rfl ?_
   (refine ow_appendL rfl rfl Tryz.underlying28 Tryz.underlying28 Ty.em28 (u8Ty) rfl rfl zas zsel ((Go.Sl.Ls.vw hLb zhas)) zlo zlo ?_;intro ao44 cap44 c44 hL44)
   refine qx ?_
   refine aw_step1 17 zdk rfl ?_
   rotate_left
   (refine ow_appendL rfl rfl Tryz.underlying28 Tryz.underlying28 Ty.em28 (u8Ty) rfl rfl zas zsel ((Go.Sl.Ls.vw hLb zhas)) zlo zlo ?_;intro ao44 cap44 c44 hL44)
   refine qx ?_
   refine aw_step1 5 zdk rfl ?_
   refine ql (Var.at1 Ty.sc37 .here (PrP.gr))<|qx ?_
   refine aw_step1 17 zdk rfl ?_
   rotate_left
   all_goals
    refine ow_mapUpdateG (kd:=.u64) rfl Tryz.underlying37 Tryz.underlying27 rfl rfl rfl zsel hM ?_
    intro cm' hM'
    refine qx ?_
    refine aw_end zdk ?_
    refine xw_np ?_
    exact xw_joint (ao44,cap44,cm',c44) (And.intro hM' hL44) zcov zenv
  rintro⟨ao2,cap2,cm2,ck2⟩ ⟨hM2,hL2⟩
  dsimp only at hM2 hL2⊢
  obtain⟨c3,hB3,hc3⟩:=back _ ao2 cap2 cm2 ck2 hM2 hL2
  have hC1:=hC.setS hS2
  refine qs<|qm<|qt ?_
  refine cw_bool rfl (fun hc45=>?_) (fun hc45=>?_)
  refine cw_region<|qm<|qm<|qn ?_
  refine qf Ty.fd42_3 ?_
  refine qv (v_indexAddrA Tryz.underlying40 Ty.el40 rfl rfl (Int.toNat_of_nonneg zom).symm zom) ?_
  refine ql (Var.at1 Ty.sc39 .here (PrP.ge))<|qm ?_
  rotate_left
  refine cw_skip ?_
  refine ret0n rfl ?_
  rotate_left
  ·obtain⟨ge,hgM,hgf⟩:=hE0
   refine ow_mapUpdateG (kd:=.u64) rfl Tryz.underlying39 Tryz.underlying27 rfl rfl rfl zsel hgM ?_
   intro ce' hM'
   refine ow_nil ?_
   refine ret0n rfl ?_
   have hE1:BlAt (fun j=>if j=id then (P.en i id||m.allAt (m.many mn)) else P.en i j) (p.e i) ce':=⟨_,hM',fun j=>by
    show ((if j=id then some (Value.bool true) else ge j).getD (.bool false))=.bool (if j=id then (P.en i id||m.allAt (m.many mn)) else P.en i j)
    by_cases hj:j=id
    ·rw[if_pos hj,if_pos hj,hc45,Bool.or_true];rfl
    ·rw[if_neg hj,if_neg hj];exact hgf j⟩
   have hC2:=hC1.setR (i:=i) (id:=id) hB3 hE1
   have hcn2:=PrC.cnt_ (C:={C with s:=upB C.s i x21.2.2.2,r:=upB C.r i c3,e:=upB C.e i ce'}) (p:=p) (b:=b) i
   simp only[upB_i,upB_n]at hcn2
   exact⟨_,rfl,⟨hC2,upB_n⟩,(zcv2 hcn2 hc3)⟩
  ·have hE1:BlAt (fun j=>if j=id then (P.en i id||m.allAt (m.many mn)) else P.en i j) (p.e i) (C.e i):=hE0.congr fun j=>by
    by_cases hj:j=id
    ·rw[if_pos hj,hc45,Bool.or_false,hj]
    ·rw[if_neg hj]
   have hC2:=hC1.setR (i:=i) (id:=id) hB3 hE1
   have hcn2:=PrC.cnt_ (C:={C with s:=upB C.s i x21.2.2.2,r:=upB C.r i c3,e:=upB C.e i (C.e i)}) (p:=p) (b:=b) i
   simp only[upB_i,upB_n]at hcn2
   exact⟨_,rfl,⟨hC2,upB_n⟩,(zcv2 hcn2 hc3)⟩
theorem take_c {P:PrM}{p:PrP}{i:Bool}{b n:Nat}{c:Hp}{id mn D one many:Int}(hsel:Sel G c R)(hP:PrAt P p b c)(h:Inv P D one many n)(hid:(P.s i).has id)(hmn:0≤mn∧mn≤1000000):
  Go.Sl.Fn Tryz.prog 12 #[.pointer (some ⟨b,0,none⟩),.int .i64 (iv i),.int .u64 id,.int .i64 mn] B w0 G fun u G'=>∃c':Hp,u=.tuple #[]∧PrAt (P.take i id mn) p b c'∧G'=R c':=by
 obtain⟨C,hC,rfl⟩:=hP
 refine(takeC_c hsel hC h hid hmn).mono fun u G' h=>?_
 obtain⟨C',rfl,⟨hC',_⟩,rfl⟩:=h
 exact⟨_,rfl,⟨C',hC',rfl⟩,rfl⟩
end Go.Proofs.YtnlaffkihohfkaaGreat
namespace Go.Proofs.YtnlaffkihohfkaaGreat
open Go Go.Sl Go.Proofs
variable {B:Nat}{w0:World}{G:List Hp}{R:Hp→List Hp}
def AsAtM (A:SdM)(id:Int)(q b:Nat)(c:Hp):Prop:=∃(M:SsM) (ps:List Nat) (i:Nat),SsAt M ps b c∧Made M A i id∧q=ps.getD i 0
theorem AsAtM.as {A:SdM}{id:Int}{q b:Nat}{c:Hp}(h:AsAtM A id q b c):AsAt A b c:=by
 obtain⟨M,ps,i,h1,h2,_⟩:=h
 exact .of h1 h2
theorem asGet_c {A:SdM}{b:Nat}{c:Hp}{id:Int}(hsel:Sel G c R)(hA:AsAt A b c)(hid:0≤id∧id≤18446744073709551615)(hh:A.has id):
  Go.Sl.Fn Tryz.prog 14 #[.pointer (some ⟨b,0,none⟩),.int .u64 id] B w0 G fun u G'=>∃y:Nat×Hp,u=.pointer (some ⟨y.1,0,none⟩)∧AsAtM A id y.1 b y.2∧G'=R y.2:=by
 obtain⟨M,ps,hM,hw,rfl⟩:=hA
 refine(get_has_c hsel hM hw hid hh).mono fun u G' h=>?_
 obtain⟨y,rfl,⟨hi,hy⟩,rfl⟩:=h
 exact⟨(_,y.2.2),rfl,⟨_,_,_,hy,SsM.touch_made hw hid hh hi,rfl⟩,rfl⟩
def nextG (g:GotM)(x:SmM)(most:Int):FsM×Bool:=SsM.next {SsM.new true 0 ⟨0,0,0⟩ 0 0 with got:=g} x most
theorem next_nextG {M:SsM}{x:SmM}{most:Int}:M.next x most=nextG M.got x most:=rfl
theorem asNext_c {A:SdM}{id:Int}{q b:Nat}{c:Hp}{most:Int}(hs:Sub c G)(hA:AsAtM A id q b c)(hid:0≤id∧id≤18446744073709551615)(hm: -9223372036854775808≤most∧most≤1000000):
  Go.Sl.Fn Tryz.prog 28 #[.pointer (some ⟨b,0,none⟩),.pointer (some ⟨q,0,none⟩),.int .i64 most] B w0 G fun u G'=>∃y:Option Addr×Nat×Hp,u=.tuple #[.agg ((nextG A.got (A.x id) most).1.cells y.1 y.2.1).toArray,.bool (nextG A.got (A.x id) most).2]∧Ls enB 5 (.slice y.1 (nextG A.got (A.x id) most).1.data.length y.2.1) y.2.2 (nextG A.got (A.x id) most).1.data∧G'=[y.2.2]++G:=by
 obtain⟨M,ps,i,hM,hmd,rfl⟩:=hA
 have h:=next_c (B:=B) (w0:=w0) (most:=most) hs hM hmd.get.1 hmd.wf.got (hmd.x_wf hid) hm
 have e:M.got=A.got:=by rw[←hmd.abs];rfl
 rw[next_nextG,e]at h
 exact h
structure NextOf (g:GotM)(x:SmM)(f:FsM):Prop where
 id:f.id=x.id
 k:(f.k=4∧x.resets=true∧x.send=4∧f.lim=x.got.used∧f.code=x.reset)∨(f.k=5∧x.stops=true∧liveS x.recv=true∧f.code=x.stop)∨(f.k=17∧x.recv=1∧x.giv.wants=true∧f.lim=x.giv.lim)∨(f.k=8∧liveS x.send=true∧∃o most,x.out=some o∧o.next most (x.got.used+min x.got.room g.room)=(⟨f.off,f.data,f.fin⟩,true))
theorem nextG_of {g:GotM}{x:SmM}{most:Int}(h:(nextG g x most).2=true):NextOf g x (nextG g x most).1∧((nextG g x most).1.k=8→∀o,x.out=some o→o.next most (x.got.used+min x.got.room g.room)=(⟨(nextG g x most).1.off,(nextG g x most).1.data,(nextG g x most).1.fin⟩,true)):=by
 revert h
 unfold nextG
 by_cases h1:x.resets=true∧x.send=4
 ·rw[SsM.next_1 h1]
  exact fun _=>⟨⟨rfl,.inl ⟨rfl,h1.1,h1.2,rfl,rfl⟩⟩,fun e=>by cases e⟩
 by_cases h2:x.stops=true∧liveS x.recv=true
 ·rw[SsM.next_2 h1 h2]
  exact fun _=>⟨⟨rfl,.inr (.inl ⟨rfl,h2.1,h2.2,rfl⟩)⟩,fun e=>by cases e⟩
 by_cases h3:x.recv=1∧x.giv.wants=true
 ·rw[SsM.next_3 h1 h2 h3]
  exact fun _=>⟨⟨rfl,.inr (.inr (.inl ⟨rfl,h3.1,h3.2,rfl⟩))⟩,fun e=>by cases e⟩
 by_cases h4:liveS x.send=true
 ·cases ho:x.out with
  |none=>
   intro h
   exfalso
   rw[SsM.next,if_neg h1,if_neg h2,if_neg h3,if_neg (by rw[h4];decide),ho]at h
   cases h
  |some o=>
   rw[SsM.next_5 h1 h2 h3 h4 ho]
   split
   ·next h5=>
    intro _
    have e:o.next most (x.got.used+min x.got.room g.room)=(⟨(SsM.part {SsM.new true 0 ⟨0,0,0⟩ 0 0 with got:=g} x o most).1.at_,(SsM.part {SsM.new true 0 ⟨0,0,0⟩ 0 0 with got:=g} x o most).1.data,(SsM.part {SsM.new true 0 ⟨0,0,0⟩ 0 0 with got:=g} x o most).1.fin⟩,true):=by
     rw[←h5]
     rfl
    exact⟨⟨rfl,.inr (.inr (.inr ⟨rfl,h4,o,most,ho,e⟩))⟩,fun _ o' ho'=>by cases ho';exact e⟩
   ·next h5=>intro h;cases h
 ·rw[SsM.next_4 h1 h2 h3 (by simpa using h4)]
  intro h;cases h
def SdM.sentF (A:SdM)(f:FsM):SdM:=
 if f.k=4 then A.put f.id (A.x f.id).noReset
 else if f.k=5 then A.put f.id (A.x f.id).noStop
 else if f.k=17 then A.put f.id (A.x f.id).tell
 else match (A.x f.id).out with
  |none=>A
  |some o=>A.sentD f.id (o.sent f.off f.data.length f.fin) (f.off+f.data.length)
def SdM.lostF (A:SdM)(f:FsM):SdM:=
 if f.k=4 then (if (A.x f.id).send=4 then A.put f.id (A.x f.id).again else A)
 else if f.k=5 then (if (A.x f.id).stopped=true∧liveS (A.x f.id).recv=true then A.put f.id (A.x f.id).stopA else A)
 else if f.k=17 then A.put f.id (A.x f.id).untell
 else if liveS (A.x f.id).send=true then match (A.x f.id).out with
  |none=>A
  |some o=>A.put f.id ((A.x f.id).outTo (o.lostIt f.off f.data.length f.fin))
 else A
def SdM.cameF (A:SdM)(f:FsM):SdM:=
 if f.k=4 then (if (A.x f.id).send=4 then A.settle f.id (A.x f.id).settled else A)
 else if f.k=8 then match (A.x f.id).out with
  |none=>A
  |some o=>A.cameD f.id (o.gotIt f.off f.data.length f.fin)
 else A
theorem SmM.WF.flags {x x':SmM}(h:x.WF)(h1:x'.id=x.id)(h2:x'.giv=x.giv)(h3:x'.got=x.got)(h4:x'.reset=x.reset)(h5:x'.stop=x.stop)(h6:x'.code=x.code)(h7:x'.inn=x.inn)(h8:x'.out=x.out)(h9:x'.send=x.send)(h10:x'.recv=x.recv):x'.WF:=
 ⟨by rw[h1];exact h.id,by rw[h2];exact h.giv,by rw[h3];exact h.got,by rw[h4];exact h.reset,by rw[h5];exact h.stop,by rw[h6];exact h.code,by rw[h7];exact h.inn,by rw[h8];exact h.out,by rw[h8,h9];exact h.send,by rw[h7,h10];exact h.recv⟩
theorem asSent_c {A:SdM}{q b:Nat}{c:Hp}{f:FsM}{ao:Option Addr}{cap:Nat}(hsel:Sel G c R)(hA:AsAtM A f.id q b c)(hid:0≤f.id∧f.id≤18446744073709551615)(hh:A.has f.id)
  (hk:f.k=4∨f.k=5∨f.k=17∨(f.k=8∧(A.x f.id).send≠0)) (hf:0≤f.off∧f.off≤4611686018427387903) (hl:f.data.length≤1000000):
  Go.Sl.Fn Tryz.prog 29 #[.pointer (some ⟨b,0,none⟩),.agg (f.cells ao cap).toArray] B w0 G fun u G'=>∃y:Nat×Hp,u=.tuple #[]∧AsAtM (A.sentF f) f.id y.1 b y.2∧G'=R y.2:=by
 obtain⟨M,ps,i,hM,hmd,rfl⟩:=hA
 have hxw:=hmd.x_wf hid
 have hh':M.has f.id:=by have:=hmd.abs ▸ hh;exact this
 refine(sent_c hsel hM hmd.wf hid hh' hmd.idx hmd.get.1 hk hf hl).mono fun u G' h=>?_
 obtain⟨y,rfl,hy,rfl⟩:=h
 refine⟨(y.1.getD i 0,y.2),rfl,⟨_,_,i,hy,?_,rfl⟩,rfl⟩
 unfold SsM.sent SdM.sentF
 rcases hk with hk|hk|hk|⟨hk,hs⟩
 ·rw[if_pos hk,if_pos hk]
  exact hmd.put (hxw.flags rfl rfl rfl rfl rfl rfl rfl rfl rfl rfl) hmd.get.2
 ·rw[if_neg zom,if_pos hk,if_neg zom,if_pos hk]
  exact hmd.put (hxw.flags rfl rfl rfl rfl rfl rfl rfl rfl rfl rfl) hmd.get.2
 ·rw[if_neg zom,if_neg zom,if_pos hk,if_neg zom,if_neg zom,if_pos hk]
  exact hmd.put (hxw.givTo (GivM.tell_wf hxw.giv)) hmd.get.2
 ·rw[if_neg zom,if_neg zom,if_neg zom,if_neg zom,if_neg zom,if_neg zom]
  cases ho:(A.x f.id).out with
  |none=>exact hmd
  |some o=>
   have how:=hxw.out o ho
   have hgw:A.got.WF:=by rw[←hmd.abs];exact hmd.wf.got
   exact hmd.sentD rfl (BufM.sent_wf how hf.1 zom) hs hxw hgw
theorem asLost_c {A:SdM}{q b:Nat}{c:Hp}{f:FsM}{ao:Option Addr}{cap:Nat}(hsel:Sel G c R)(hA:AsAtM A f.id q b c)(hid:0≤f.id∧f.id≤18446744073709551615)(hh:A.has f.id)
  (hk:f.k=4∨f.k=5∨f.k=17∨(f.k=8∧liveS (A.x f.id).send=true)) (hf:0≤f.off∧f.off≤4611686018427387903) (hl:f.data.length≤1000000):
  Go.Sl.Fn Tryz.prog 30 #[.pointer (some ⟨b,0,none⟩),.agg (f.cells ao cap).toArray] B w0 G fun u G'=>∃c':Hp,u=.tuple #[]∧AsAt (A.lostF f) b c'∧G'=R c':=by
 obtain⟨M,ps,i,hM,hmd,rfl⟩:=hA
 have hxw:=hmd.x_wf hid
 have hh':M.has f.id:=by have:=hmd.abs ▸ hh;exact this
 refine(lost_c hsel hM hmd.wf hid hh' hmd.idx hmd.get.1 hk hf hl).mono fun u G' h=>?_
 obtain⟨y,rfl,hy,rfl⟩:=h
 refine⟨y.2,rfl,?_,rfl⟩
 unfold SsM.lostF at hy
 unfold SdM.lostF
 rcases hk with hk|hk|hk|⟨hk,hs⟩
 ·rw[if_pos hk]at hy⊢
  split at hy
  ·next e=>rw[if_pos e];exact .of hy (hmd.put (hxw.flags rfl rfl rfl rfl rfl rfl rfl rfl rfl rfl) hmd.get.2)
  ·next e=>rw[if_neg e];exact .of hy hmd
 ·rw[if_neg zom,if_pos hk]at hy⊢
  split at hy
  ·next e=>rw[if_pos e];exact .of hy (hmd.put (hxw.flags rfl rfl rfl rfl rfl rfl rfl rfl rfl rfl) hmd.get.2)
  ·next e=>rw[if_neg e];exact .of hy hmd
 ·rw[if_neg zom,if_neg zom,if_pos hk]at hy⊢
  exact .of hy (hmd.put (hxw.givTo (GivM.lose_wf hxw.giv)) hmd.get.2)
 ·rw[if_neg zom,if_neg zom,if_neg zom,if_pos hs]at hy⊢
  cases ho:(A.x f.id).out with
  |none=>rw[ho]at hy;exact .of hy hmd
  |some o=>
   rw[ho]at hy
   have hs0:(A.x f.id).send≠0:=fun e=>by rw[e]at hs;cases hs
   exact .of hy (hmd.put (hxw.outTo (BufM.lostIt_wf (hxw.out o ho) hf.1) hs0) hmd.get.2)
theorem asCame_c {A:SdM}{q b:Nat}{c:Hp}{f:FsM}{ao:Option Addr}{cap:Nat}(hsel:Sel G c R)(hA:AsAtM A f.id q b c)(hid:0≤f.id∧f.id≤18446744073709551615)(hh:A.has f.id)
  (hk:f.k=4∨f.k=5∨f.k=17∨(f.k=8∧(A.x f.id).send≠0)) (hf:0≤f.off∧f.off≤4611686018427387903) (hl:f.data.length≤1000000) (hg:(A.kd f.id).giv<4611686018427387903):
  Go.Sl.Fn Tryz.prog 31 #[.pointer (some ⟨b,0,none⟩),.agg (f.cells ao cap).toArray] B w0 G fun u G'=>∃c':Hp,u=.tuple #[]∧AsAt (A.cameF f) b c'∧G'=R c':=by
 obtain⟨M,ps,i,hM,hmd,rfl⟩:=hA
 have hxw:=hmd.x_wf hid
 have hh':M.has f.id:=by have:=hmd.abs ▸ hh;exact this
 refine(came_c hsel hM hmd.wf hid hh' hmd.idx hmd.get.1 hk hf hl).mono fun u G' h=>?_
 obtain⟨y,rfl,hy,rfl⟩:=h
 refine⟨y.2,rfl,?_,rfl⟩
 unfold SsM.cameF at hy
 unfold SdM.cameF
 rcases hk with hk|hk|hk|⟨hk,hs⟩
 ·rw[if_pos hk]at hy⊢
  split at hy
  ·next e=>
   rw[if_pos e]
   refine .of hy (hmd.settle ⟨hxw.id,hxw.giv,hxw.got,hxw.reset,hxw.stop,hxw.code,hxw.inn,hxw.out,⟨⟨fun e=>absurd e (by show (5:Int)≠0;decide),fun e2=>?_⟩,by show (0:Int)≤5∧(5:Int)≤5;decide⟩,hxw.recv⟩ hmd.get.2 hg)
   have:=hxw.send.1.2 e2
   omega
  ·next e=>rw[if_neg e];exact .of hy hmd
 ·rw[if_neg zom,if_neg zom]at hy⊢
  exact .of hy hmd
 ·rw[if_neg zom,if_neg zom]at hy⊢
  exact .of hy hmd
 ·rw[if_neg zom,if_pos hk]at hy⊢
  cases ho:(A.x f.id).out with
  |none=>rw[ho]at hy;exact .of hy hmd
  |some o=>
   rw[ho]at hy
   exact .of hy (hmd.cameD (BufM.gotIt_wf (hxw.out o ho) hf.1) hs hxw hg)
end Go.Proofs.YtnlaffkihohfkaaGreat
namespace Go.Proofs.YtnlaffkihohfkaaGreat
open Go Go.Sl Go.Proofs
variable {B:Nat}{w0:World}{G:List Hp}{R:Hp→List Hp}
theorem SdM.settle_put2 {A:SdM}{id:Int}{x x':SmM}:(A.put id x').settle id x=A.settle id x:=by
 unfold SdM.settle
 have e1:(A.put id x').mine id=A.mine id:=rfl
 rw[e1,SdM.put_put,SdM.put_put]
 rfl
def SdM.frameF (B:SdM)(f:FsM):SdM:=
 if f.k=4 then match (B.x f.id).inn with
  |none=>B
  |some m=>(B.come f.id).put2 f.id ((B.x f.id).rstE m f) ((B.giv.use (m.more f.lim)).take (f.lim-(m.stop f.lim).read)) B.got
 else if f.k=5 then (B.come f.id).put f.id ((B.x f.id).giveUp f.code)
 else if f.k=17 then (B.come f.id).put f.id ((B.x f.id).rz f.lim)
 else match (B.x f.id).inn with
  |none=>B
  |some m=>(B.come f.id).put2 f.id ((B.x f.id).dataE m f) (B.giv.use (m.more (f.off+f.data.length))) B.got
def PrM.send (P:PrM)(i:Bool)(f:FsM)(lost:Bool):PrM:=if lost=true then P.set2 i (((P.s i).sentF f).lostF f) (P.s (!i)) else P.set2 i (((P.s i).sentF f).cameF f) ((P.s (!i)).frameF f)
theorem Piece8.of {x y:SmM}{W Rd:List UInt8}{E:Bool}{k r:Nat}{fi:Bool}{gg:GotM}{f:FsM}{most:Int}(g:DOn x y W Rd E k r fi)(hm:1≤most)(h:(bufG W k fi false).next most (x.got.used+min x.got.room gg.room)=(⟨f.off,f.data,f.fin⟩,true)):∃n:Nat,Piece8 x W k n fi gg f∧(0<n→((n:Int)=most∨k+n=W.length∨(k:Int)+n=x.got.used+min x.got.room gg.room)):=by
 rcases bufG_next (t:=W) (k:=k) (f:=fi) (e:=false) (most:=most) (lim:=x.got.used+min x.got.room gg.room) g.hk hm with⟨h1,_⟩|⟨n,h1,h2,h3,h4⟩
 ·rw[h1]at h
  have:=congrArg (·.2) h
  cases this
 ·rw[h1]at h
  have h5:=congrArg (·.1) h
  simp only[PartM.mk.injEq]at h5
  obtain⟨e1,e2,e3⟩:=h5
  exact⟨n,⟨e1.symm,e2.symm,e3.symm,h2,fun e=>⟨(h3 e).1,(h3 e).2.1⟩,fun e=>(h4 e).1⟩,fun e=>(h4 e).2⟩
theorem Inv.live_on {P:PrM}{D one many:Int}{n:Nat}{i:Bool}{id:Int}(h:Inv P D one many n)(hid:(P.s i).has id)(hl:liveS ((P.s i).x id).send=true):∃k r fi,DOn ((P.s i).x id) ((P.s (!i)).x id) (P.wr i id) (P.rd (!i) id) (P.en (!i) id) k r fi∧(((P.s i).x id).send=1∨((P.s i).x id).send=2):=by
 have hs:((P.s i).x id).send=1∨((P.s i).x id).send=2:=by simpa [liveS] using hl
 obtain⟨k,r,fi,g⟩:=(h.dir i id hid.1).on_send zom
 exact⟨k,r,fi,g,hs⟩
theorem send8_eq {P:PrM}{i:Bool}{k r n:Nat}{fi:Bool}{f:FsM}{id:Int}(hid:f.id=id)(hk:f.k=8)(g:DOn ((P.s i).x id) ((P.s (!i)).x id) (P.wr i id) (P.rd (!i) id) (P.en (!i) id) k r fi)(p:Piece8 ((P.s i).x id) (P.wr i id) k n fi (P.s i).got f)(hW:(P.wr i id).length≤60000)(hl:liveS ((P.s i).x id).send=true):
  (P.s i).sentF f=(P.s i).sent8 id (((P.s i).x id).sent8 (P.wr i id) k n fi) k n∧((P.s i).sentF f).lostF f=(P.s i).sent8 id (((P.s i).x id).lost8 (P.wr i id) k n fi) k n∧
  ((P.s i).sentF f).cameF f=((P.s i).sent8 id (((P.s i).x id).sent8 (P.wr i id) k n fi) k n).cameD id (bufG (P.wr i id) (k+n) fi (fi&&decide (k+n=(P.wr i id).length))):=by
 subst hid
 obtain⟨e1,e2,e3,e4⟩:=g.sent_eq p hW
 have h1:(P.s i).sentF f=(P.s i).sent8 f.id (((P.s i).x f.id).sent8 (P.wr i f.id) k n fi) k n:=by
  unfold SdM.sentF
  rw[if_neg zom,if_neg zom,if_neg zom,g.out]
  dsimp only
  rw[e1,e2]
  exact sent8_eq
 have hx:((P.s i).sent8 f.id (((P.s i).x f.id).sent8 (P.wr i f.id) k n fi) k n).x f.id=((P.s i).x f.id).sent8 (P.wr i f.id) k n fi:=if_pos rfl
 refine⟨h1,?_,?_⟩
 ·rw[h1]
  unfold SdM.lostF
  rw[if_neg zom,if_neg zom,if_neg zom,hx]
  rw[if_pos (show liveS (((P.s i).x f.id).sent8 (P.wr i f.id) k n fi).send=true from hl)]
  show ((P.s i).sent8 f.id (((P.s i).x f.id).sent8 (P.wr i f.id) k n fi) k n).put f.id ((((P.s i).x f.id).sent8 (P.wr i f.id) k n fi).outTo ((bufS (P.wr i f.id) k n fi).lostIt f.off f.data.length f.fin))=_
  rw[e3]
  unfold SdM.sent8 SdM.put2
  show ({((P.s i).put f.id (((P.s i).x f.id).sent8 (P.wr i f.id) k n fi)).put f.id ((((P.s i).x f.id).sent8 (P.wr i f.id) k n fi).outTo (bufG (P.wr i f.id) k fi false))with giv:=(P.s i).giv,got:=(P.s i).got.upTo ((P.s i).x f.id).got.used ((k+n:Nat):Int)}:SdM)=_
  rw[SdM.put_put]
  rfl
 ·rw[h1]
  unfold SdM.cameF
  rw[if_neg zom,if_pos hk,hx]
  show SdM.cameD _ f.id ((bufS (P.wr i f.id) k n fi).gotIt f.off f.data.length f.fin)=_
  rw[e4]
theorem Inv.send {P:PrM}{D one many:Int}{n0:Nat}{i:Bool}{id most:Int}{f:FsM}(h:Inv P D one many n0)(hid:(P.s i).has id)(hxid:((P.s i).x id).id=id)(hst:((P.s i).x id).stop≤4611686018427387903)(hm:1≤most)(hn:nextG (P.s i).got ((P.s i).x id) most=(f,true)):f.id=id∧Inv (P.send i f false) D one many n0∧Inv (P.send i f true) D one many n0:=by
 obtain⟨hno,h8⟩:=nextG_of (g:=(P.s i).got) (x:=(P.s i).x id) (most:=most) (by rw[hn])
 rw[hn]at hno h8
 dsimp only at hno h8
 have hf:f.id=id:=hno.id.trans hxid
 refine⟨hf,?_,?_⟩
 ·unfold PrM.send
  rw[if_neg (by decide)]
  rcases hno.k with⟨hk,h1,h2,h3,h4⟩|⟨hk,h1,h2,h3⟩|⟨hk,h1,h2,h3⟩|⟨hk,h1,_⟩
  ·obtain⟨m,hi,_,_,_,_,_,_,_,_,_,hI⟩:=h.reset_came (f:=f) hid h2 h3
   have eA:((P.s i).sentF f).cameF f=(P.s i).settle id ((P.s i).x id).noReset.settled:=by
    unfold SdM.sentF SdM.cameF
    rw[if_pos hk,if_pos hk,hf]
    rw[SdM.put_x,if_pos (show ((P.s i).x id).noReset.send=4 from h2)]
    exact SdM.settle_put2
   have eB:(P.s (!i)).frameF f=((P.s (!i)).come id).put2 id (((P.s (!i)).x id).rstE m f) (((P.s (!i)).giv.use (m.more f.lim)).take (f.lim-(m.stop f.lim).read)) (P.s (!i)).got:=by
    unfold SdM.frameF
    rw[if_pos hk,hf,hi]
   rw[eA,eB]
   exact hI
  ·have hc:f.code≤4611686018427387903:=by rw[h3];exact hst
   obtain⟨_,_,hI⟩:=h.stop_came hid h2 hc
   have eA:((P.s i).sentF f).cameF f=(P.s i).put id ((P.s i).x id).noStop:=by
    simp only[SdM.sentF,SdM.cameF,hk,hf,Int.reduceEq,if_true,if_false,reduceIte]
   have eB:(P.s (!i)).frameF f=((P.s (!i)).come id).put id (((P.s (!i)).x id).giveUp f.code):=by
    unfold SdM.frameF
    rw[if_neg zom,if_pos hk,hf]
   rw[eA,eB]
   exact hI
  ·obtain⟨_,hI⟩:=h.raise_came hid h1
   have eA:((P.s i).sentF f).cameF f=(P.s i).put id (((P.s i).x id).giveTo ((P.s i).x id).giv.tell):=by
    simp only[SdM.sentF,SdM.cameF,hk,hf,Int.reduceEq,if_true,if_false,reduceIte]
    rfl
   have eB:(P.s (!i)).frameF f=((P.s (!i)).come id).put id (((P.s (!i)).x id).rz ((P.s i).x id).giv.lim):=by
    unfold SdM.frameF
    rw[if_neg zom,if_neg zom,if_pos hk,hf,h3]
   rw[eA,eB]
   exact hI
  ·obtain⟨k,r,fi,g,hs⟩:=h.live_on hid h1
   obtain⟨n,p,_⟩:=Piece8.of g hm (h8 hk _ g.out)
   obtain⟨_,_,_,_,edat,hmore,egiv,hI⟩:=h.data_came hid g p hs
   obtain⟨_,_,e3⟩:=send8_eq hf hk g p (h.wl60 hid) h1
   have eB:(P.s (!i)).frameF f=((P.s (!i)).come id).put2 id (((P.s (!i)).x id).took8 (P.wr i id) r (k+n) (fi&&decide (k+n=(P.wr i id).length))) ((P.s (!i)).giv.use n) (P.s (!i)).got:=by
    unfold SdM.frameF
    rw[if_neg zom,if_neg zom,if_neg zom,hf,g.inn]
    dsimp only
    rw[edat,hmore]
   rw[e3,eB]
   exact hI
 ·unfold PrM.send
  rw[if_pos rfl]
  rcases hno.k with⟨hk,h1,h2,h3,h4⟩|⟨hk,h1,h2,h3⟩|⟨hk,h1,h2,h3⟩|⟨hk,h1,_⟩
  ·have eA:((P.s i).sentF f).lostF f=P.s i:=by
    unfold SdM.sentF SdM.lostF
    rw[if_pos hk,if_pos hk,hf]
    rw[SdM.put_x,if_pos (show ((P.s i).x id).noReset.send=4 from h2),SdM.put_put,h.reset_lost hid h1,SdM.put_same]
   rw[eA,PrM.set2_same]
   exact h
  ·have eA:∃b,((P.s i).sentF f).lostF f=(P.s i).put id {(P.s i).x id with stops:=b}:=by
    simp only[SdM.sentF,SdM.lostF,hk,hf,Int.reduceEq,if_true,if_false,reduceIte,SdM.put_x]
    split
    ·exact⟨true,by rw[SdM.put_put];rfl⟩
    ·exact⟨false,rfl⟩
   obtain⟨b,eA⟩:=eA
   rw[eA]
   exact h.stop_lost hid
  ·have eA:((P.s i).sentF f).lostF f=(P.s i).put id (((P.s i).x id).giveTo ((P.s i).x id).giv.tell.lose):=by
    simp only[SdM.sentF,SdM.lostF,hk,hf,Int.reduceEq,if_true,if_false,reduceIte,SdM.put_x]
    rw[SdM.put_put]
    rfl
   rw[eA]
   exact h.raise_lost hid h1 h2
  ·obtain⟨k,r,fi,g,hs⟩:=h.live_on hid h1
   obtain⟨n,p,_⟩:=Piece8.of g hm (h8 hk _ g.out)
   obtain⟨_,e2,_⟩:=send8_eq hf hk g p (h.wl60 hid) h1
   rw[e2]
   exact h.data_lost hid g p
theorem frame_c {P:PrM}{D one many:Int}{n0:Nat}{p:PrP}{i:Bool}{b:Nat}{c cd:Hp}{f:FsM}{id most:Int}{ao:Option Addr}{cap:Nat}(hb:Sub [(b,.cells p.cells.toArray 42 (0,0))] G)(hbR:∀c',Sub [(b,.cells p.cells.toArray 42 (0,0))] (R c'))(hsel:Sel G c R)(hcd:∀c',Sub cd (R c'))(hB:AsAt (P.s (!i)) (p.s (!i)) c)(hL:Ls enB 5 (.slice ao f.data.length cap) cd f.data)
  (h:Inv P D one many n0) (hid:(P.s i).has id) (hxw:((P.s i).x id).WF∧((P.s i).x id).id=id) (hm:1≤most) (hn:nextG (P.s i).got ((P.s i).x id) most=(f,true)):
  Go.Sl.Fn Tryz.prog 27 #[.pointer (some ⟨b,0,none⟩),.int .i64 (iv (!i)),.agg (f.cells ao cap).toArray] B w0 G fun u G'=>∃c':Hp,u=.int .i64 0∧AsAt ((P.s (!i)).frameF f) (p.s (!i)) c'∧G'=R c':=by
 obtain⟨hxw,hxid⟩:=hxw
 have hst:=hxw.stop.2
 obtain⟨hno,h8⟩:=nextG_of (g:=(P.s i).got) (x:=(P.s i).x id) (most:=most) (by rw[hn])
 rw[hn]at hno h8
 dsimp only at hno h8
 have hf:f.id=id:=hno.id.trans hxid
 obtain⟨h00,h01⟩:=h.has_lt hid
 have hidb:0≤f.id∧f.id≤18446744073709551615:=by have:(NS:Int)=400:=rfl;omega
 have ho:(P.s (!i)).open_ f.id:=by rw[hf];exact h.reach hid
 unfold SdM.frameF
 rcases hno.k with⟨hk,h1,h2,h3,h4⟩|⟨hk,h1,h2,h3⟩|⟨hk,h1,h2,h3⟩|⟨hk,h1,_⟩
 ·rw[if_pos hk]
  obtain⟨m,hi,q1,q2,q3,q4,q5,q6,q7,q8,q9,_⟩:=h.reset_came (f:=f) hid h2 h3
  rw[←hf]at hi q1 q3
  rw[hi]
  have hcode:0≤f.code∧f.code≤18446744073709551615:=by have:=hxw.reset;omega
  exact frame4_c hb hbR hsel hcd hk fun G R' hs _=>asReset_c hs hB hidb ho q1 hi q2 q3 q4 q5 q6 q7 q9 hcode
 ·rw[if_neg zom,if_pos hk]
  have hc:f.code≤4611686018427387903:=by rw[h3];exact hst
  obtain⟨q1,q2,_⟩:=h.stop_came hid h2 hc
  rw[←hf]at q1 q2
  have hcode:0≤f.code∧f.code≤18446744073709551615:=by have:=hxw.stop;omega
  exact frame5_c hb hbR hsel hcd hk fun G R' hs _=>asStop_c hs hB hidb ho q1 hcode q2
 ·rw[if_neg zom,if_neg zom,if_pos hk]
  obtain⟨q1,_⟩:=h.raise_came hid h1
  rw[←hf]at q1
  exact frame17_c hb hbR hsel hcd hk fun G R' hs _=>asRaise_c hs hB hidb ho q1 (by have:=hxw.giv.lim;omega)
 ·rw[if_neg zom,if_neg zom,if_neg zom]
  obtain⟨k,r,fi,g,hs⟩:=h.live_on hid h1
  obtain⟨n,p8,_⟩:=Piece8.of g hm (h8 hk _ g.out)
  obtain⟨q1,q2,q3,q4,edat,hmore,egiv,_⟩:=h.data_came hid g p8 hs
  have hW:=h.wl60 (a:=i) hid
  have hi:=g.inn
  have hrv:=g.rv
  rw[←hf]at hi hrv q2
  rw[hi,hf]
  dsimp only
  rw[←hf]
  have hoff:0≤f.off∧f.off+f.data.length≤1000000000:=by rw[p8.len,p8.off];have:=p8.hk;omega
  exact frame8_c hb hbR hsel hcd hk fun G R' hs hcd'=>asData_c hs hB hidb ho hrv hi hL hcd' hoff (by rw[hf];exact q1) (by rw[hf]at q2⊢;exact q2) (by rw[hf];exact q3) (by rw[hf];exact q4) (by rw[hf,hmore];omega)
end Go.Proofs.YtnlaffkihohfkaaGreat
namespace Go.Proofs.YtnlaffkihohfkaaGreat
open Go Go.Sl Go.Proofs
variable {B:Nat}{w0:World}{G:List Hp}{R:Hp→List Hp}
def PrM.nextF (P:PrM)(i:Bool)(id most:Int):FsM×Bool:=nextG (P.s i).got ((P.s i).x id) most
def PrM.visit (P:PrM)(i:Bool)(id most:Int)(lost:Bool):PrM:=if (P.nextF i id most).2=true then P.send i (P.nextF i id most).1 lost else P
def PrM.tellG (P:PrM)(i:Bool):PrM:=if (P.s i).giv.wants=true then P.set2 i {P.s i with giv:=(P.s i).giv.tell} {P.s (!i)with got:=(P.s (!i)).got.raise (P.s i).giv.lim} else P
def SdM.strF (A:SdM):FsM×Bool:=if A.k0.told<A.k0.giv then (fsK 18 A.k0.giv,true) else if A.k1.told<A.k1.giv then (fsK 19 A.k1.giv,true) else (fs0 0,false)
def PrM.strK (P:PrM)(i:Bool)(k:Int)(lost:Bool):PrM:=if lost=true then P.set2 i (((P.s i).strS k).strL k) (P.s (!i)) else P.set2 i ((P.s i).strS k) ((P.s (!i)).raiseS k ((P.s i).kn k).giv)
def PrM.strG (P:PrM)(i:Bool)(lost:Bool):PrM:=if (P.s i).k0.told<(P.s i).k0.giv then P.strK i 0 lost else if (P.s i).k1.told<(P.s i).k1.giv then P.strK i 1 lost else P
inductive Runs (i:Bool)(most:Int)(q:Bool):PrM→List Int→Bool→PrM→Prop
 |nil (P:PrM):Runs i most q P [] false P
 |snoc {P Q:PrM} {l:List Int} {s:Bool} (id:Int) (lost:Bool) (h:Runs i most q P l s Q) (hq:q=true→lost=false):Runs i most q P (l++[id]) (s||(Q.nextF i id most).2) (Q.visit i id most lost)
def SdM.idsOf (A:SdM)(k:Int):List Int:=idsK A.cl true k (A.kn k).op.toNat++idsK A.cl false k (A.kn k).came.toNat
def SdM.ids (A:SdM):List Int:=A.idsOf 0++A.idsOf 1
theorem SsM.ids_abs {M:SsM}:M.ids=M.abs.ids:=by
 show ([]++M.idsOf 0)++M.idsOf 1=_
 rw[List.nil_append]
 rfl
theorem SdM.mine_idOf {A:SdM}{m:Bool}{k n:Int}:A.mine (idOf A.cl m k n)=m:=by
 unfold SdM.mine
 rw[idOf_odd]
 cases A.cl<;>cases m<;>rfl
theorem SdM.ids_has {A:SdM}{id:Int}:id∈A.ids↔A.has id:=by
 have key:∀k,(k=0∨k=1)→(id∈A.idsOf k↔A.has id∧kdI id=k):=fun k hk=>by
  unfold SdM.idsOf idsK
  rw[List.mem_append,List.mem_map,List.mem_map]
  constructor
  ·rintro (⟨n,hn,rfl⟩|⟨n,hn,rfl⟩)
   ·have hn2:=List.mem_range.1 hn
    refine⟨⟨by unfold idOf;split<;>omega,?_⟩,idOf_kd hk⟩
    rw[SdM.mine_idOf,if_pos rfl,idOf_cn hk,SdM.kd_kn,idOf_kd hk]
    omega
   ·have hn2:=List.mem_range.1 hn
    refine⟨⟨by unfold idOf;split<;>omega,?_⟩,idOf_kd hk⟩
    rw[SdM.mine_idOf,if_neg (by decide),idOf_cn hk,SdM.kd_kn,idOf_kd hk]
    omega
  ·rintro⟨⟨h0,h1⟩,h2⟩
   have he:=idOf_eq (cl:=A.cl) h0
   have hc:0≤cnI id:=by unfold cnI;omega
   rw[SdM.kd_kn,h2]at h1
   rw[h2]at he
   have hmm:A.mine id=decide (decide (oddI id=0)=A.cl):=rfl
   rw[←hmm]at he
   by_cases hm:A.mine id=true
   ·rw[if_pos hm]at h1
    refine .inl ⟨(cnI id).toNat,List.mem_range.2 zom,?_⟩
    rw[hm]at he
    rw[Int.toNat_of_nonneg hc]
    exact he.symm
   ·rw[if_neg hm]at h1
    have hm':A.mine id=false:=by simpa using hm
    refine .inr ⟨(cnI id).toNat,List.mem_range.2 zom,?_⟩
    rw[hm']at he
    rw[Int.toNat_of_nonneg hc]
    exact he.symm
 unfold SdM.ids
 rw[List.mem_append,key 0 (.inl rfl),key 1 (.inr rfl)]
 constructor
 ·rintro (h|h)<;>exact h.1
 ·intro h
  rcases kdI_or (id:=id)with e|e
  ·exact .inl ⟨h,e⟩
  ·exact .inr ⟨h,e⟩
def It (i:Bool)(most:Int)(q:Bool)(P:PrM)(sent:Bool)(P':PrM):Prop:=∃(l:List Int) (s lost:Bool),l.Perm (((P.tellG i).strG i lost).s i).ids∧Runs i most q ((P.tellG i).strG i lost) l s P'∧(q=true→lost=false)∧sent=(((P.tellG i).s i).strF.2||s)
inductive Pum (i:Bool)(most:Int)(q:Bool):Nat→PrM→PrM→Prop
 |zero (P:PrM):Pum i most q 0 P P
 |snoc {n:Nat} {P Q R:PrM} (h:Pum i most q n P Q) (h2:It i most q Q true R):Pum i most q (n+1) P R
def PumpR (i:Bool)(most:Int)(q:Bool)(rounds:Nat)(P P':PrM):Prop:=Pum i most q rounds P P'∨∃n Q,n<rounds∧Pum i most q n P Q∧It i most q Q false P'
def SameK (A A':SdM):Prop:=A'.cl=A.cl∧∀k,k=0∨k=1→(A'.kn k).op=(A.kn k).op∧(A'.kn k).came=(A.kn k).came
theorem SameK.refl {A:SdM}:SameK A A:=⟨rfl,fun _ _=>⟨rfl,rfl⟩⟩
theorem SameK.trans {A B C:SdM}(h:SameK A B)(g:SameK B C):SameK A C:=⟨g.1.trans h.1,fun k hk=>⟨(g.2 k hk).1.trans (h.2 k hk).1,(g.2 k hk).2.trans (h.2 k hk).2⟩⟩
theorem SameK.has {A B:SdM}(h:SameK A B){id:Int}:B.has id↔A.has id:=by
 unfold SdM.has SdM.mine
 rw[h.1]
 have:=h.2 (kdI id) kdI_or
 rw[SdM.kd_kn,SdM.kd_kn,this.1,this.2]
theorem SameK.put {A:SdM}{id:Int}{x:SmM}:SameK A (A.put id x):=⟨rfl,fun _ _=>⟨rfl,rfl⟩⟩
theorem SameK.settle {A:SdM}{id:Int}{x:SmM}:SameK A (A.settle id x):=by
 unfold SdM.settle
 split
 ·refine⟨SdM.setK_cl,fun k hk=>?_⟩
  rw[SdM.setK_kn kdI_or hk]
  split
  ·next e=>rw[e];exact⟨rfl,rfl⟩
  ·exact⟨rfl,rfl⟩
 ·exact SameK.put
theorem SameK.setK {A:SdM}{k:Int}{n:KdM}(hk:k=0∨k=1)(h1:n.op=(A.kn k).op)(h2:n.came=(A.kn k).came):SameK A (A.setK k n):=by
 refine⟨SdM.setK_cl,fun j hj=>?_⟩
 rw[SdM.setK_kn hk hj]
 split
 ·next e=>rw[e];exact⟨h1,h2⟩
 ·exact⟨rfl,rfl⟩
theorem SameK.sentF {A:SdM}{f:FsM}:SameK A (A.sentF f):=by
 unfold SdM.sentF
 split
 ·exact SameK.put
 split
 ·exact SameK.put
 split
 ·exact SameK.put
 split
 ·exact SameK.refl
 ·unfold SdM.sentD
  split
  ·exact SameK.put
  ·exact⟨rfl,fun _ _=>⟨rfl,rfl⟩⟩
theorem SameK.lostF {A:SdM}{f:FsM}:SameK A (A.lostF f):=by
 unfold SdM.lostF
 split
 ·split
  ·exact SameK.put
  ·exact SameK.refl
 split
 ·split
  ·exact SameK.put
  ·exact SameK.refl
 split
 ·exact SameK.put
 split
 ·split
  ·exact SameK.refl
  ·exact SameK.put
 ·exact SameK.refl
theorem SameK.cameF {A:SdM}{f:FsM}:SameK A (A.cameF f):=by
 unfold SdM.cameF
 split
 ·split
  ·exact SameK.settle
  ·exact SameK.refl
 split
 ·split
  ·exact SameK.refl
  ·unfold SdM.cameD
   split
   ·exact SameK.settle
   ·exact SameK.put
 ·exact SameK.refl
theorem SameK.visit {P:PrM}{i:Bool}{id most:Int}{lost:Bool}:SameK (P.s i) ((P.visit i id most lost).s i):=by
 unfold PrM.visit PrM.send
 split
 ·split
  ·rw[PrM.set2_i];exact SameK.sentF.trans SameK.lostF
  ·rw[PrM.set2_i];exact SameK.sentF.trans SameK.cameF
 ·exact SameK.refl
theorem SameK.tellG {P:PrM}{i:Bool}:SameK (P.s i) ((P.tellG i).s i):=by
 unfold PrM.tellG
 split
 ·rw[PrM.set2_i];exact⟨rfl,fun _ _=>⟨rfl,rfl⟩⟩
 ·exact SameK.refl
theorem SameK.strK {P:PrM}{i lost:Bool}{k:Int}(hk:k=0∨k=1):SameK (P.s i) ((P.strK i k lost).s i):=by
 have h1:SameK (P.s i) ((P.s i).strS k):=SameK.setK hk rfl rfl
 unfold PrM.strK
 split
 ·rw[PrM.set2_i]
  refine h1.trans (SameK.setK hk ?_ ?_)
  ·unfold KdM.lostK;rfl
  ·unfold KdM.lostK;rfl
 ·rw[PrM.set2_i];exact h1
theorem SameK.strG {P:PrM}{i lost:Bool}:SameK (P.s i) ((P.strG i lost).s i):=by
 unfold PrM.strG
 split
 ·exact SameK.strK (.inl rfl)
 split
 ·exact SameK.strK (.inr rfl)
 ·exact SameK.refl
theorem Inv.tellG {P:PrM}{D one many:Int}{n:Nat}{i:Bool}(h:Inv P D one many n):Inv (P.tellG i) D one many n:=by
 unfold PrM.tellG
 split
 ·exact h.tell
 ·exact h
theorem Inv.strK {P:PrM}{D one many:Int}{n:Nat}{i lost:Bool}{k:Int}(h:Inv P D one many n)(hk:k=0∨k=1):Inv (P.strK i k lost) D one many n:=by
 unfold PrM.strK
 split
 ·exact h.str_lost hk
 ·exact h.str_came hk
theorem Inv.strG {P:PrM}{D one many:Int}{n:Nat}{i lost:Bool}(h:Inv P D one many n):Inv (P.strG i lost) D one many n:=by
 unfold PrM.strG
 split
 ·exact h.strK (.inl rfl)
 split
 ·exact h.strK (.inr rfl)
 ·exact h
theorem Inv.visit {P:PrM}{D one many:Int}{n:Nat}{i lost:Bool}{id most:Int}(h:Inv P D one many n)(hid:(P.s i).has id)(hxid:((P.s i).x id).id=id)(hst:((P.s i).x id).stop≤4611686018427387903)(hm:1≤most):Inv (P.visit i id most lost) D one many n:=by
 unfold PrM.visit
 split
 ·next hs=>
  have hn:nextG (P.s i).got ((P.s i).x id) most=((P.nextF i id most).1,true):=by
   rw[←hs];rfl
  obtain⟨_,h1,h2⟩:=h.send hid hxid hst hm hn
  cases lost
  ·exact h1
  ·exact h2
 ·exact h
end Go.Proofs.YtnlaffkihohfkaaGreat
namespace Go.Proofs.YtnlaffkihohfkaaGreat
open Go Go.Sl Go.Proofs
variable {B:Nat}{w0:World}{G:List Hp}{R:Hp→List Hp}
theorem AsAt.give {A:SdM}{b:Nat}{c:Hp}{v:GivM}{g:GotM}(h:AsAt A b c)(hv:v.WF)(hg:g.WF):∃(M:SsM) (p:SsP) (cr:Hp),M.giv=A.giv∧M.got=A.got∧c=[(b,.cells (M.cells p).toArray 73 (0,0))]++cr∧AsAt {A with giv:=v} b ([(b,.cells (SsM.cells {M with giv:=v} p).toArray 73 (0,0))]++cr)∧AsAt {A with got:=g} b ([(b,.cells (SsM.cells {M with got:=g} p).toArray 73 (0,0))]++cr):=by
 obtain⟨M,ps,hM,hw,rfl⟩:=h
 obtain⟨p,cm,cr0,cr1,cs,rfl,hMp,hR0,hR1,hS⟩:=hM
 exact⟨M,p,_,rfl,rfl,rfl,⟨_,ps,SsAt.swap (N:={M with giv:=v}) hMp hR0 hR1 hS rfl rfl rfl,hw.give hv,rfl⟩,⟨_,ps,SsAt.swap (N:={M with got:=g}) hMp hR0 hR1 hS rfl rfl rfl,hw.getg hg,rfl⟩⟩
theorem asStreams_c {A:SdM}{b:Nat}{c:Hp}(hA:AsAt A b c)(hs:Sub c G):
  Go.Sl.Fn Tryz.prog 25 #[.pointer (some ⟨b,0,none⟩)] B w0 G fun u G'=>u=.tuple #[.agg (A.strF.1.cells none 0).toArray,.bool A.strF.2]∧G'=G:=by
 obtain⟨M,ps,hM,hw,rfl⟩:=hA
 exact streams_c hM hs
theorem asStreamsK_c {A:SdM}{b:Nat}{c:Hp}{f:FsM}{ok:Bool}(h:A.strF=(f,ok))(hA:AsAt A b c)(hs:Sub c G):
  Go.Sl.Fn Tryz.prog 25 #[.pointer (some ⟨b,0,none⟩)] B w0 G fun u G'=>u=.tuple #[.agg (f.cells none 0).toArray,.bool ok]∧G'=G:=by
 have:=asStreams_c (B:=B) (w0:=w0) hA hs
 rwa [h]at this
theorem asStrS_c {A:SdM}{b:Nat}{c:Hp}{k:Int}(hsel:Sel G c R)(hA:AsAt A b c)(hk:k=0∨k=1):
  Go.Sl.Fn Tryz.prog 26 #[.pointer (some ⟨b,0,none⟩),.int .i64 k,.bool false] B w0 G fun u G'=>∃c':Hp,u=.tuple #[]∧AsAt (A.strS k) b c'∧G'=R c':=by
 obtain⟨M,ps,hM,hw,rfl⟩:=hA
 refine(streamsSent_c hsel hM hk).mono fun u G' h=>?_
 obtain⟨c',rfl,hc,rfl⟩:=h
 have hkw:(M.kn k).WF:=by unfold SsM.kn;split;exact hw.k0;exact hw.k1
 exact⟨c',rfl,⟨_,ps,hc,hw.setK hk ⟨hkw.op,hkw.may,hkw.came,hkw.giv,hkw.giv⟩ rfl rfl,SsM.abs_setK⟩,rfl⟩
theorem asStrL_c {A:SdM}{b:Nat}{c:Hp}{k:Int}(hsel:Sel G c R)(hA:AsAt A b c)(hk:k=0∨k=1):
  Go.Sl.Fn Tryz.prog 26 #[.pointer (some ⟨b,0,none⟩),.int .i64 k,.bool true] B w0 G fun u G'=>∃c':Hp,u=.tuple #[]∧AsAt (A.strL k) b c'∧G'=R c':=by
 obtain⟨M,ps,hM,hw,rfl⟩:=hA
 have hkw:(M.kn k).WF:=by unfold SsM.kn;split;exact hw.k0;exact hw.k1
 refine(streamsLost_c hsel hM hk hkw.giv.2).mono fun u G' h=>?_
 obtain⟨c',rfl,hc,rfl⟩:=h
 refine⟨c',rfl,⟨_,ps,hc,hw.setK hk ⟨hkw.op,hkw.may,hkw.came,hkw.giv,?_⟩ ?_ ?_,SsM.abs_setK⟩,rfl⟩
 ·have h1:=hkw.giv;have h2:=hkw.told
  show 0≤(if 0<(M.kn k).giv then min (M.kn k).told ((M.kn k).giv-1) else (M.kn k).told)∧(if 0<(M.kn k).giv then min (M.kn k).told ((M.kn k).giv-1) else (M.kn k).told)≤_
  split<;>omega
 ·rfl
 ·rfl
theorem asList_c {A:SdM}{b:Nat}{c:Hp}(hA:AsAt A b c)(hs:Sub c G)(hb:∀k:Int,k=0∨k=1→(A.kn k).op≤1000∧(A.kn k).came≤1000):
  Go.Sl.Fn Tryz.prog 11 #[.pointer (some ⟨b,0,none⟩)] B w0 G fun u G'=>∃y:List Int×Option Addr×Nat×Hp,u=.slice y.2.1 y.1.length y.2.2.1∧(y.1.Perm A.ids∧Ls enQ 27 (.slice y.2.1 y.1.length y.2.2.1) y.2.2.2 y.1)∧G'=[y.2.2.2]++G:=by
 obtain⟨M,ps,hM,hw,rfl⟩:=hA
 have h:=list_c (B:=B) (w0:=w0) hM hs fun j hj=>by
  have hj2:(j:Int)=0∨(j:Int)=1:=by omega
  have hkw:(M.kn j).WF:=by unfold SsM.kn;split;exact hw.k0;exact hw.k1
  have:=hb j hj2
  exact⟨⟨hkw.op.1,this.1⟩,hkw.came.1,this.2⟩
 rw[SsM.ids_abs]at h
 exact h
theorem Inv.kn_b {P:PrM}{D one many:Int}{n:Nat}(h:Inv P D one many n)(i:Bool):∀k:Int,k=0∨k=1→((P.s i).kn k).op≤1000∧((P.s i).kn k).came≤1000:=fun k hk=>by
 have h1:=h.kd i k hk
 have h2:=h.kd (!i) k hk
 rw[not_not_]at h2
 have:=h1.o;have:=h2.o;have:=h2.c;have:=h.nb.1
 omega
def SameW (P P':PrM):Prop:=P'.wr=P.wr∧P'.rd=P.rd∧P'.en=P.en
theorem SameW.refl {P:PrM}:SameW P P:=⟨rfl,rfl,rfl⟩
theorem SameW.trans {P Q R:PrM}(h:SameW P Q)(g:SameW Q R):SameW P R:=⟨g.1.trans h.1,g.2.1.trans h.2.1,g.2.2.trans h.2.2⟩
theorem SameW.visit {P:PrM}{i lost:Bool}{id most:Int}:SameW P (P.visit i id most lost):=by
 unfold PrM.visit PrM.send
 split
 ·split<;>exact SameW.refl
 ·exact SameW.refl
theorem SameW.tellG {P:PrM}{i:Bool}:SameW P (P.tellG i):=by unfold PrM.tellG;split<;>exact SameW.refl
theorem SameW.strG {P:PrM}{i lost:Bool}:SameW P (P.strG i lost):=by
 unfold PrM.strG PrM.strK
 split
 ·split<;>exact SameW.refl
 split
 ·split<;>exact SameW.refl
 ·exact SameW.refl
structure Two (P:PrM)(p:PrP)(i:Bool)(a d:Hp):Prop where
 a:AsAt (P.s i) (p.s i) a
 d:AsAt (P.s (!i)) (p.s (!i)) d
theorem SdM.strF_cases (A:SdM):(A.k0.told<A.k0.giv∧A.strF=(fsK 18 A.k0.giv,true))∨(¬A.k0.told<A.k0.giv∧A.k1.told<A.k1.giv∧A.strF=(fsK 19 A.k1.giv,true))∨(¬A.k0.told<A.k0.giv∧¬A.k1.told<A.k1.giv∧A.strF=(fs0 0,false)):=by
 unfold SdM.strF
 by_cases h0:A.k0.told<A.k0.giv
 ·exact .inl ⟨h0,if_pos h0⟩
 ·by_cases h1:A.k1.told<A.k1.giv
  ·exact .inr (.inl ⟨h0,h1,by rw[if_neg h0,if_pos h1]⟩)
  ·exact .inr (.inr ⟨h0,h1,by rw[if_neg h0,if_neg h1]⟩)
theorem frameSn_c {p:PrP}{i:Bool}{b:Nat}{c:Hp}{f:FsM}{ao:Option Addr}{cap:Nat}{A:SdM}{k:Int}(hsel:Sel G c R)(hb:Sub [(b,.cells p.cells.toArray 42 (0,0))] G)(hbR:∀c',Sub [(b,.cells p.cells.toArray 42 (0,0))] (R c'))(hA:AsAt A (p.s (!i)) c)(hk:f.k=18+k)(hk2:k=0∨k=1)(hl:0≤f.lim∧f.lim≤4611686018427387903):
  Go.Sl.Fn Tryz.prog 27 #[.pointer (some ⟨b,0,none⟩),.int .i64 (1-iv i),.agg (f.cells ao cap).toArray] B w0 G fun u G'=>∃c':Hp,u=.int .i64 0∧AsAt (A.raiseS k f.lim) (p.s (!i)) c'∧G'=R c':=by
 rw[iv_not]
 exact frameS_c hb hbR hsel hA hk hk2 hl
theorem frameN_c {P:PrM}{D one many:Int}{n0:Nat}{p:PrP}{i:Bool}{b:Nat}{c cd:Hp}{f:FsM}{id most:Int}{ao:Option Addr}{cap:Nat}(hsel:Sel G c R)(hb:Sub [(b,.cells p.cells.toArray 42 (0,0))] G)(hbR:∀c',Sub [(b,.cells p.cells.toArray 42 (0,0))] (R c'))(hcd:∀c',Sub cd (R c'))(hB:AsAt (P.s (!i)) (p.s (!i)) c)(hL:Ls enB 5 (.slice ao f.data.length cap) cd f.data)
  (h:Inv P D one many n0) (hid:(P.s i).has id) (hxw:((P.s i).x id).WF∧((P.s i).x id).id=id) (hm:1≤most) (hn:nextG (P.s i).got ((P.s i).x id) most=(f,true)):
  Go.Sl.Fn Tryz.prog 27 #[.pointer (some ⟨b,0,none⟩),.int .i64 (1-iv i),.agg (f.cells ao cap).toArray] B w0 G fun u G'=>∃c':Hp,u=.int .i64 0∧AsAt ((P.s (!i)).frameF f) (p.s (!i)) c'∧G'=R c':=by
 rw[iv_not]
 exact frame_c hb hbR hsel hcd hB hL h hid hxw hm hn
theorem nextG_small {g:GotM}{x:SmM}{most:Int}(h:(nextG g x most).2=true)(hk:(nextG g x most).1.k≠8):(nextG g x most).1.off=0∧(nextG g x most).1.data=[]:=by
 revert h hk
 unfold nextG
 by_cases h1:x.resets=true∧x.send=4
 ·rw[SsM.next_1 h1];exact fun _ _=>⟨rfl,rfl⟩
 by_cases h2:x.stops=true∧liveS x.recv=true
 ·rw[SsM.next_2 h1 h2];exact fun _ _=>⟨rfl,rfl⟩
 by_cases h3:x.recv=1∧x.giv.wants=true
 ·rw[SsM.next_3 h1 h2 h3];exact fun _ _=>⟨rfl,rfl⟩
 by_cases h4:liveS x.send=true
 ·cases ho:x.out with
  |none=>
   intro h
   exfalso
   rw[SsM.next,if_neg h1,if_neg h2,if_neg h3,if_neg (by rw[h4];decide),ho]at h
   cases h
  |some o=>
   rw[SsM.next_5 h1 h2 h3 h4 ho]
   split
   ·exact fun _ hk=>absurd rfl hk
   ·intro h;cases h
 ·rw[SsM.next_4 h1 h2 h3 (by simpa using h4)]
  intro h;cases h
theorem Inv.next_b {P:PrM}{D one many:Int}{n0:Nat}{i:Bool}{id most:Int}{f:FsM}(h:Inv P D one many n0)(hid:(P.s i).has id)(hm:1≤most)(hn:nextG (P.s i).got ((P.s i).x id) most=(f,true)):(0≤f.off∧f.off≤60000)∧f.data.length≤60000∧(f.k=4∨f.k=5∨f.k=17∨(f.k=8∧liveS ((P.s i).x id).send=true)):=by
 obtain⟨hno,h8⟩:=nextG_of (g:=(P.s i).got) (x:=(P.s i).x id) (most:=most) (by rw[hn])
 have hsm:=nextG_small (g:=(P.s i).got) (x:=(P.s i).x id) (most:=most) (by rw[hn])
 rw[hn]at hno h8 hsm
 dsimp only at hno h8 hsm
 rcases hno.k with⟨hk,_⟩|⟨hk,_⟩|⟨hk,_⟩|⟨hk,h1,_⟩
 ·obtain⟨e1,e2⟩:=hsm zom
  rw[e1,e2]
  exact⟨by omega,by simp,.inl hk⟩
 ·obtain⟨e1,e2⟩:=hsm zom
  rw[e1,e2]
  exact⟨by omega,by simp,.inr (.inl hk)⟩
 ·obtain⟨e1,e2⟩:=hsm zom
  rw[e1,e2]
  exact⟨by omega,by simp,.inr (.inr (.inl hk))⟩
 ·obtain⟨k,r,fi,g,hs⟩:=h.live_on hid h1
  obtain⟨n,p,_⟩:=Piece8.of g hm (h8 hk _ g.out)
  have hW:=h.wl60 (a:=i) hid
  have:=p.hk
  rw[p.len,p.off]
  exact⟨by omega,by omega,.inr (.inr (.inr ⟨hk,h1⟩))⟩
theorem sentF_send {A:SdM}{f:FsM}:((A.sentF f).x f.id).send=(A.x f.id).send∧(A.sentF f).kd f.id=A.kd f.id:=by
 unfold SdM.sentF
 split
 ·exact⟨by rw[SdM.put_x];rfl,rfl⟩
 split
 ·exact⟨by rw[SdM.put_x];rfl,rfl⟩
 split
 ·exact⟨by rw[SdM.put_x];rfl,rfl⟩
 split
 ·exact⟨rfl,rfl⟩
 ·unfold SdM.sentD
  split
  ·exact⟨by rw[SdM.put_x];rfl,rfl⟩
  ·refine⟨?_,rfl⟩
   show (SmM.send (if f.id=f.id then _ else _))=_
   rw[if_pos rfl]
   rfl
theorem noLoss {x:Int}:¬Go.Sl.bitsOf .and .u8 (Int.fdiv 0 x) 1=1:=by
 rw[Int.zero_fdiv]
 decide
structure PwS where
 j:Nat
 P:PrM
 a:Hp
 d:Hp
structure PwI where
 m:Nat
 Q:PrM
 s:Bool
 t:Bool
 a:Hp
 d:Hp
set_option maxHeartbeats 8000000 in
theorem pump_c {P:PrM}{p:PrP}{i:Bool}{b n:Nat}{c:Hp}{lose rounds D one many:Int}(hsel:Sel G c R)(hP:PrAt P p b c)(h:Inv P D one many n)(hl:0≤lose∧lose≤255)(hr:0≤rounds∧rounds≤1000):
  Go.Sl.Fn Tryz.prog 9 #[.pointer (some ⟨b,0,none⟩),.int .i64 (iv i),.int .u8 lose,.int .i64 rounds] B w0 G fun u G'=>∃y:PrM×Hp,u=.tuple #[]∧(Inv y.1 D one many n∧SameW P y.1∧PumpR i (40-lose%40) (decide (lose=0)) rounds.toNat P y.1∧PrAt y.1 p b y.2)∧G'=R y.2:=by
 refine Fn.sel0 hsel fun F hR hF=>?_
 obtain⟨C,hC,rfl⟩:=hP
 have hi:=iv_b i
 have hcn:=PrC.cnt_ (C:=C) (p:=p) (b:=b) i
 refine fn_enter Tryz.func9 rfl (by kernel_rfl) Tryz.ntmps9 (by simp) ?_
 refine cw_cov ([(b,.cells p.cells.toArray 42 (0,0))]::C.s i::C.s (!i)::C.w i::C.w (!i)::C.r i::C.r (!i)::C.e i::C.e (!i)::F) (zcv1 hcn) ?_
 have fin:∀(P':PrM) (a d:Hp),SameW P P'→Two P' p i a d→∃c',PrAt P' p b c'∧∀z,cnt z c'=cnt z [(b,Obj.cells p.cells.toArray 42 (0,0))]+(cnt z a+(cnt z d+(cnt z (C.w i)+(cnt z (C.w (!i))+(cnt z (C.r i)+(cnt z (C.r (!i))+(cnt z (C.e i)+cnt z (C.e (!i))))))))):=fun P' a d hw ht=>by
  have e:P'=P.set2 i (P'.s i) (P'.s (!i)):=by
   have h2:=PrM.set2_same (P:=P') (i:=i)
   obtain⟨h3,h4,h5⟩:=hw
   unfold PrM.set2 at h2⊢
   rw[←h3,←h4,←h5]
   exact h2.symm
  have hC2:=hC.set2 ht.a ht.d
  rw[←e]at hC2
  have hcn2:=PrC.cnt_ (C:={C with s:=upB (upB C.s i a) (!i) d}) (p:=p) (b:=b) i
  have e1:upB (upB C.s i a) (!i) d i=a:=(if_neg (Ne.symm (not_ne i))).trans upB_i
  simp only[e1,upB_i]at hcn2
  exact⟨_,⟨_,hC2,rfl⟩,hcn2⟩
 refine qs<|qm<|qm<|qn ?_
 refine qf Ty.fd42_0 ?_
 refine qv (v_indexAddrA Tryz.underlying36 Ty.el36 rfl rfl (Int.toNat_of_nonneg zom).symm zom) ?_
 refine ql (Var.at1 Ty.sc35 .here (PrP.gs))<|qa<|qt<|qs<|qm<|qm ?_
 refine qt ?_
 refine cw_block ?_
 refine cw_loop2 (ι:=(PwS)) [(0,_),(1,_),(2,_),(8,_),(23,_)] ⟨rfl,rfl,rfl,rfl,rfl,trivial⟩ ((fun x=>[(24,.int .i64 x.j)])) ((fun x=>x.j≤rounds.toNat∧Inv x.P D one many n∧SameW P x.P∧Pum i (40-lose%40) (decide (lose=0)) x.j P x.P∧Two x.P p i x.a x.d)) ((fun x=>rounds.toNat-x.j)) ((fun x=>[(b,.cells p.cells.toArray 42 (0,0))]::x.a::x.d::C.w i::C.w (!i)::C.r i::C.r (!i)::C.e i::C.e (!i)::F)) ((⟨0,P,C.s i,C.s (!i)⟩:PwS)) zenv zcov ?_ ?_
 ·exact⟨Nat.zero_le _,h,SameW.refl,.zero P,⟨hC.s i,hC.s (!i)⟩⟩
 rintro⟨j,P1,a,d⟩ ⟨hj,hI,hW,hPu,hT⟩
 dsimp only at hj hI hW hPu hT⊢
 refine qs ?_
 refine qv (v_lss rfl rfl)<|qt<|cw_seq ?_
 refine cw_dec rfl (fun hc25=>?_) (fun hc25=>?_)
 refine cw_skip<|xw_then<|cw_seq ?_
 refine cw_block<|qs<|qm<|qa<|qt<|qs<|qa<|qt ?_
 rotate_left
 refine cw_exit ?_
 refine xw_then_exit ?_
 refine xw_round_exit ?_
 refine xw_block_exit ?_
 refine ret0n rfl ?_
 rotate_left
 ·refine cw_cut2 (ι:=((Hp×Hp))) [(0,_),(1,_),(2,_),(8,_),(9,_),(10,_),(23,_),(24,_)] ⟨rfl,rfl,rfl,rfl,rfl,rfl,rfl,rfl,trivial⟩ ((fun y=>[])) ((fun y=>Two (P1.tellG i) p i y.1 y.2)) ((fun y=>[(b,.cells p.cells.toArray 42 (0,0))]::y.1::y.2::C.w i::C.w (!i)::C.r i::C.r (!i)::C.e i::C.e (!i)::F)) ?_ ?_
  ·obtain⟨g1,g2⟩:=hT.a.wf_giv
   obtain⟨g3,g4⟩:=hT.d.wf_giv
   obtain⟨M,pp,cr,e1,_,rfl,hA1,_⟩:=hT.a.give (v:=(P1.s i).giv.tell) (g:=(P1.s i).got) (GivM.tell_wf g1) g2
   obtain⟨N,pq,dr,_,e2,rfl,_,hB1⟩:=hT.d.give (v:=(P1.s (!i)).giv) (g:=(P1.s (!i)).got.raise (P1.s i).giv.lim) g3 (GotM.raise_wf g4 g1.lim.1)
   rw[←e1]at g1 hA1 hB1
   rw[←e2]at g4 hB1
   have o1:=M.giv.one
   have o2:=N.got.one
   have o3:=M.giv.tell.one
   have o4:=(N.got.raise M.giv.lim).one
   refine cw_cov ([(b,.cells p.cells.toArray 42 (0,0))]::[(p.s i,.cells (M.cells pp).toArray 73 (0,0))]::[(p.s (!i),.cells (N.cells pq).toArray 73 (0,0))]::cr::dr::C.w i::C.w (!i)::C.r i::C.r (!i)::C.e i::C.e (!i)::F) zcov ?_
   refine qs<|qm<|qn ?_
   refine qf Ty.fd73_0 ?_
   refine ow_val rfl rfl (v_load rfl (Var.atN Ty.ag51 (.there .here) ((GetN.mid (vs:=M.giv.cells) rfl)) zra)) ?_
   refine qv (v_call rfl rfl (givWants_c g1))<|qt ?_
   refine cw_dec rfl (fun hc31=>?_) (fun hc31=>?_)
   refine qs<|qm<|qm<|qn ?_
   refine qf Ty.fd73_0 ?_
   refine ow_val rfl rfl (v_load rfl (Var.atN Ty.ag51 (.there .here) ((GetN.mid (vs:=M.giv.cells) rfl)) zra)) ?_
   refine qv (v_call rfl rfl (givTold_c))<|qn ?_
   refine qf Ty.fd73_0 ?_
   refine ow_storeN rfl rfl rfl Ty.ag51 zra zao (.there .here) ((SetN.mid (l':=SsM.cells {M with giv:=M.giv.tell} pp) (Nat.le_of_ble_eq_true rfl) rfl)) ?_
   refine qt ?_
   refine cw_mix [] [25] [0,1,2,3,4,5,6,7,8,9,10,11,12,13,14,15,16,17,18,19,20,21,22,23,24] Ty.mixed rfl rfl rfl rfl zdk ?_
   refine hmv ?_
   refine hmv ?_
   refine hw_pure rfl rfl (v_sub rfl rfl (nw_i64 zom zom)) rfl ?_
   refine hw_pure rfl rfl (v_nilCheck rfl) rfl ?_
   refine hw_pure rfl rfl (v_fieldAddr0 Ty.fd42_0 rfl) rfl ?_
   refine hw_pure rfl rfl (v_indexAddrA Tryz.underlying36 Ty.el36 rfl rfl (Int.toNat_of_nonneg zom).symm zom) rfl ?_
   refine hw_read rfl rfl rfl (v_load rfl (Var.at1 Ty.sc35 .here (PrP.gn))) ?_
   refine hmv ?_
   refine hmv ?_
   refine hw_pure rfl rfl (v_sub rfl rfl (nw_i64 zom zom)) rfl ?_
   refine hw_pure rfl rfl (v_nilCheck rfl) rfl ?_
   refine hw_pure rfl rfl (v_fieldAddr0 Ty.fd42_0 rfl) rfl ?_
   refine hw_pure rfl rfl (v_indexAddrA Tryz.underlying36 Ty.el36 rfl rfl (Int.toNat_of_nonneg zom).symm zom) rfl ?_
   refine hw_read rfl rfl rfl (v_load rfl (Var.at1 Ty.sc35 .here (PrP.gn))) ?_
   refine hw_pure rfl rfl (v_nilCheck rfl) rfl ?_
   refine hw_pure rfl rfl (v_fieldAddr0 Ty.fd73_1 rfl) rfl ?_
   refine hw_read rfl rfl rfl (v_load rfl (Var.atN Ty.ag53 (.there (.there .here)) ((GetN.mid (vs:=N.got.cells) rfl)) zra)) ?_
   refine hmv ?_
   refine hw_pure rfl rfl (v_nilCheck rfl) rfl ?_
   refine hw_pure rfl rfl (v_fieldAddr0 Ty.fd73_0 rfl) rfl ?_
   refine hw_pure rfl rfl (v_fieldAddr0 Ty.fd51_0 rfl) rfl ?_
   refine hw_read rfl rfl rfl (v_load rfl (Var.at1 Ty.sc27 (.there .here) (GetN.lit rfl))) ?_
   refine hw_read rfl rfl rfl (v_call rfl rfl (gotRaise_c)) ?_
   refine hw_pure rfl rfl (v_nilCheck rfl) rfl ?_
   refine hw_pure rfl rfl (v_fieldAddr0 Ty.fd73_1 rfl) rfl ?_
   refine hw_nil ?_
   refine sw_nil ?_
   refine ow_storeN rfl rfl rfl Ty.ag53 zra zao (.there (.there .here)) ((SetN.mid (l':=SsM.cells {N with got:=N.got.raise M.giv.lim} pq) (Nat.le_of_ble_eq_true rfl) rfl)) ?_
   refine ow_nil ?_
   refine xw_np ?_
   rotate_left
   refine cw_skip ?_
   rotate_left
   ·have ht:P1.tellG i=P1.set2 i {P1.s i with giv:=M.giv.tell} {P1.s (!i)with got:=N.got.raise M.giv.lim}:=by
     unfold PrM.tellG
     rw[if_pos (by rw[←e1];exact wants_iff.2 hc31),e1,e2]
    refine xw_joint ([(p.s i,.cells (SsM.cells {M with giv:=M.giv.tell} pp).toArray 73 (0,0))]++cr,[(p.s (!i),.cells (SsM.cells {N with got:=N.got.raise M.giv.lim} pq).toArray 73 (0,0))]++dr) ⟨?_,?_⟩ zcov zenv
    ·rw[ht,PrM.set2_i];exact hA1
    ·rw[ht,PrM.set2_n];exact hB1
   ·have ht:P1.tellG i=P1:=by
     unfold PrM.tellG
     rw[if_neg]
     rw[←e1]
     exact fun e=>hc31 (wants_iff.1 e)
    refine xw_joint ([(p.s i,.cells (M.cells pp).toArray 73 (0,0))]++cr,[(p.s (!i),.cells (N.cells pq).toArray 73 (0,0))]++dr) ⟨?_,?_⟩ zcov zenv
    ·rw[ht];exact hT.a
    ·rw[ht];exact hT.d
  rintro⟨a2,d2⟩ hT2
  dsimp only at hT2⊢
  have hI2:=hI.tellG (i:=i)
  have hW2:=hW.trans (SameW.tellG (P:=P1) (i:=i))
  have fo:=@FsM.one
  have fl:=@FsM.len
  refine cw_cut2 (ι:=((Bool×Hp×Hp))) [(0,_),(1,_),(2,_),(8,_),(9,_),(23,_),(24,_)] ⟨rfl,rfl,rfl,rfl,rfl,rfl,rfl,trivial⟩ ((fun y=>[(10,.bool ((P1.tellG i).s i).strF.2)])) ((fun y=>Two ((P1.tellG i).strG i y.1) p i y.2.1 y.2.2∧(lose=0→y.1=false))) ((fun y=>[(b,.cells p.cells.toArray 42 (0,0))]::y.2.1::y.2.2::C.w i::C.w (!i)::C.r i::C.r (!i)::C.e i::C.e (!i)::F)) ?_ ?_
  ·have hgb0:=hI2.giv_b (i:=i) (k:=0) (.inl rfl)
   have hgb1:=hI2.giv_b (i:=i) (k:=1) (.inr rfl)
   have hgb0':0≤((P1.tellG i).s i).k0.giv∧((P1.tellG i).s i).k0.giv≤10000:=hgb0
   have hgb1':0≤((P1.tellG i).s i).k1.giv∧((P1.tellG i).s i).k1.giv≤10000:=hgb1
   rcases ((P1.tellG i).s i).strF_cases with⟨s1,s2⟩|⟨s0,s1,s2⟩|⟨s0,s1,s2⟩
   ·rw[s2]
    have fl1:=fl (f:=fsK 18 ((P1.tellG i).s i).k0.giv) (ao:=none) (cap:=0)
    have fk1:(fsK 18 ((P1.tellG i).s i).k0.giv).k=18:=rfl
    refine qs<|qm ?_
    refine qv (v_call rfl rfl (asStreamsK_c s2 hT2.a zhas))<|qm ?_
    refine qv (v_extract rfl rfl) ?_
    refine qv (v_extract rfl rfl) ?_
    refine ow_alloc rfl rfl Ty.ze82 fun b11=>?_
    refine ow_storeN rfl rfl rfl Ty.ag82 zra zao .here (SetN.all zsa) ?_
    refine qa<|qt<|qs<|qm<|qt ?_
    refine cw_true rfl<|qs<|qm ?_
    refine qf Ty.fd82_0 ?_
    refine ql (Var.at1 Ty.sc76 .here (GetN.lit rfl)) ?_
    refine qv (v_sub rfl rfl (nw_u8 zom zom)) ?_
    refine qv (v_convert Tryz.underlying76 Tryz.underlying3 rfl (nw_i64 zom zom)) ?_
    (refine ow_call rfl rfl rfl rfl (asStrS_c zsel hT2.a (.inl rfl)) ?_;rintro _ _ ⟨x76,rfl,hq76,rfl⟩)
    refine qt<|cw_seq<|qs<|qm<|qm ?_
    refine qv (v_remP rfl rfl zom zom) ?_
    refine qv (v_shr rfl rfl zom rfl) ?_
    refine qv (v_and rfl rfl rfl) ?_
    refine qv (v_eql rfl rfl)<|qt ?_
    refine cw_dec rfl (fun hc82=>?_) (fun hc82=>?_)
    refine cw_region<|qm ?_
    refine qf Ty.fd82_0 ?_
    refine ql (Var.at1 Ty.sc76 .here (GetN.lit rfl)) ?_
    refine qv (v_sub rfl rfl (nw_u8 zom zom)) ?_
    refine qv (v_convert Tryz.underlying76 Tryz.underlying3 rfl (nw_i64 zom zom)) ?_
    (refine ow_call rfl rfl rfl rfl (asStrL_c zsel hq76 (.inl rfl)) ?_;rintro _ _ ⟨x88,rfl,hq88,rfl⟩)
    refine qt<|cw_region<|qa<|ow_nil ?_
    rotate_left
    refine cw_region<|qm<|qm ?_
    refine qv (v_sub rfl rfl (nw_i64 zom zom)) ?_
    refine ql (Var.atN Ty.ag82 .here GetN.all zra) ?_
    (refine ow_call rfl rfl rfl rfl (frameSn_c (k:=0) zsel zhas (fun c'=>(by repeat (first|exact Sub.here|refine Sub.there ?_))) hT2.d rfl (.inl rfl) ⟨hgb0'.1,by have:=hgb0'.2;show ((P1.tellG i).s i).k0.giv≤_;omega⟩) ?_;rintro _ _ ⟨x93,rfl,hq93,rfl⟩)
    refine qt<|cw_region<|qa<|ow_nil ?_
    rotate_left
    ·have e:(P1.tellG i).strG i true=(P1.tellG i).set2 i ((((P1.tellG i).s i).strS 0).strL 0) ((P1.tellG i).s (!i)):=by
      unfold PrM.strG
      rw[if_pos s1]
      rfl
     refine xw_joint (true,x88,d2) ⟨⟨?_,?_⟩,fun e0=>?_⟩ zcov zenv
     ·dsimp only;rw[e,PrM.set2_i];exact hq88
     ·dsimp only;rw[e,PrM.set2_n];exact hT2.d
     ·rw[e0]at hc82;exact absurd hc82 noLoss
    ·have e:(P1.tellG i).strG i false=(P1.tellG i).set2 i (((P1.tellG i).s i).strS 0) (((P1.tellG i).s (!i)).raiseS 0 (((P1.tellG i).s i).kn 0).giv):=by
      unfold PrM.strG
      rw[if_pos s1]
      rfl
     refine xw_joint (false,x76,x93) ⟨⟨?_,?_⟩,fun e0=>rfl⟩ zcov zenv
     ·dsimp only;rw[e,PrM.set2_i];exact hq76
     ·dsimp only;rw[e,PrM.set2_n];exact hq93
   ·rw[s2]
    have fl1:=fl (f:=fsK 19 ((P1.tellG i).s i).k1.giv) (ao:=none) (cap:=0)
    have fk1:(fsK 19 ((P1.tellG i).s i).k1.giv).k=19:=rfl
    refine qs<|qm ?_
    refine qv (v_call rfl rfl (asStreamsK_c s2 hT2.a zhas))<|qm ?_
    refine qv (v_extract rfl rfl) ?_
    refine qv (v_extract rfl rfl) ?_
    refine ow_alloc rfl rfl Ty.ze82 fun b11=>?_
    refine ow_storeN rfl rfl rfl Ty.ag82 zra zao .here (SetN.all zsa) ?_
    refine qa<|qt<|qs<|qm<|qt ?_
    refine cw_true rfl<|qs<|qm ?_
    refine qf Ty.fd82_0 ?_
    refine ql (Var.at1 Ty.sc76 .here (GetN.lit rfl)) ?_
    refine qv (v_sub rfl rfl (nw_u8 zom zom)) ?_
    refine qv (v_convert Tryz.underlying76 Tryz.underlying3 rfl (nw_i64 zom zom)) ?_
    (refine ow_call rfl rfl rfl rfl (asStrS_c zsel hT2.a (.inr rfl)) ?_;rintro _ _ ⟨x76,rfl,hq76,rfl⟩)
    refine qt<|cw_seq<|qs<|qm<|qm ?_
    refine qv (v_remP rfl rfl zom zom) ?_
    refine qv (v_shr rfl rfl zom rfl) ?_
    refine qv (v_and rfl rfl rfl) ?_
    refine qv (v_eql rfl rfl)<|qt ?_
    refine cw_dec rfl (fun hc82=>?_) (fun hc82=>?_)
    refine cw_region<|qm ?_
    refine qf Ty.fd82_0 ?_
    refine ql (Var.at1 Ty.sc76 .here (GetN.lit rfl)) ?_
    refine qv (v_sub rfl rfl (nw_u8 zom zom)) ?_
    refine qv (v_convert Tryz.underlying76 Tryz.underlying3 rfl (nw_i64 zom zom)) ?_
    (refine ow_call rfl rfl rfl rfl (asStrL_c zsel hq76 (.inr rfl)) ?_;rintro _ _ ⟨x88,rfl,hq88,rfl⟩)
    refine qt<|cw_region<|qa<|ow_nil ?_
    rotate_left
    refine cw_region<|qm<|qm ?_
    refine qv (v_sub rfl rfl (nw_i64 zom zom)) ?_
    refine ql (Var.atN Ty.ag82 .here GetN.all zra) ?_
    (refine ow_call rfl rfl rfl rfl (frameSn_c (k:=1) zsel zhas (fun c'=>(by repeat (first|exact Sub.here|refine Sub.there ?_))) hT2.d rfl (.inr rfl) ⟨hgb1'.1,by have:=hgb1'.2;show ((P1.tellG i).s i).k1.giv≤_;omega⟩) ?_;rintro _ _ ⟨x93,rfl,hq93,rfl⟩)
    refine qt<|cw_region<|qa<|ow_nil ?_
    rotate_left
    ·have e:(P1.tellG i).strG i true=(P1.tellG i).set2 i ((((P1.tellG i).s i).strS 1).strL 1) ((P1.tellG i).s (!i)):=by
      unfold PrM.strG
      rw[if_neg s0,if_pos s1]
      rfl
     refine xw_joint (true,x88,d2) ⟨⟨?_,?_⟩,fun e0=>?_⟩ zcov zenv
     ·dsimp only;rw[e,PrM.set2_i];exact hq88
     ·dsimp only;rw[e,PrM.set2_n];exact hT2.d
     ·rw[e0]at hc82;exact absurd hc82 noLoss
    ·have e:(P1.tellG i).strG i false=(P1.tellG i).set2 i (((P1.tellG i).s i).strS 1) (((P1.tellG i).s (!i)).raiseS 1 (((P1.tellG i).s i).kn 1).giv):=by
      unfold PrM.strG
      rw[if_neg s0,if_pos s1]
      rfl
     refine xw_joint (false,x76,x93) ⟨⟨?_,?_⟩,fun e0=>rfl⟩ zcov zenv
     ·dsimp only;rw[e,PrM.set2_i];exact hq76
     ·dsimp only;rw[e,PrM.set2_n];exact hq93
   ·rw[s2]
    have fl1:=fl (f:=fs0 0) (ao:=none) (cap:=0)
    refine qs<|qm ?_
    refine qv (v_call rfl rfl (asStreamsK_c s2 hT2.a zhas))<|qm ?_
    refine qv (v_extract rfl rfl) ?_
    refine qv (v_extract rfl rfl) ?_
    refine ow_alloc rfl rfl Ty.ze82 fun b11=>?_
    refine ow_storeN rfl rfl rfl Ty.ag82 zra zao .here (SetN.all zsa) ?_
    refine qa<|qt<|qs<|qm<|qt ?_
    refine cw_false rfl<|cw_skip ?_
    have e:(P1.tellG i).strG i false=P1.tellG i:=by
     unfold PrM.strG
     rw[if_neg s0,if_neg s1]
    refine xw_joint (false,a2,d2) ⟨⟨?_,?_⟩,fun e0=>rfl⟩ zcov zenv
    ·dsimp only;rw[e];exact hT2.a
    ·dsimp only;rw[e];exact hT2.d
  rintro⟨lost,a3,d3⟩ ⟨hT3,hlo⟩
  dsimp only at hT3 hlo⊢
  have hI3:=hI2.strG (i:=i) (lost:=lost)
  have hW3:=hW2.trans (SameW.strG (P:=P1.tellG i) (i:=i) (lost:=lost))
  generalize hP3:(P1.tellG i).strG i lost=P3 at hT3 hI3 hW3
  refine cw_seq<|qs<|qm ?_
  (refine ow_call rfl rfl rfl rfl (asList_c hT3.a zhas (hI3.kn_b i)) ?_;rintro _ _ ⟨x95,rfl,hq95,rfl⟩)
  refine qv (v_len rfl Tryz.underlying34 rfl)<|qm<|qt ?_
  refine cw_block ?_
  obtain⟨l,lo,lc,cl⟩:=x95
  obtain⟨hPm,hL⟩:=hq95
  dsimp only at hPm hL⊢
  generalize hst:((P1.tellG i).s i).strF.2=st at *
  have hll:l.length≤4000:=by
   have h0:=hI3.kn_b i 0 (.inl rfl)
   have h1:=hI3.kn_b i 1 (.inr rfl)
   rw[hPm.length_eq]
   unfold SdM.ids SdM.idsOf
   simp only[List.length_append,idsK_len]
   omega
  refine cw_loop2 (ι:=(PwI)) [(0,_),(1,_),(2,_),(8,_),(9,_),(23,_),(24,_),(95,_),(96,_)] ⟨rfl,rfl,rfl,rfl,rfl,rfl,rfl,rfl,rfl,trivial⟩ ((fun x=>[(10,.bool x.t),(97,.int .i64 x.m)])) ((fun x=>x.m≤l.length∧(Inv x.Q D one many n∧SameW P3 x.Q∧SameK (P3.s i) (x.Q.s i))∧Runs i (40-lose%40) (decide (lose=0)) P3 (l.take x.m) x.s x.Q∧Two x.Q p i x.a x.d∧x.t=(st||x.s))) ((fun x=>l.length-x.m)) ((fun x=>cl::[(b,.cells p.cells.toArray 42 (0,0))]::x.a::x.d::C.w i::C.w (!i)::C.r i::C.r (!i)::C.e i::C.e (!i)::F)) ((⟨0,P3,false,st,a3,d3⟩:PwI)) zenv zcov ?_ ?_
  ·exact⟨Nat.zero_le _,⟨hI3,SameW.refl,SameK.refl⟩,by rw[List.take_zero];exact .nil P3,hT3,by simp⟩
  rintro⟨m,Q,s,t,a4,d4⟩ ⟨hm,⟨hIq,hWq,hKq⟩,hRu,hT4,hts⟩
  dsimp only at hm hIq hWq hKq hRu hT4 hts⊢
  refine qs ?_
  refine qv (v_lss rfl rfl)<|qt<|cw_seq ?_
  refine cw_dec rfl (fun hc98=>?_) (fun hc98=>?_)
  refine cw_skip<|xw_then ?_
  rotate_left
  refine cw_exit ?_
  refine xw_then_exit ?_
  refine xw_round_exit ?_
  refine xw_block_exit<|xw_then<|qs<|qm ?_
  refine qv (v_not_bool rfl)<|qt ?_
  refine cw_bool rfl (fun hc144=>?_) (fun hc144=>?_)
  refine cw_ret ?_
  refine xw_block_ret ?_
  refine xw_then_ret ?_
  refine xw_round_ret ?_
  refine xw_block_ret ?_
  refine ret0 rfl ?_
  rotate_left
  refine cw_skip ?_
  refine xw_block<|xw_then<|cw_region ?_
  refine qv (v_add rfl rfl (nw_i64 zom zom))<|qm<|ow_nil ?_
  rotate_left
  ·have hm2:m<l.length:=by omega
   have hhas:(Q.s i).has l[m]:=hKq.has.2 (SdM.ids_has.1 (hPm.mem_iff.1 (List.getElem_mem hm2)))
   obtain⟨i0,i1⟩:=hIq.has_lt hhas
   have hNS:(NS:Int)=400:=rfl
   have hidb:0≤l[m]∧l[m]≤18446744073709551615:=⟨i0,by omega⟩
   have hxw:=hT4.a.wf_x hidb
   have hokm:enQ.ok l[m]:=hidb
   refine cw_seq ?_
   refine cw_block<|qs ?_
   refine ow_val rfl rfl (v_indexAddr_ls Tryz.underlying34 (qTy) rfl rfl zas rfl zom) ?_
   refine ql (Go.Sl.Vw.var (qTy) ((Go.Sl.Ls.vw hL zhas)) zom)<|qa<|qt<|qs<|qm<|qm<|qm ?_
   (refine ow_call rfl rfl rfl rfl (asGet_c zsel hT4.a hidb hhas) ?_;rintro _ _ ⟨x105,rfl,hq105,rfl⟩)
   refine qm ?_
   refine qv (v_convert Tryz.underlying5 Tryz.underlying3 rfl (nw_i64 zom zom)) ?_
   refine qv (v_remP rfl rfl zom zom) ?_
   refine qv (v_sub rfl rfl (nw_i64 zom zom)) ?_
   (refine ow_call rfl rfl rfl rfl (asNext_c zhas hq105 hidb zom) ?_;rintro _ _ ⟨x110,rfl,hq110,rfl⟩)
   refine qm ?_
   refine qv (v_extract rfl rfl) ?_
   refine qv (v_extract rfl rfl) ?_
   refine ow_alloc rfl rfl Ty.ze82 fun b15=>?_
   refine ow_storeN rfl rfl rfl Ty.ag82 zra zao .here (SetN.all zsa) ?_
   refine qa<|qt ?_
   obtain⟨fao,fcap,cd⟩:=x110
   obtain⟨qb,a5⟩:=x105
   dsimp only at hq105 hq110⊢
   generalize hfr:nextG (Q.s i).got ((Q.s i).x l[m]) (40-lose%40)=fr at *
   obtain⟨f,ok⟩:=fr
   have htk:l.take (m+1)=l.take m++[l[m]]:=(List.take_succ_eq_append_getElem hm2)
   cases ok with
   |false=>
    dsimp only at hq110⊢
    refine cw_seq<|qs<|qm ?_
    refine qv (v_not_false rfl)<|qt ?_
    refine cw_true rfl ?_
    refine cw_exit ?_
    refine xw_then_exit ?_
    refine xw_block_exit<|xw_then<|cw_region ?_
    refine qv (v_add rfl rfl (nw_i64 zom zom)) ?_
    refine qm<|ow_nil ?_
    have hv:∀lo,Q.visit i l[m] (40-lose%40) lo=Q:=fun lo=>by
     unfold PrM.visit PrM.nextF
     rw[hfr,if_neg (fun e=>Bool.noConfusion e)]
    have hR2:=Runs.snoc l[m] false hRu fun _=>rfl
    rw[hv,←htk]at hR2
    have hne:(Q.nextF i l[m] (40-lose%40)).2=false:=by unfold PrM.nextF;rw[hfr]
    rw[hne,Bool.or_false]at hR2
    exact xw_round (⟨m+1,Q,s,t,a5,d4⟩:PwI) ⟨by dsimp only;omega,⟨hIq,hWq,hKq⟩,hR2,⟨hq105.as,hT4.d⟩,hts⟩ zdo zcov zenv
   |true=>
    dsimp only at hq110⊢
    obtain⟨hfid,hIc,hIl⟩:=hIq.send hhas hxw.2 hxw.1.stop.2 zom hfr
    obtain⟨hb1,hb2,hkk⟩:=hIq.next_b hhas zom hfr
    have hne:(Q.nextF i l[m] (40-lose%40)).2=true:=by unfold PrM.nextF;rw[hfr]
    have hv:∀lo,Q.visit i l[m] (40-lose%40) lo=Q.send i f lo:=fun lo=>by
     unfold PrM.visit PrM.nextF
     rw[hfr,if_pos rfl]
    have hR2:=fun (lo:Bool) (hlo:decide (lose=0)=true→lo=false)=>Runs.snoc l[m] lo hRu hlo
    rw[hne,Bool.or_true]at hR2
    simp only[hv]at hR2
    rw[←htk]at hR2
    have fl1:=fl (f:=f) (ao:=fao) (cap:=fcap)
    have hkS:f.k=4∨f.k=5∨f.k=17∨(f.k=8∧((Q.s i).x f.id).send≠0):=by
     rw[hfid]
     rcases hkk with e|e|e|⟨e,e2⟩
     ·exact .inl e
     ·exact .inr (.inl e)
     ·exact .inr (.inr (.inl e))
     ·exact .inr (.inr (.inr ⟨e,fun e3=>by rw[e3]at e2;cases e2⟩))
    obtain⟨z1,z2⟩:=sentF_send (A:=Q.s i) (f:=f)
    have hkS2:f.k=4∨f.k=5∨f.k=17∨(f.k=8∧(((Q.s i).sentF f).x f.id).send≠0):=by rw[z1];exact hkS
    have hkL:f.k=4∨f.k=5∨f.k=17∨(f.k=8∧liveS (((Q.s i).sentF f).x f.id).send=true):=by rw[z1,hfid];exact hkk
    have hgd:(((Q.s i).sentF f).kd f.id).giv<4611686018427387903:=by rw[z2];exact hIq.kd_lt
    have hidf:0≤f.id∧f.id≤18446744073709551615:=by rw[hfid];exact hidb
    have hhf:(Q.s i).has f.id:=by rw[hfid];exact hhas
    have hhf2:((Q.s i).sentF f).has f.id:=SameK.sentF.has.2 hhf
    have hq105':AsAtM (Q.s i) f.id qb (p.s i) a5:=by rw[hfid];exact hq105
    have hoff:0≤f.off∧f.off≤4611686018427387903:=⟨hb1.1,by omega⟩
    have hdl:f.data.length≤1000000:=by omega
    refine cw_seq<|qs<|qm ?_
    refine qv (v_not_true rfl)<|qt ?_
    refine cw_false rfl<|cw_skip<|xw_then<|qs<|qa<|qt<|qs ?_
    refine qm ?_
    refine ql (Var.atN Ty.ag82 .here GetN.all zra) ?_
    (refine ow_call rfl rfl rfl rfl (asSent_c zsel hq105' hidf hhf hkS hoff hdl) ?_;rintro _ _ ⟨x117,rfl,hq117,rfl⟩)
    refine qt<|cw_seq<|qs<|qm<|qm<|qm ?_
    refine qv (v_convert Tryz.underlying27 Tryz.underlying3 rfl (nw_i64 zom zom)) ?_
    refine qv (v_add rfl rfl (nw_i64 zom zom)) ?_
    refine qv (v_remP rfl rfl zom zom) ?_
    refine qv (v_shr rfl rfl zom rfl) ?_
    refine qv (v_and rfl rfl rfl) ?_
    refine qv (v_eql rfl rfl) ?_
    refine qt ?_
    refine cw_dec rfl (fun hc126=>?_) (fun hc126=>?_)
    refine qs<|qm ?_
    refine ql (Var.atN Ty.ag82 .here GetN.all zra) ?_
    (refine ow_call rfl rfl rfl rfl (asLost_c zsel hq117 hidf hhf2 hkL hoff hdl) ?_;rintro _ _ ⟨x129,rfl,hq129,rfl⟩)
    refine qt ?_
    refine cw_exit ?_
    refine xw_then_exit ?_
    refine xw_block_exit<|xw_then<|cw_region ?_
    refine qv (v_add rfl rfl (nw_i64 zom zom))<|qm<|ow_nil ?_
    rotate_left
    refine cw_skip<|xw_then<|cw_seq<|qs<|qm<|qm ?_
    refine qv (v_sub rfl rfl (nw_i64 zom zom)) ?_
    refine ql (Var.atN Ty.ag82 .here GetN.all zra) ?_
    (refine ow_call rfl rfl rfl rfl (frameN_c (cd:=cd) zsel zhas (fun c'=>(by repeat (first|exact Sub.here|refine Sub.there ?_))) (fun c'=>(by repeat (first|exact Sub.here|refine Sub.there ?_))) hT4.d hq110 hIq hhas hxw zom hfr) ?_;rintro _ _ ⟨x134,rfl,hq134,rfl⟩)
    refine qv (v_neq rfl rfl)<|qt ?_
    refine cw_false rfl<|cw_skip<|xw_then<|cw_region<|qm ?_
    refine ql (Var.atN Ty.ag82 .here GetN.all zra) ?_
    (refine ow_call rfl rfl rfl rfl (asCame_c zsel hq117 hidf hhf2 hkS2 hoff hdl hgd) ?_;rintro _ _ ⟨x141,rfl,hq141,rfl⟩)
    refine ow_nil ?_
    refine xw_block<|xw_then<|cw_region ?_
    refine qv (v_add rfl rfl (nw_i64 zom zom))<|qm<|ow_nil ?_
    rotate_left
    ·refine xw_round (⟨m+1,Q.send i f true,true,true,x129,d4⟩:PwI) ⟨by dsimp only;omega,⟨hIl,hWq.trans ?_,hKq.trans ?_⟩,hR2 true fun e0=>?_,⟨?_,?_⟩,by simp⟩ zdo zcov zenv
     ·rw[←hv true];exact SameW.visit
     ·dsimp only;rw[←hv true];exact SameK.visit
     ·exfalso
      rw[of_decide_eq_true e0]at hc126
      exact noLoss hc126
     ·show AsAt ((Q.set2 i _ _).s i) _ _;rw[PrM.set2_i];exact hq129
     ·show AsAt ((Q.set2 i _ _).s (!i)) _ _;rw[PrM.set2_n];exact hT4.d
    ·refine xw_round (⟨m+1,Q.send i f false,true,true,x141,x134⟩:PwI) ⟨by dsimp only;omega,⟨hIc,hWq.trans ?_,hKq.trans ?_⟩,hR2 false fun _=>rfl,⟨?_,?_⟩,by simp⟩ zdo zcov zenv
     ·rw[←hv false];exact SameW.visit
     ·dsimp only;rw[←hv false];exact SameK.visit
     ·show AsAt ((Q.set2 i _ _).s i) _ _;rw[PrM.set2_i];exact hq141
     ·show AsAt ((Q.set2 i _ _).s (!i)) _ _;rw[PrM.set2_n];exact hq134
  ·have hmm:m=l.length:=by omega
   rw[hmm,List.take_length]at hRu
   have ht0:t=false:=by simpa using hc144
   obtain⟨c',hP',hc'⟩:=fin Q a4 d4 (hW3.trans hWq) hT4
   rw[hP3.symm]at hRu hPm
   refine⟨(Q,c'),rfl,⟨hIq,hW3.trans hWq,.inr ⟨j,P1,by omega,hPu,l,s,lost,hPm,hRu,fun e0=>hlo (of_decide_eq_true e0),?_⟩,hP'⟩,(by intro p;simp only[List.flatten_cons,List.flatten_nil,List.flatten_append,List.append_nil,List.nil_append,cnt_append,cnt_cons,cnt_nil,List.set_cons_zero,List.set_cons_succ,List.length_nil,List.length_cons,Nat.zero_add,List.append,hc'];omega)⟩
   rw[hst,←hts,ht0]
  ·have hmm:m=l.length:=by omega
   rw[hmm,List.take_length]at hRu
   have ht0:t=true:=by simpa using hc144
   rw[hP3.symm]at hRu hPm
   refine xw_round (⟨j+1,Q,a4,d4⟩:PwS) ⟨by dsimp only;omega,hIq,hW3.trans hWq,.snoc hPu ⟨l,s,lost,hPm,hRu,fun e0=>hlo (of_decide_eq_true e0),?_⟩,hT4⟩ zdo zcov zenv
   rw[hst,←hts,ht0]
 ·have hjj:j=rounds.toNat:=by omega
  obtain⟨c',hP',hc'⟩:=fin P1 a d hW hT
  rw[hjj]at hPu
  exact⟨(P1,c'),rfl,⟨hI,hW,.inl hPu,hP'⟩,(by intro p;simp only[List.flatten_cons,List.flatten_nil,List.flatten_append,List.append_nil,List.nil_append,cnt_append,cnt_cons,cnt_nil,List.set_cons_zero,List.set_cons_succ,List.length_nil,List.length_cons,Nat.zero_add,List.append,hc'];omega)⟩
end Go.Proofs.YtnlaffkihohfkaaGreat
namespace Go.Proofs.YtnlaffkihohfkaaGreat
open Go Go.Sl Go.Proofs
variable {B:Nat}{w0:World}{G:List Hp}{R:Hp→List Hp}
def OpE (A B:SdM):Prop:=∀k,k=0∨k=1→(B.kn k).op=(A.kn k).op
theorem OpE.refl {A:SdM}:OpE A A:=fun _ _=>rfl
theorem OpE.trans {A B C:SdM}(h:OpE A B)(g:OpE B C):OpE A C:=fun k hk=>(g k hk).trans (h k hk)
theorem SameK.ope {A B:SdM}(h:SameK A B):OpE A B:=fun k hk=>(h.2 k hk).1
theorem OpE.setK {A:SdM}{k:Int}{n:KdM}(hk:k=0∨k=1)(h:n.op=(A.kn k).op):OpE A (A.setK k n):=fun j hj=>by
 rw[SdM.setK_kn hk hj]
 split
 ·next e=>rw[e];exact h
 ·rfl
theorem OpE.come {A:SdM}{id:Int}:OpE A (A.come id):=by
 unfold SdM.come
 split
 ·exact OpE.refl
 ·exact OpE.setK kdI_or (by rw[SdM.kd_kn];rfl)
theorem OpE.frameF {A:SdM}{f:FsM}:OpE A (A.frameF f):=by
 unfold SdM.frameF
 repeat' split
 all_goals first
  |exact OpE.refl
  |exact OpE.come
  |exact fun k hk=>(OpE.come (A:=A) (id:=f.id)) k hk
def SmS (x x':SmM):Prop:=x'.giv.ahead=x.giv.ahead∧(x.inn=none→x'.inn=none)
theorem SmS.refl {x:SmM}:SmS x x:=⟨rfl,id⟩
def AhE (A B:SdM):Prop:=∀j,SmS (A.x j) (B.x j)
theorem AhE.refl {A:SdM}:AhE A A:=fun _=>SmS.refl
theorem AhE.trans {A B C:SdM}(h:AhE A B)(g:AhE B C):AhE A C:=fun j=>⟨(g j).1.trans (h j).1,fun e=>(g j).2 ((h j).2 e)⟩
theorem AhE.of_x {A B:SdM}(h:B.x=A.x):AhE A B:=fun j=>by rw[h];exact SmS.refl
theorem AhE.put {A:SdM}{id:Int}{x':SmM}(h:SmS (A.x id) x'):AhE A (A.put id x'):=fun j=>by
 show SmS _ (if j=id then x' else A.x j)
 split
 ·next e=>rw[e];exact h
 ·exact SmS.refl
theorem AhE.put2 {A:SdM}{id:Int}{x':SmM}{v:GivM}{g:GotM}(h:SmS (A.x id) x'):AhE A (A.put2 id x' v g):=AhE.put h
theorem AhE.setK {A:SdM}{k:Int}{n:KdM}:AhE A (A.setK k n):=AhE.of_x SdM.setK_x
theorem AhE.settle {A:SdM}{id:Int}{x':SmM}(h:SmS (A.x id) x'):AhE A (A.settle id x'):=by
 unfold SdM.settle
 split
 ·exact(AhE.put (A:=A) (id:=id) (x':={x' with counted:=true}) h).trans AhE.setK
 ·exact AhE.put h
theorem AhE.come {A:SdM}{id:Int}:AhE A (A.come id):=AhE.of_x SdM.come_x
theorem use_ah {v:GivM}{n:Int}:(v.use n).ahead=v.ahead:=by unfold GivM.use;split<;>rfl
theorem AhE.sentF {A:SdM}{f:FsM}:AhE A (A.sentF f):=by
 unfold SdM.sentF
 split
 ·exact AhE.put ⟨rfl,fun e=>e⟩
 split
 ·exact AhE.put ⟨rfl,fun e=>e⟩
 split
 ·exact AhE.put ⟨rfl,fun e=>e⟩
 split
 ·exact AhE.refl
 ·unfold SdM.sentD
  split
  ·exact AhE.put ⟨rfl,fun e=>e⟩
  ·next o _ _=>exact fun j=>(AhE.put (A:=A) (id:=f.id) (x':={(A.x f.id).outTo (o.sent f.off f.data.length f.fin)with got:=(A.x f.id).got.use (f.off+f.data.length-(A.x f.id).got.used)}) ⟨rfl,fun e=>e⟩) j
theorem AhE.lostF {A:SdM}{f:FsM}:AhE A (A.lostF f):=by
 unfold SdM.lostF
 repeat' split
 all_goals first
  |exact AhE.refl
  |exact AhE.put ⟨rfl,fun e=>e⟩
theorem AhE.cameF {A:SdM}{f:FsM}:AhE A (A.cameF f):=by
 unfold SdM.cameF SdM.cameD
 repeat' split
 all_goals first
  |exact AhE.refl
  |exact AhE.put ⟨rfl,fun e=>e⟩
  |exact AhE.settle ⟨rfl,fun e=>e⟩
theorem giveUp_smS {x:SmM}{c:Int}:SmS x (x.giveUp c):=by
 obtain⟨_,e2,_,e4,_⟩:=giveUp_same (x:=x) (c:=c)
 exact⟨by rw[e2],fun e=>e4.trans e⟩
theorem finish_smS {x:SmM}:SmS x x.finish:=by
 unfold SmM.finish
 repeat' split
 all_goals exact⟨rfl,fun e=>e⟩
theorem unwant_smS {x:SmM}{c:Int}:SmS x (x.unwant c):=by
 unfold SmM.unwant
 split<;>exact⟨rfl,fun e=>e⟩
theorem AhE.frameF {A:SdM}{f:FsM}:AhE A (A.frameF f):=by
 have hx:(A.come f.id).x=A.x:=SdM.come_x
 have hc:AhE A (A.come f.id):=AhE.come
 unfold SdM.frameF
 split
 ·split
  ·exact AhE.refl
  ·next m hm=>exact hc.trans (AhE.put2 (by rw[hx];exact⟨use_ah,fun e=>by rw[hm]at e;cases e⟩))
 split
 ·exact hc.trans (AhE.put (by rw[hx];exact giveUp_smS))
 split
 ·exact hc.trans (AhE.put (by rw[hx];exact⟨rfl,fun e=>e⟩))
 split
 ·exact AhE.refl
 ·next m hm=>exact hc.trans (AhE.put2 (by rw[hx];exact⟨use_ah,fun e=>by rw[hm]at e;cases e⟩))
theorem AhE.readN {A:SdM}{id:Int}{m:InM}{n:Nat}(h:(A.x id).inn=some m):AhE A (A.readN id m n):=by
 have h0:AhE A {A with giv:=A.giv.take n}:=AhE.of_x rfl
 have h1:SmS (A.x id) ((A.x id).offG m n):=by
  unfold SmM.offG
  split
  ·exact⟨rfl,fun e=>by rw[h]at e;cases e⟩
  ·exact⟨rfl,fun e=>by rw[h]at e;cases e⟩
 unfold SdM.readN
 split
 ·exact h0.trans (AhE.settle h1)
 ·exact h0.trans (AhE.put h1)
theorem OpE.visit {P:PrM}{i:Bool}{id most:Int}{lost:Bool}:OpE (P.s i) ((P.visit i id most lost).s i)∧OpE (P.s (!i)) ((P.visit i id most lost).s (!i)):=by
 refine⟨SameK.visit.ope,?_⟩
 unfold PrM.visit PrM.send
 split
 ·split
  ·rw[PrM.set2_n];exact OpE.refl
  ·rw[PrM.set2_n];exact OpE.frameF
 ·exact OpE.refl
theorem AhE.visit {P:PrM}{i:Bool}{id most:Int}{lost:Bool}:AhE (P.s i) ((P.visit i id most lost).s i)∧AhE (P.s (!i)) ((P.visit i id most lost).s (!i)):=by
 unfold PrM.visit PrM.send
 split
 ·split
  ·rw[PrM.set2_i,PrM.set2_n];exact⟨AhE.sentF.trans AhE.lostF,AhE.refl⟩
  ·rw[PrM.set2_i,PrM.set2_n];exact⟨AhE.sentF.trans AhE.cameF,AhE.frameF⟩
 ·exact⟨AhE.refl,AhE.refl⟩
theorem OpE.tellG {P:PrM}{i:Bool}:OpE (P.s i) ((P.tellG i).s i)∧OpE (P.s (!i)) ((P.tellG i).s (!i)):=by
 refine⟨SameK.tellG.ope,?_⟩
 unfold PrM.tellG
 split
 ·rw[PrM.set2_n];exact fun _ _=>rfl
 ·exact OpE.refl
theorem x_tellG {P:PrM}{i a:Bool}:((P.tellG i).s a).x=(P.s a).x:=by
 refine bool_two (p:=fun a=>((P.tellG i).s a).x=(P.s a).x) i ?_ ?_ a
 ·unfold PrM.tellG
  split
  ·rw[PrM.set2_i]
  ·rfl
 ·unfold PrM.tellG
  split
  ·rw[PrM.set2_n]
  ·rfl
theorem OpE.strK {P:PrM}{i lost:Bool}{k:Int}(hk:k=0∨k=1):OpE (P.s (!i)) ((P.strK i k lost).s (!i)):=by
 unfold PrM.strK
 split
 ·rw[PrM.set2_n];exact OpE.refl
 ·rw[PrM.set2_n];exact OpE.setK hk rfl
theorem OpE.strG {P:PrM}{i lost:Bool}:OpE (P.s i) ((P.strG i lost).s i)∧OpE (P.s (!i)) ((P.strG i lost).s (!i)):=by
 refine⟨SameK.strG.ope,?_⟩
 unfold PrM.strG
 split
 ·exact OpE.strK (.inl rfl)
 split
 ·exact OpE.strK (.inr rfl)
 ·exact OpE.refl
theorem x_strK {P:PrM}{i lost a:Bool}{k:Int}:((P.strK i k lost).s a).x=(P.s a).x:=by
 refine bool_two (p:=fun a=>((P.strK i k lost).s a).x=(P.s a).x) i ?_ ?_ a
 ·unfold PrM.strK
  split
  ·rw[PrM.set2_i];exact SdM.setK_x.trans SdM.setK_x
  ·rw[PrM.set2_i];exact SdM.setK_x
 ·unfold PrM.strK
  split
  ·rw[PrM.set2_n]
  ·rw[PrM.set2_n];exact SdM.setK_x
theorem x_strG {P:PrM}{i lost a:Bool}:((P.strG i lost).s a).x=(P.s a).x:=by
 unfold PrM.strG
 split
 ·exact x_strK
 split
 ·exact x_strK
 ·rfl
structure SameN (P Q:PrM):Prop where
 w:Q.wr=P.wr
 o:∀i,OpE (P.s i) (Q.s i)
 a:∀i,AhE (P.s i) (Q.s i)
theorem SameN.refl {P:PrM}:SameN P P:=⟨rfl,fun _=>OpE.refl,fun _=>AhE.refl⟩
theorem SameN.trans {P Q R:PrM}(h:SameN P Q)(g:SameN Q R):SameN P R:=⟨g.w.trans h.w,fun i=>(h.o i).trans (g.o i),fun i=>(h.a i).trans (g.a i)⟩
theorem SameN.visit {P:PrM}{i:Bool}{id most:Int}{lost:Bool}:SameN P (P.visit i id most lost):=⟨SameW.visit.1,bool_two i OpE.visit.1 OpE.visit.2,bool_two i AhE.visit.1 AhE.visit.2⟩
theorem SameN.tellG {P:PrM}{i:Bool}:SameN P (P.tellG i):=⟨SameW.tellG.1,bool_two i OpE.tellG.1 OpE.tellG.2,fun a=>AhE.of_x x_tellG⟩
theorem SameN.strG {P:PrM}{i lost:Bool}:SameN P (P.strG i lost):=⟨SameW.strG.1,bool_two i OpE.strG.1 OpE.strG.2,fun a=>AhE.of_x x_strG⟩
theorem Runs.same {i:Bool}{most:Int}{q:Bool}{P Q:PrM}{l:List Int}{s:Bool}(h:Runs i most q P l s Q):SameN P Q:=by
 induction h with
 |nil=>exact SameN.refl
 |snoc id lost _ _ ih=>exact ih.trans SameN.visit
theorem It.same {i:Bool}{most:Int}{q:Bool}{P P':PrM}{s:Bool}(h:It i most q P s P'):SameN P P':=by
 obtain⟨l,s,lost,_,hr,_⟩:=h
 exact(SameN.tellG.trans SameN.strG).trans hr.same
theorem Pum.same {i:Bool}{most:Int}{q:Bool}{n:Nat}{P P':PrM}(h:Pum i most q n P P'):SameN P P':=by
 induction h with
 |zero=>exact SameN.refl
 |snoc _ h2 ih=>exact ih.trans h2.same
theorem PumpR.same {i:Bool}{most:Int}{q:Bool}{n:Nat}{P P':PrM}(h:PumpR i most q n P P'):SameN P P':=by
 rcases h with h|⟨n,Q,_,h,h2⟩
 ·exact h.same
 ·exact h.same.trans h2.same
def PrM.Ah (P:PrM)(one:Int):Prop:=∀i j,((P.s i).x j).inn=none∨one≤((P.s i).x j).giv.ahead
theorem AhE.ah {A B:SdM}{one:Int}(h:AhE A B)(g:∀j,(A.x j).inn=none∨one≤(A.x j).giv.ahead):∀j,(B.x j).inn=none∨one≤(B.x j).giv.ahead:=fun j=>by
 obtain⟨h1,h2⟩:=h j
 rcases g j with e|e
 ·exact .inl (h2 e)
 ·exact .inr zom
theorem SameN.ah {P Q:PrM}{one:Int}(h:SameN P Q)(g:P.Ah one):Q.Ah one:=fun i=>(h.a i).ah (g i)
def opsT (P:PrM)(i:Bool):Int:=(P.s i).k0.op+(P.s i).k1.op
def lenT (P:PrM)(i:Bool):Int:=sumTo (fun id=>((P.wr i id).length:Int)) NS
def PrM.wt (P:PrM):Int:=lenT P false+lenT P true+100*(opsT P false+opsT P true)
theorem PrM.wt_i (P:PrM)(i:Bool):P.wt=lenT P i+lenT P (!i)+100*(opsT P i+opsT P (!i)):=by
 unfold PrM.wt
 cases i<;>simp only[Bool.not_true,Bool.not_false]<;>omega
theorem SameN.ops {P Q:PrM}(h:SameN P Q)(i:Bool):opsT Q i=opsT P i:=by
 have h0:=h.o i 0 (.inl rfl)
 have h1:=h.o i 1 (.inr rfl)
 have e:∀A:SdM,A.kn 0=A.k0∧A.kn 1=A.k1:=fun A=>⟨rfl,rfl⟩
 rw[(e _).1,(e _).1]at h0
 rw[(e _).2,(e _).2]at h1
 unfold opsT
 omega
theorem SameN.len {P Q:PrM}(h:SameN P Q)(i:Bool):lenT Q i=lenT P i:=by unfold lenT;rw[h.w]
theorem SameN.wt {P Q:PrM}(h:SameN P Q):Q.wt=P.wt:=by
 unfold PrM.wt
 rw[h.ops,h.ops,h.len,h.len]
theorem SameN.set2 {P:PrM}{i:Bool}{A:SdM}(h:OpE (P.s i) A)(g:AhE (P.s i) A):SameN P (P.set2 i A (P.s (!i))):=⟨rfl,bool_two i (by rw[PrM.set2_i];exact h) (by rw[PrM.set2_n];exact OpE.refl),bool_two i (by rw[PrM.set2_i];exact g) (by rw[PrM.set2_n];exact AhE.refl)⟩
theorem wt_opened {P:PrM}{i:Bool}{k:Int}(hk:k=0∨k=1):(P.set2 i ((P.s i).opened k) (P.s (!i))).wt=P.wt+100:=by
 rw[PrM.wt_i _ i,PrM.wt_i P i]
 unfold lenT opsT
 rw[PrM.set2_i,PrM.set2_n]
 have e:((P.s i).opened k).k0.op+((P.s i).opened k).k1.op=(P.s i).k0.op+(P.s i).k1.op+1:=by
  unfold SdM.opened SdM.setK
  rcases hk with rfl|rfl
  ·show (P.s i).k0.op+1+(P.s i).k1.op=_;omega
  ·show (P.s i).k0.op+((P.s i).k1.op+1)=_;omega
 rw[e]
 show sumTo (fun id=>((P.wr i id).length:Int)) NS+sumTo (fun id=>((P.wr (!i) id).length:Int)) NS+_=_
 omega
theorem wt_write {P:PrM}{i:Bool}{id:Int}{A:SdM}{l:List UInt8}(h0:0≤id∧id<NS)(h:OpE (P.s i) A)(g:AhE (P.s i) A)(hl:l.length≤100):((P.set2 i A (P.s (!i))).setW i id (P.wr i id++l)).wt≤P.wt+100:=by
 have hs:SameN P (P.set2 i A (P.s (!i))):=SameN.set2 h g
 have e1:∀a,opsT ((P.set2 i A (P.s (!i))).setW i id (P.wr i id++l)) a=opsT P a:=fun a=>hs.ops a
 have g1:=sumTo_upd (f:=fun j=>((P.wr i j).length:Int)) (g:=fun j=>((((P.set2 i A (P.s (!i))).setW i id (P.wr i id++l)).wr i j).length:Int)) h0.1 h0.2 fun j hj=>by
  show (((if i=i∧j=id then P.wr i id++l else P.wr i j)).length:Int)=_
  rw[if_neg (fun e=>hj e.2)]
 have g2:sumTo (fun j=>((((P.set2 i A (P.s (!i))).setW i id (P.wr i id++l)).wr (!i) j).length:Int)) NS=sumTo (fun j=>((P.wr (!i) j).length:Int)) NS:=sumTo_congr fun j _ _=>by
  show (((if (!i)=i∧j=id then P.wr i id++l else P.wr (!i) j)).length:Int)=_
  rw[if_neg (fun e=>not_ne i e.1)]
 have hwi:((P.set2 i A (P.s (!i))).setW i id (P.wr i id++l)).wr i id=P.wr i id++l:=if_pos ⟨rfl,rfl⟩
 rw[hwi,List.length_append]at g1
 rw[PrM.wt_i _ i,PrM.wt_i P i,e1,e1]
 unfold lenT
 omega
theorem wt_take {P:PrM}{i:Bool}{id mn:Int}:SameN P (P.take i id mn):=by
 unfold PrM.take
 split
 ·exact SameN.refl
 split
 ·exact SameN.set2 SameK.settle.ope (AhE.settle ⟨rfl,fun e=>e⟩)
 split
 ·exact SameN.refl
 ·next m hm=>
  have h:=SameN.set2 (P:=P) (i:=i) (A:=(P.s i).readN id m (m.many mn)) (by
   unfold SdM.readN
   split
   ·exact fun k hk=>(SameK.settle (A:=_) (id:=id)).ope k hk
   ·exact fun _ _=>rfl) (AhE.readN hm)
  exact⟨rfl,h.o,h.a⟩
structure ActN (P Q:PrM):Prop where
 wt:Q.wt≤P.wt+100
 a:∀i,AhE (P.s i) (Q.s i)
theorem SameN.act {P Q:PrM}(h:SameN P Q):ActN P Q:=⟨by rw[h.wt];omega,h.a⟩
theorem ActN.opened {P:PrM}{i:Bool}{k:Int}(hk:k=0∨k=1):ActN P (P.set2 i ((P.s i).opened k) (P.s (!i))):=⟨Int.le_of_eq (wt_opened hk),bool_two i (by rw[PrM.set2_i];exact AhE.setK) (by rw[PrM.set2_n];exact AhE.refl)⟩
theorem ActN.write {P:PrM}{i:Bool}{id:Int}{A:SdM}{l:List UInt8}(h0:0≤id∧id<NS)(h:OpE (P.s i) A)(g:AhE (P.s i) A)(hl:l.length≤100):ActN P ((P.set2 i A (P.s (!i))).setW i id (P.wr i id++l)):=⟨wt_write h0 h g hl,(SameN.set2 h g).a⟩
theorem ActN.ah {P Q:PrM}{one:Int}(h:ActN P Q)(g:P.Ah one):Q.Ah one:=fun i=>(h.a i).ah (g i)
end Go.Proofs.YtnlaffkihohfkaaGreat
