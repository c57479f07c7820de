/- Parts. No condition. -/
import Derived.Scope
import Derived.Test.YtefopednbffpaaaGreatDoorProg
import Derived.Laws.Externs
import Derived.KernelRfl
import Derived.Test.YtefopednbffpaaaGreatDoorQB
set_option linter.all false
namespace Go.Proofs.YtefopednbffpaaaGreatDoor.am
open Go Go.RowKit
open Option renaming some->J,none->D,map_eq_some_iff->r8
open Bool renaming false->O,true->G,and_eq_true->mz
open Go.IntKind renaming i64->Y,u64->U,u8->L
open Decidable renaming decide->ck
open List renaming replicate->fg
open Nat renaming le_refl->gL,lt_of_lt_of_le->zj
open BitVec renaming ofInt->gU
open Go renaming TypeId->bS,Program->cO,Value->bC,World->cd
open Go.Proofs.Tryz renaming prog->fF
open Go.Value renaming pointer->eQ
open Option.some renaming inj->sL
open Go.Proofs.YtefopednbffpaaaGreatDoor.am renaming om->V,St->Z,AV->Q,bJ->K
section
section
variable{P:cO}{call:cT}{ops:Array Oper}{E E0 E':Env}{S S0 S':Z}{O1:List Z}{SH:List Bd}{sn:Nat->Env × Z}{c_:Array Bool}{w:cd}{mu:pC}{hw:Nat->Nat}{ti:Id->TI}
 {base:Nat} {bD:Nat->Prop} {Oj:Z} {SN:cd} {Be:pC} {Cz:Nat->Nat} {CA:Id->TI} {m:Nat} {a:Act} {ag:bV}
def SP(e:∀i b,mu i=J b->i<S.length)(f:Z):ic (S++f) mu=ic S mu:=by
 funext b;apply propext;constructor
 ·rintro⟨i,c,a,g,d⟩
  exact⟨i,c,a,by grind,d⟩
 ·rintro⟨i,c,a,g,d⟩
  exact⟨i,c,a,by grind,d⟩
theorem uj(a:∀i b,mu i=J b->i<S.length)(c:Z):bI ag (S++c) mu=bI ag S mu:=by funext id;cases id<;>grind [bI]
def SQ(I:Inv base bD ag S w mu hw ti)(f:Z):Inv base bD ag (S++f) w mu hw ti/\Ext base bD S w mu hw (S++f) w mu hw:=by
 have a:∀i b,mu i=J b->i<S.length:=λi b h=>(I.mn i b h).1;refine⟨⟨λi j b d e=>?_,λi c g l b d e=>?_,I.xX,λi b h=>?_,I.zY, ?_, ?_,I.oY,I.q_,I.zZ⟩,⟨λ_ _ h=>h,λ_=>gL _,λb h=>by rw[SP a];exact h,λ_ _ _ _ h=>h,λ_ _=>⟨rfl,rfl⟩,Ca.refl _ _,by simp⟩⟩
 ·rw[FT (a i b e)]at d
  rw[SP a];exact I.td i j b d e
 ·rw[FT (a i b e)]at d
  rw[uj a];exact I.sU i c g l b d e
 ·have⟨p,q⟩:=I.mn i b h
  grind
 ·rw[uj a];exact I.z4
 ·rw[uj a];exact I.sV
def aeE(a:FR ops)(m:c_.size=ops.size)(h:Region.ready .any ops c_=[]):∀(n i:Nat),i<n->i<ops.size->c_.getD i O=G:=by
 intro n;induction n with
 |zero=>omega
 |succ n o=>
  intro i l b;cases k:c_.getD i O with
  |true=>rfl
  |false=>
   exfalso;have c:=Bn b;have:i∈Region.ready .any ops c_:=by
    unfold Region.ready;rw[O4];refine⟨by simp_all, ?_⟩;have d:c_.getD i G=O:=by simp_all
    rw[d,c];simp only[Ul,W6,Option.getD_some,SR];rw[agG];intro e g;cases f:Region.binds .any e with
    |false=>rfl
    |true=>
     have j:=a.back i _ c e g f
     grind
   simp_all
def JP(a:c_.size=ops.size)(h:∀i,i<ops.size->c_.getD i O=G):Region.ready .any ops c_=[]:=by grind [Region.ready,List.filter_eq_nil_iff]
def DS.fin(c:Reg P call ops E E0 S S0 E' S' O1 SH sn)(b:DS P ops E E' S sn base bD Oj SN Be Cz CA m mu hw ti c_ a w)(h:∀i,i<ops.size->c_.getD i O=G):
 WJ base bD Oj SN Be Cz CA E' S' a w:=by
 have d:=c.H;have⟨z,s⟩:=FU c.R d b.mle (gL _) (λj o g A=>by have u:=(SK.1 g).1;have:=(b.eff j o g A).1 (h j u);omega);rw[d.last]at z s;have s:=s;have I:=b.I;have f:=b.X;have ext:=b.ext;have v:=b.lv;have r:=b.old;rw[z,s]at I f v;rw[s]at ext r;have l:E'.cl.length=E.cl.length:=by have:=(Lr d ops.size (gL _)).1;rw[d.last]at this;exact this.trans c.hlen
 refine⟨mu,hw,ti,I,⟨l.trans f.len,λt=>?_⟩,ext,v,b.defers,r⟩;by_cases q:∃(j:Nat)(x:Oper),ops[j]? =J x/\x.dst=J t
 ·have⟨j,x,g,n⟩:=q
  exact f.done t j x g n (h j (SK.1 g).1)
 ·have p:∀(j:Nat)(x:Oper),ops[j]? =J x->x.dst≠J t:=λj x g n=>q ⟨j,x,g,n⟩
  have:=DI d (t:=t) ops.size 0 V λk y _ _ T _=>p k y T;rw[JO,d.zero,d.last]at this;have this:=this;rw[this,c.hA t λx n _ e=>?_];·exact f.todo t λj x g n=>absurd n (p j x g)
  grind [List.getElem?_of_mem]
def agH(c:Reg P call ops E E0 S S0 E' S' O1 SH sn)(j:oX P call)(g:mr call)(s:Cy P){Q:Exit->Act->cd->Prop}
 (q:∀k w',WJ base bD Oj SN Be Cz CA E' S' k w'->Q .normal k w'):∀(d m:Nat)(mu:pC)(hw:Nat->Nat)(ti:Id->TI)(c_:Array Bool)(a:Act)(w:cd),
  DS P ops E E' S sn base bD Oj SN Be Cz CA m mu hw ti c_ a w->c_.toList.countP (!·)<=d->wpAny P .any ops Q d c_ a w:=by
 intro d;induction d with
 |zero=>
  intro m mu hw ti c_ a w b t;have e:∀i,i<ops.size->c_.getD i O=G:=by
   intro i f;have x:i<c_.size:=by rw[b.WZ];exact f
   have p:c_.toList.countP (!·)=0:=V;rw[List.countP_eq_zero]at p;have:=p c_[i] ca;simp_all
  exact⟨JP b.WZ e,q a w (b.fin c e)⟩
 |succ d z=>
  intro m mu hw ti c_ a w b t;refine⟨λh=>q a w (b.fin c λi f=>aeE c.R b.WZ h (i+1) i V f),λi f=>?_⟩;refine SO c j g s b f λA n l o k w' r=>z A n l o _ k w' r ?_;unfold Region.ready at f;rw[O4]at f;have⟨u,v⟩:=f;have y:i<ops.size:=by simp_all
  have x:i<c_.toList.length:=by grind
  simp_all[List.countP_set]
end
def amf{P:cO}{call:cT}(hm:P.follows .mixedOrders=G)(hN:Cy P)(n:oX P call)(l:mr call):amg P call:=by
 intro id ops E S E' S' m h base bD Oj SN Be Cz CA a w d Rn hQ;have R:=Iy m;unfold FP at h;split at h;·simp at h
 rename_i E0 S0 s;split at h;·simp at h
 rename_i E1 S1 ss ls T;split at h;case isFalse=>simp at h
 rename_i f;simp at h;obtain⟨rfl,rfl⟩:=h;obtain⟨a1,a2,a3,⟨g,rfl⟩,a5,a6⟩:=MO _ _ _ _ _ s R.nodup;obtain⟨⟨t,ht⟩,_,sn,H⟩:=MU ops.toList 0 E0 (S++g) [S++g] [] _ _ ss ls (λj=>by simp) ca rfl (λo _ ha=>Bm ha) T;have c:Reg P call ops E E0 S (S++g) E1 S1 ss ls sn:={
  R:=R
  H:=H
  h0:=by grind
  agD:=f
  hA:=a6
  hB:=λj o t v ho=>a5 j o t (by simp_all) ho
  hlen:=a3
  apn:=a1}
 refine wp_region_any hm ?_;have⟨mu,hw,ti,I,r,e,lv,hd,old⟩:=Rn;have⟨I1,e1⟩:=tC I;have⟨I2,e2⟩:=SQ I1 g;have k:∀i b,mu i=J b->i<S.length:=λi b h=>(I.mn i b h).1;refine agH c n l hN hQ ops.size 0 mu hw ti _ a _ ?_ ?_
 ·refine⟨xZ _,λj o v he=>?_, ?_,⟨r.1,λt i o u ho x=>?_,λt _=>?_⟩, ?_, ?_,λj o t v A _=>?_,λi u y=>?_,e.ZQ,hd,λi o u x=>?_,by simp⟩
  ·have:(Array.replicate ops.size O).getD j O=O:=by rw[Fk,acf];grind
   simp_all
  ·rw[H.zero]
   simp_all
  ·exfalso
   rw[Fk,acf]at x
   grind
  ·rw[H.zero]
   show RV _ mu hw (ic (S++g) mu) _ _/\e_ (bI E0.ag (S++g) mu) ti _ _;rw[a1,uj k];exact⟨e2.rv (e1.rv (r.2 t).1),(r.2 t).2⟩
  ·rw[H.zero]
   exact(e.trans e1).trans e2
  ·rw[H.zero]
   grind [uj]
  ·have⟨z,b1,b2,_⟩:=c.hB j o t v A
   refine⟨?_,z,b1,by rw[H.zero];exact b2⟩;cases hmu:mu (S.length+Li ops.toList j)<;>grind
  ·have⟨p,q⟩:=old i u y
   refine⟨?_,q⟩;rw[H.zero]
   grind
  ·exfalso
   rw[Fk,acf]at x
   grind
 grind [List.countP_le_length]
end
section
def RH(w:cd)(vs:rH)(e:bS)(o:Nat)(v:bC):(w.alloc (.cells vs e)).setCell ⟨w.heap.size,o,D⟩ v=w.alloc (.cells (vs.setIfInBounds o v) e):=by
 unfold World.setCell World.alloc;simp only;congr 1
 grind
def FY(w:cd)(e:bS):∀(l:List bC)(A B C:rH),B.size=l.length->(w.alloc (.cells (A++B++C) e)).setCells w.heap.size A.size l=w.alloc (.cells (A++l.toArray++C) e):=by
 intro l;induction l with
 |nil=>
  intro A B C h;have:B= #[]:=by simp_all
  subst this;rfl
 |cons v l b=>
  intro A B C h;show((w.alloc (.cells (A++B++C) e)).setCell ⟨w.heap.size,A.size,D⟩ v).setCells w.heap.size (A.size+1) l=_;rw[RH];have c:0<B.size:=by simp_all
  have a:(A++B++C).setIfInBounds A.size v=(A.push v)++(B.extract 1 B.size)++C:=by
   apply Array.ext_getElem?;intro k;simp
   grind
  rw[a];have:=b (A.push v) (B.extract 1 B.size) C (by simp_all);simp_all
section
variable{P:cO}{base:Nat}{bD:Nat->Prop}{ag aT:bV}{S S':Z}{w w':cd}{mu:pC}{hw:Nat->Nat}{ti:Id->TI}
def aqX(P:cO)(base:Nat)(bD:Nat->Prop)(ag:bV)(S:Z)(w:cd)(mu:pC)(hw:Nat->Nat)(ti:Id->TI)(aT:bV)(S':Z)(ts:Array bS)(ty:bS)(args:rH)
    (sz:Nat) (cv:rH) (v:bC) (r:Q):Prop:=
 ∃b o n cap w1,(∃a c0,v=.slice a n c0)/\(Builtin.append_ ts ty args).run P w=.ok (.slice (J ⟨b,o,D⟩) (n+1) cap) w1/\n+1<=cap/\
  (∃vs el,w1.heap[b]? =J (.cells vs el (0,0))/\o+n*sz+sz<=vs.size)/\(∀i,mu i≠J b)/\(∀k,k≠b->k<w.heap.size->w1.heap[k]? =w.heap[k]?)/\
  oq base bD ag S w mu hw ti aT S' (w1.setCells b (o+n*sz) cv.toList) r (.slice (J ⟨b,o,D⟩) (n+1) cap)
def awj(I:Inv base bD ag S w mu hw ti)(hs:AE S S'){id:Id}{es:kp}{zc c:K}{l:rH}{sz:Nat}{ts:Array bS}{ty e:bS}(ha:Cv P ts=J (e,sz))
 {args:rH} {x:Q} {v vx:bC} (h0:args[0]? =J v) (h1:args[1]? =J vx) (hv:RV w mu hw (ic S mu) (.sl (Pa id) sz es) v) (hf:e_ (bI ag S mu) ti (.sl (Pa id) sz es) v)
 (hx:RV w mu hw (ic S mu) x vx) (he:bZ S x=J (sz,[zc])) (m:ES w mu hw (ic S mu) sz [c] l) (E:es.length+1<=1073741824)
 (d:bI ag S mu id=J (J es.length))
 (hl:∀x,bI aT S' mu x=if x=id then J (J (es.length+1))else bI ag S mu x)
 (g:∀i,mu i=D->S'[i]? =S[i]?) (u:∀i j,id=.bx i j->∃b,mu i=J b):
 aqX P base bD ag S w mu hw ti aT S' ts ty args sz l v (.sl (Pa id) sz (es++[c])):=by
 have ht:aeG (ti id) sz es.length v:=by
  have:DJ (bI ag S mu) ti id sz es.length v:=by cases id<;>exact hf
  have⟨o,t1,t2⟩:=this;simp_all
 have⟨_,_,_,_,_,_,_,_,_,_,_,_,_,_,_,h⟩:=pD ha;have f:=ht.1;have⟨l1,l2⟩:=kx (P:=P) I hx he h (λ_=>rfl);have hcs:l.size=sz:=by have:=m.size;simp_all
 have⟨aEq,_,aEr⟩:=I.z4 id _ d;have⟨t1,t2,t3,t4,vs,el,t5,t6⟩:=aEq;rw[ht.2]at t1 t3 t6;by_cases z:es.length+1<=(ti id).cap
 ·have⟨a,n1,q⟩:=l2 1 (gL _)
  rw[show[zc].take 1=[zc]from rfl]at q;have n:=xW sz z;rw[JR,Pb]at n;have hns:a.size=sz:=by have:=q.size;simp_all
  obtain⟨⟨vs',s1,s2,s3⟩,s4,s5,s6,s7,s8⟩:=rB (ti id).b el (0,0) a.toList ((ti id).o+es.length*sz) w vs t5 (by grind);obtain⟨⟨vs2,q1,q2,q3⟩,q4,q5,q6,q7,q8⟩:=rB (ti id).b el (0,0) l.toList ((ti id).o+es.length*sz) (w.setCells (ti id).b ((ti id).o+es.length*sz) a.toList) vs' s1 (by grind);have WK:(storeCells ⟨(ti id).b,(ti id).o+es.length*sz,D⟩ a.toList).run P w=.ok () (w.setCells (ti id).b ((ti id).o+es.length*sz) a.toList):=by
   have:=run_storeCells_cells (P:=P) (ti id).b ((ti id).o+es.length*sz) a.toList 0 w
    (λj hj=>by rw[gh t5];grind)
    (λj _=>by simp[World.frozen?,t5])
    (λy hy=>by
     have⟨k,g⟩:=JK hy;have A:a[k]? =J y:=by grind
     have awk:=I6 A;have⟨p,y',T,hr⟩:=q.cell 0 zc k _ rfl (Eu (by rw[q.len 0 zc rfl];omega));rw[Pc,JO,A]at T;obtain rfl:=sL T;exact hr.one p)
   omega
  refine⟨_,_,es.length,_,_,⟨_,_,f⟩,MP ha (by grind) h1 l1 n1 z WK,z,⟨vs',el,s1,by omega⟩,aEr,λk g _=>s4 k g, ?_⟩;refine Xb (xs:=[c]) I hs hv ht d m ca z t5 q1 (λk g=>(q4 k g).trans (s4 k g)) (q5.trans s5) ⟨q6.trans s6,q7.trans s7,q8.1.trans s8.1,uA s8.2 q8.2⟩ (q2.trans s2) (λk=>?_) hl g u
  grind
 ·have⟨s,t⟩:=tC I
  have⟨_,l2'⟩:=kx (P:=P) s (t.rv hx) he h (λ_=>rfl);have⟨a,n1,q⟩:=l2' 1 (gL _);rw[show[zc].take 1=[zc]from rfl]at q;have hns:a.size=sz:=by have:=q.size;simp_all
  have⟨_,o2⟩:=kx (P:=P) (x:=.sl (Pa id) sz es) s (t.rv hv) rfl h (λ_=>rfl);have⟨r,o1,o3⟩:=o2 es.length (gL _);rw[Ex]at o3;rw[f]at o1;have⟨newCap,rest,c1,c2,c3⟩:=uT (ty:=ty) ha (by grind) h1 l1 o1 n1 z E;have hos:=o3.size;have hwd:w.drew.heap.size=w.heap.size:=rfl;have e1:(w.drew.alloc (.cells (r++a++rest) e)).setCells w.heap.size (0+es.length*sz) l.toList=w.drew.alloc (.cells (r++l++rest) e):=by have:=FY w.drew e l.toList r a rest (by simp_all);simp_all
  refine⟨w.heap.size,0,es.length,newCap,_,⟨_,_,f⟩,c3,c1,⟨_,e,heap_alloc_new _ _, ?_⟩,λi hi=>by have:=(I.mn i _ hi).2.2.1;omega,λk _ g=>heap_alloc _ _ _ g, ?_⟩;·simp_all
  ·rw[e1]
   have:=HE (aT:=aT) (S':=S') (newCap:=newCap) (rest:=rest) (el:=e) (id:=id) I hs ((o3.Lt).append m) h (by simp_all) (by simp_all) (by simp_all) (.inr ⟨_,d,by simp⟩) g u;simp_all
theorem ami(I:Inv base bD ag S w mu hw ti){s:Q}{es:kp}{zc b:K}{h:rH}{sz:Nat}{A:Array bS}{ty e:bS}(t:Cv P A=J (e,sz))
 {args:rH} {x:Q} {a:Option Addr} {len cap:Nat} {vx:bC} (h0:args[0]? =J (.slice a len cap)) (h1:args[1]? =J vx) (hv:RV w mu hw (ic S mu) s (.slice a len cap)) (d:∃z,bZ S s=J (z,es)/\(es.length≠0->z=sz)) (n:len=es.length)
 (v:RV w mu hw (ic S mu) x vx) (u:bZ S x=J (sz,[zc])) (m:ES w mu hw (ic S mu) sz [b] h) (hno:cap<len+1) (o:es.length+1<=1073741824):
 aqX P base bD ag S w mu hw ti (ag++[J (es.length+1)]) S A ty args sz h (.slice a len cap) (.sl (.fr ag.length) sz (es++[b])):=by
 subst n;have⟨_,_,_,_,_,_,_,_,_,_,_,_,_,_,_,c⟩:=pD t;have⟨l1,_⟩:=kx (P:=P) I v u c (λ_=>rfl);have hcs:h.size=sz:=by have:=m.size;simp_all
 have⟨j,l⟩:=tC I;have⟨_,q⟩:=kx (P:=P) j (l.rv v) u c (λ_=>rfl);have⟨f,n1,y⟩:=q 1 (gL _);rw[show[zc].take 1=[zc]from rfl]at y;have hns:f.size=sz:=by have:=y.size;simp_all
 have⟨zz,d,p⟩:=d;have⟨_,o2⟩:=kx (P:=P) j (l.rv hv) d c p;have⟨g,o1,r⟩:=o2 es.length (gL _);rw[Ex]at r;have⟨newCap,rest,E,c2,T⟩:=uT (ty:=ty) t h0 h1 l1 o1 n1 (by grind) o;have hos:=r.size;have hwd:w.drew.heap.size=w.heap.size:=rfl;have e1:(w.drew.alloc (.cells (g++f++rest) e)).setCells w.heap.size (0+es.length*sz) h.toList=w.drew.alloc (.cells (g++h++rest) e):=by have:=FY w.drew e h.toList g f rest (by simp_all);simp_all
 refine⟨w.heap.size,0,es.length,newCap,_,⟨_,_,rfl⟩,T,E,⟨_,e,heap_alloc_new _ _, ?_⟩,λi hi=>by have:=(I.mn i _ hi).2.2.1;omega,λk _ hk=>heap_alloc _ _ _ hk, ?_⟩;·simp_all
 ·rw[e1]
  have:=HE (aT:=ag++[J (es.length+1)]) (S':=S) (newCap:=newCap) (rest:=rest) (el:=e) (id:=.fr ag.length) I (AE.refl S) ((r.Lt).append m) c (by simp_all) (by simp_all)
   (by grind [JS]) (.inl (by simp[bI])) (λ_ _=>rfl) ca
  simpa[Pa]using this
end
end
section
section
variable{P:cO}{base:Nat}{bD:Nat->Prop}{ag aT:bV}{S S':Z}{w w':cd}{mu:pC}{hw:Nat->Nat}{ti:Id->TI}
def ZT(I:Inv base bD ag S w mu hw ti){ts:Array bS}{ty:bS}{args:rH}{s x r:Q}{v vx:bC}{zc c:K}{sz:Nat}{cv:rH}(n:args[0]? =J v)(p:args[1]? =J vx)
 (g:RV w mu hw (ic S mu) s v) (hf:e_ (bI ag S mu) ti s v) (u:RV w mu hw (ic S mu) x vx) (t:bZ S x=J (sz,[zc])) (d:ES w mu hw (ic S mu) sz [c] cv)
 (h:qZ P ag S ts s (.sl .X sz [c])=J (r,aT,S')):aqX P base bD ag S w mu hw ti aT S' ts ty args sz cv v r:=by
 unfold qZ at h;split at h;case h_2=>simp at h
 rename_i e sz0 xz xs m hxs;obtain⟨rfl,rfl⟩:sz=xz/\[c]=xs:=by simpa[bZ]using hxs
 have⟨_,_,_,_,_,_,_,_,_,_,_,_,_,_,_,Ol⟩:=pD m;split at h;·trivial
 split at h;·simp at h
 rename_i y;have y:sz=sz0:=V;subst y;split at h
 ·split at h
  case isFalse=>simp at h
  rename_i a;simp at h;obtain⟨rfl,rfl,rfl⟩:=h;cases g;have:=ami (ty:=ty) (s:=.aw) (es:=[]) I m n p .aw ⟨0,rfl,by simp⟩ rfl u t d V ca;trivial
 ·rename_i rr T es
  split at h;·simp at h
  rename_i q;have A:=MV λe=>q (.inl e);have a:=SW λe=>q (.inr e);subst A;split at h
  ·simp at h
   obtain⟨rfl,rfl,rfl⟩:=h;have l:=g;cases g with
   |AB _ _=>exact ami I m n p l ⟨_,rfl,λ_=>rfl⟩ rfl u t d V a
   |sl _ _ _ b o E cap f g0 hr hb hl hs g1 g2=>
    have:=hr rfl;exact ami I m n p l ⟨_,rfl,λ_=>rfl⟩ g0.1 u t d V a
  ·rename_i k
   split at h;case isFalse=>simp at h
   rename_i hk;simp at h;obtain⟨rfl,rfl,rfl⟩:=h;exact awj (id:=.fr k) I (AE.refl S) m n p g hf u t d a hk (λx=>acg x (gr hk)) (λ_ _=>rfl) ca
  ·rename_i i j
   split at h;case h_2=>simp at h
   rename_i cs bt hS;split at h;case isFalse=>simp at h
   rename_i hj;simp at h;obtain⟨rfl,rfl,rfl⟩:=h;obtain⟨b,hm⟩:∃b,mu i=J b:=by cases g<;>simp_all
   refine awj (id:=.bx i j) I (Xc hS) m n p g hf u t d a (by simp[bI,hm,hS,hj]) (λx=>ach x hm hS (gr hj)) (λk hk=>?_) (λi' j' e=>by simp_all)
   grind
  grind
 ·rename_i i off E cap T
  split at h;·simp at h
  rename_i q;split at h;case h_2=>simp at h
  rename_i z es Zx;simp at h;obtain⟨rfl,rfl,rfl⟩:=h;have l:=g;cases g with
  |cg _ _ _ _ _ b hb g0=>
   have hlen:E=es.length:=by grind [bZ]
   have hz:z=T:=by grind [bZ]
   have A:=MV λe=>q (.inl e);simp at q
   grind [ami]
 grind
end
end
structure Fz where
 x:Tmp
 z:Tmp
 y:Tmp
 q:Tmp
 v:Tmp
 f:Tmp
 l:Tmp
 g:Tmp
 jl:Nat
 jz:Nat
 ts:Array bS
 ti:bS
 te:bS
 ta:bS
 tb:bS
 tf:bS
 fi:Nat
def rR(ops:Array Oper)(p:Nat):Array Oper:=ops.extract 0 p
def zm(ops:Array Oper)(i:Nat):Option Op:=(ops[i]?).map (·.op)
def pJ(ops:Array Oper)(i:Nat):Option Tmp:=(ops[i]?).bind (·.dst)
def awq:Operand->Option Tmp
 |.tmp t=>J t
 |_=>D
def SY(ops:Array Oper):Option Fz:=
 let p:=ops.size -5
 match zm ops p,zm ops (p+1),zm ops (p+2),zm ops (p+3),zm ops (p+4)with
 |some (.call ⟨.builtin .append,args,ts⟩),J (.indexAddr ti (.tmp y) (.tmp l)),J (.store te (.tmp q) (.tmp v)),J (.fieldAddr tf (.tmp g) fi),J (.store ta (.tmp f) (.tmp _))=>
  match args.toList.map awq with
  |[J x,J z]=>
   match(List.range p).find? (λj=>pJ ops j==J l),(List.range p).find? (λj=>pJ ops j==J z)with
   |some jl,J jz=>match zm ops jz with
    |some (.buildSlice tb 1 _)=>J ⟨x,z,y,q,v,f,l,g,jl,jz,ts,ti,te,ta,tb,tf,fi⟩
    |_=>D
   |_,_=>D
  |_=>D
 |_,_,_,_,_=>D
structure agK(P:cO)(ops:Array Oper)(F:Fz):Prop where
 size:5<=ops.size
 back:∀(i:Nat)(o:Oper),ops[i]? =J o->∀e∈o.after,Region.binds .any e=G->e.on<i
 pre:AA (rR ops (ops.size -5))=G
 guard:∀o∈ops.toList,o.guard=D
 o0:zm ops (ops.size -5)=J (.call ⟨.builtin .append,#[.tmp F.x,.tmp F.z],F.ts⟩)/\pJ ops (ops.size -5)=J F.y
 o1:zm ops (ops.size -5+1)=J (.indexAddr F.ti (.tmp F.y) (.tmp F.l))/\pJ ops (ops.size -5+1)=J F.q
 o2:zm ops (ops.size -5+2)=J (.store F.te (.tmp F.q) (.tmp F.v))/\pJ ops (ops.size -5+2)=D
 o3:zm ops (ops.size -5+3)=J (.fieldAddr F.tf (.tmp F.g) F.fi)/\pJ ops (ops.size -5+3)=J F.f
 o4:zm ops (ops.size -5+4)=J (.store F.ta (.tmp F.f) (.tmp F.y))/\pJ ops (ops.size -5+4)=D
 ol:F.jl<ops.size -5/\pJ ops F.jl=J F.l/\∃tl,nN P tl≠D/\zm ops F.jl=J (.call ⟨.builtin .len,#[.tmp F.x],#[tl]⟩)
 ox:∀j,F.jl<=j->j<ops.size -5->pJ ops j≠J F.x
 oz:F.jz<ops.size -5/\pJ ops F.jz=J F.z/\∃ps,zm ops F.jz=J (.buildSlice F.tb 1 ps)
 dsts:∀j,j<ops.size -5->pJ ops j≠J F.y/\pJ ops j≠J F.q
 neq:F.y≠F.q/\F.y≠F.x/\F.y≠F.z/\F.y≠F.v/\F.y≠F.l/\F.y≠F.f/\F.y≠F.g/\F.q≠F.x/\F.q≠F.z/\F.q≠F.v/\F.q≠F.l/\F.q≠F.f/\F.q≠F.g/\
  F.l≠F.x/\F.l≠F.z/\F.l≠F.v/\F.l≠F.f/\F.l≠F.g/\F.f≠F.x/\F.f≠F.z/\F.f≠F.v/\F.f≠F.g/\F.z≠F.x/\F.z≠F.v
 b0:∀j,j<ops.size -5->((Region.before ops).getD (ops.size -5) 0).testBit j=G
 b1:((Region.before ops).getD (ops.size -5+1) 0).testBit (ops.size -5)=G
 b2:((Region.before ops).getD (ops.size -5+2) 0).testBit (ops.size -5+1)=G
 b3:((Region.before ops).getD (ops.size -5+3) 0).testBit (ops.size -5)=G
 b4:((Region.before ops).getD (ops.size -5+4) 0).testBit (ops.size -5+3)=G
 elem:nN P F.ti=nN P F.tb/\∃e,nN P F.tb=J e/\jQ P e=jQ P F.te/\jQ P F.ta=J 1
def fzB(P:cO)(ops:Array Oper)(F:Fz):Bool:=
 let p:=ops.size -5
 let b:=Region.before ops
 ck (5<=ops.size)&&ops.toList.zipIdx.all (λ(o,i)=>o.after.all λe=> !Region.binds .any e||ck (e.on<i))&&AA (rR ops p)&&ops.toList.all (λo=>o.guard.isNone)&&
 (pJ ops p==J F.y)&&(pJ ops (p+1)==J F.q)&&(pJ ops (p+2)==D)&&(pJ ops (p+3)==J F.f)&&(pJ ops (p+4)==D)&&
 (match zm ops p with|some (.call ⟨.builtin .append,args,ts⟩)=>(match args.toList with|[.tmp x,.tmp z]=>x==F.x&&z==F.z&&ts==F.ts|_=>O)|_=>O)&&
 (match zm ops (p+1)with|some (.indexAddr t (.tmp y) (.tmp l))=>t==F.ti&&y==F.y&&l==F.l|_=>O)&&
 (match zm ops (p+2)with|some (.store t (.tmp q) (.tmp v))=>t==F.te&&q==F.q&&v==F.v|_=>O)&&
 (match zm ops (p+3)with|some (.fieldAddr t (.tmp g) i)=>t==F.tf&&g==F.g&&i==F.fi|_=>O)&&
 (match zm ops (p+4)with|some (.store t (.tmp f) (.tmp y))=>t==F.ta&&f==F.f&&y==F.y|_=>O)&&
 ck (F.jl<p)&&(pJ ops F.jl==J F.l)&&
 (match zm ops F.jl with|some (.call ⟨.builtin .len,args,ts⟩)=>(match args.toList,ts.toList with|[.tmp x],[tl]=>x==F.x&&(nN P tl).isSome|_,_=>O)|_=>O)&&
 ck (F.jz<p)&&(pJ ops F.jz==J F.z)&&
 (match zm ops F.jz with|some (.buildSlice t 1 _)=>t==F.tb|_=>O)&&
 (List.range p).all (λj=>pJ ops j !=J F.y&&pJ ops j !=J F.q)&&
 ck (F.y≠F.q/\F.y≠F.x/\F.y≠F.z/\F.y≠F.v/\F.y≠F.l/\F.y≠F.f/\F.y≠F.g/\F.q≠F.x/\F.q≠F.z/\F.q≠F.v/\F.q≠F.l/\F.q≠F.f/\F.q≠F.g/\
  F.l≠F.x/\F.l≠F.z/\F.l≠F.v/\F.l≠F.f/\F.l≠F.g/\F.f≠F.x/\F.f≠F.z/\F.f≠F.v/\F.f≠F.g/\F.z≠F.x/\F.z≠F.v)&&
 (List.range p).all (λj=>(b.getD p 0).testBit j)&&(List.range p).all (λj=>ck (j<F.jl)||pJ ops j !=J F.x)&&
 (b.getD (p+1) 0).testBit p&&(b.getD (p+2) 0).testBit (p+1)&&(b.getD (p+3) 0).testBit p&&(b.getD (p+4) 0).testBit (p+3)&&
 (nN P F.ti==nN P F.tb)&&(match nN P F.tb with|some e=>jQ P e==jQ P F.te&&jQ P F.ta==J 1|none=>O)
def Uv(P:cO)(ops:Array Oper):Option Fz:=(SY ops).bind λF=>if fzB P ops F=G then J F else D
def postOf(F:Fz):List Oper:=
 [⟨J F.z,.buildSlice F.tb 1 #[(0,.tmp F.v)],0,"",#[],D⟩,⟨J F.y,.call ⟨.builtin .append,#[.tmp F.x,.tmp F.z],F.ts⟩,0,"",#[],D⟩,⟨J F.f,.fieldAddr F.tf (.tmp F.g) F.fi,0,"",#[],D⟩,⟨D,.store F.ta (.tmp F.f) (.tmp F.y),0,"",#[],D⟩,
   ⟨J F.z,.move (.const (.tuple #[])),0,"",#[],D⟩,⟨J F.q,.move (.const (.tuple #[])),0,"",#[],D⟩]
theorem agJ{P:cO}{ops:Array Oper}{F:Fz}(h:fzB P ops F=G):agK P ops F:=by
 unfold fzB at h;simp only[mz]at h;obtain⟨⟨⟨⟨⟨⟨⟨⟨⟨⟨⟨⟨⟨⟨⟨⟨⟨⟨⟨⟨⟨⟨⟨⟨⟨⟨⟨⟨⟨g,c⟩,f⟩,b⟩,u⟩,v⟩,w⟩,y⟩,A⟩,o0⟩,o1⟩,o2⟩,o3⟩,o4⟩,jl⟩,E⟩,ol⟩,jz⟩,I⟩,oz⟩,hd⟩,n⟩,r⟩,s⟩,b1⟩,b2⟩,b3⟩,b4⟩,S⟩,q⟩:=h;have k:∀(a:Array Operand)(x z:Tmp),a.toList=[.tmp x,.tmp z]->a= #[.tmp x,.tmp z]:=λa x z h=>by rw[<-ZU (xs:=a),h]
 have j:∀(a:Array Operand)(x:Tmp),a.toList=[.tmp x]->a= #[.tmp x]:=λa x h=>by rw[<-ZU (xs:=a),h]
 have l:∀(a:Array bS)(x:bS),a.toList=[x]->a= #[x]:=λa x h=>by rw[<-ZU (xs:=a),h]
 constructor;case size=>grind
 case back=>
  intro i o p e m T;simp only[AF]at c;have:=c (o,i) (by grind)
  grind [Array.all_eq_true_iff_forall_mem]
 case pre=>exact f
 case guard=>
  intro o p;simp only[AF]at b;simpa using b o p
 case o0=>
  refine⟨?_,by grind⟩;split at o0
  ·rename_i d t m
   split at o0;·grind
   grind
  grind
 case o1=>
  refine⟨?_,by grind⟩;split at o1;all_goals grind
 case o2=>
  refine⟨?_,by grind⟩;split at o2;all_goals grind
 case o3=>
  refine⟨?_,by grind⟩;split at o3;all_goals grind
 case o4=>
  refine⟨?_,by grind⟩;split at o4;all_goals grind
 case ol=>
  refine⟨by grind,by grind, ?_⟩;split at ol
  ·rename_i d t m
   split at ol;·grind
   grind
  grind
 case oz=>
  refine⟨by grind,by grind, ?_⟩;split at oz;·grind
  grind
 case dsts=>
  grind
 case neq=>grind
 case b0=>
  grind
 case ox=>
  grind
 case b1=>exact b1
 case b2=>exact b2
 case b3=>exact b3
 case b4=>exact b4
 case elem=>
  refine⟨by grind, ?_⟩;split at q;·grind
  grind
def Xd{P:cO}{ops:Array Oper}{F:Fz}(h:Uv P ops=J F):agK P ops F:=by unfold Uv at h;cases a:SY ops<;>grind [agJ]
section
def Pd{ops:Array Oper}{a:Array Bool}(c:∀(i:Nat)(o:Oper),ops[i]? =J o->∀e∈o.after,Region.binds .any e=G->e.on<i)(j:a.size=ops.size)(h:Region.ready .any ops a=[]):
 ∀(n i:Nat),i<n->i<ops.size->a.getD i O=G:=by
 intro n;induction n with
 |zero=>omega
 |succ n k=>
  intro i f b;cases d:a.getD i O with
  |true=>rfl
  |false=>
   exfalso;have g:=Bn b;have:i∈Region.ready .any ops a:=by grind [Region.ready]
   simp_all
def Pe{ops:Array Oper}{a:Array Bool}(c:a.size=ops.size){i:Nat}(b:i∈Region.ready .any ops a):
 i<ops.size/\a.getD i O=O/\∀o,ops[i]? =J o->∀e∈o.after,Region.binds .any e=G->a.getD e.on O=G:=by
 grind [Region.ready,Array.all_eq_true_iff_forall_mem]
def I_{ops:Array Oper}{a:Array Bool}(f:a.size=ops.size){i:Nat}(d:i<ops.size)(e:a.getD i O=O){b:Nat}(c:a.toList.countP (!·)<=b+1):(a.setIfInBounds i G).toList.countP (!·)<=b:=by simp_all[List.countP_set]
def MW{ops:Array Oper}{a:Array Bool}(e:a.size=ops.size)(c:a.toList.countP (!·)<=0):∀i,i<ops.size->a.getD i O=G:=by intro i d;have b:a.toList.countP (!·)=0:=V;rw[List.countP_eq_zero]at b;have:=b a[i] ca;simp_all
def FZ{ops:Array Oper}{a:Array Bool}(n:a.size=ops.size)(g:FV ops a){i:Nat}(l:i<ops.size)(m:∀o,ops[i]? =J o->∀e∈o.after,Region.binds .any e=G->a.getD e.on O=G):
 FV ops (a.setIfInBounds i G):=by
 intro j o k b e h f;rw[FW V]at b⊢;by_cases c:i=e.on;·simp_all
 ·rw[if_neg c]
  by_cases d:i=j;·simp_all
  ·rw[if_neg d]at b
   exact g j o k b e h f
theorem xE(a:Act)(d:Tmp)(v:bC)(t:Tmp):(a.put (J d) v).tmps.getD t undef=if d=t then(if d<a.tmps.size then v else undef)else a.tmps.getD t undef:=by
 simp only[Act.put,Fk,agC]
 grind
section
variable{P:cO}{ops:Array Oper}{F:Fz}
structure Ph(ops:Array Oper)(F:Fz)(a0:Act)(yv qv fv:bC)(c_:Array Bool)(a:Act):Prop where
 lsz:c_.size=ops.size
 closed:FV ops c_
 bef:∀j,j<=ops.size -5->c_.getD j O=G
 sz:a.tmps.size=a0.tmps.size
 dfr:a.defers=[]
 cl:∀t,t≠F.y->t≠F.q->t≠F.f->a.tmps.getD t undef=a0.tmps.getD t undef
 sy:a.tmps.getD F.y undef=yv
 sq:c_.getD (ops.size -5+1) O=G->a.tmps.getD F.q undef=qv
 sf:c_.getD (ops.size -5+3) O=G->a.tmps.getD F.f undef=fv
def aqY(d:agK P ops F){s:Act}{yv y x:bC}{wOf:Bool->Bool->cd}(hq:F.q<s.tmps.size)(hf:F.f<s.tmps.size)
 (r1:∀w,(Instr.indexAt F.ti yv (s.tmps.getD F.l undef)).run P w=.ok y w) (r2:∀c,(Instr.storeAt F.te y (s.tmps.getD F.v undef)).run P (wOf O c)=.ok () (wOf G c))
 (r3:∀w,(Instr.fieldAt F.tf (s.tmps.getD F.g undef) F.fi).run P w=.ok x w) (r4:∀c,(Instr.storeAt F.ta x yv).run P (wOf c O)=.ok () (wOf c G))
 {Q:Exit->Act->cd->Prop} (hQ:∀e a,Ph ops F s yv y x e a->(∀i,i<ops.size->e.getD i O=G)->Q .normal a (wOf G G)):
 ∀(g:Nat)(e:Array Bool)(a:Act),Ph ops F s yv y x e a->e.toList.countP (!·)<=g->
  wpAny P .any ops Q g e a (wOf (e.getD (ops.size -5+2) O) (e.getD (ops.size -5+4) O)):=by
 have h5:=d.size;intro g;induction g with
 |zero=>
  intro e a b hc;have u:=MW b.lsz hc;refine⟨JP b.lsz u, ?_⟩
  grind
 |succ g ih=>
  intro e a b hc;refine⟨λh=>?_,λi hi=>?_⟩
  ·have u:=λi hi=>Pd d.back b.lsz h (i+1) i V hi
   grind
  have⟨m,n,hr⟩:=Pe b.lsz hi;have p:=I_ b.lsz m n hc;have q:=FZ b.lsz b.closed m hr;have gs:∀j,(e.setIfInBounds i G).getD j O=if i=j then G else e.getD j O:=λj=>FW (by have:=b.lsz;omega)
  have FJ:ops.size -5<i:=by
   rcases oZ (ops.size -5) i with h|h;·exact h
   ·rw[b.bef i h]at n;cases n
  have k:∀j,j<=ops.size -5->(e.setIfInBounds i G).getD j O=G:=λj hj=>by
   rw[gs];split;·rfl
   ·exact b.bef j hj
  obtain⟨o,ho⟩:∃o,ops[i]? =J o:=⟨_,Bn m⟩;have hg:o.guard=D:=d.guard o (by grind);have hop:zm ops i=J o.op:=by simp[zm,ho]
  have r:pJ ops i=o.dst:=by simp[pJ,ho]
  have⟨n1,n2,n3,n4,n5,n6,n7,n8,n9,n10,n11,n12,n13,n14,n15,n16,n17,n18,n19,n20,n21,n22,n23,n24⟩:=d.neq;have ev:∀t,t≠F.y->t≠F.q->t≠F.f->a.eval (.tmp t)=s.tmps.getD t undef:=λt I A E=>b.cl t I A E;have evy:a.eval (.tmp F.y)=yv:=b.sy;unfold wpOp;rw[ho];simp only;rw[if_pos (by simp[Region.wanted,hg])];refine .inl ?_;unfold Oper.wp;have h4:i=ops.size -5+1\/i=ops.size -5+2\/i=ops.size -5+3\/i=ops.size -5+4:=V;rcases h4 with rfl|rfl|rfl|rfl
  ·have z:o.op=.indexAddr F.ti (.tmp F.y) (.tmp F.l):=by have:=d.o1.1;grind
   have v:o.dst=J F.q:=by rw[<-r];exact d.o1.2
   have l:=r1 (wOf (e.getD (ops.size -5+2) O) (e.getD (ops.size -5+4) O));have f:(execOp a.eval o).run P (wOf (e.getD (ops.size -5+2) O) (e.getD (ops.size -5+4) O))=.ok (.value y) (wOf (e.getD (ops.size -5+2) O) (e.getD (ops.size -5+4) O)):=by simp[execOp,z,evy,ev F.l (Ne.symm n5) (Ne.symm n11) n17,l, -Array.getD_eq_getD_getElem?]
   rw[f,Oper.upon_value,v]
   have:=ih (e.setIfInBounds (ops.size -5+1) G) (a.put (J F.q) y) ⟨by simp[b.lsz],q,k,by simp[Act.put,b.sz],b.dfr,λt I A E=>by rw[xE,if_neg (Ne.symm A)];exact b.cl t I A E,
    by rw[xE,if_neg (Ne.symm n1)];exact b.sy,λ_=>by rw[xE,if_pos rfl,if_pos (by rw[b.sz];exact hq)],λh=>by rw[xE,if_neg n12];exact b.sf (by grind)⟩ p
   grind
  ·have z:o.op=.store F.te (.tmp F.q) (.tmp F.v):=by have:=d.o2.1;grind
   have v:o.dst=D:=by rw[<-r];exact d.o2.2
   have T:=ob b.closed d.b2 (.inr hr);have evq:a.eval (.tmp F.q)=y:=b.sq T;rw[n];have l:=r2 (e.getD (ops.size -5+4) O);have f:(execOp a.eval o).run P (wOf O (e.getD (ops.size -5+4) O))=.ok .skip (wOf G (e.getD (ops.size -5+4) O)):=by simp[execOp,z,evq,ev F.v (Ne.symm n4) (Ne.symm n10) (Ne.symm n21),l, -Array.getD_eq_getD_getElem?]
   rw[f,Oper.upon_skip,v];have:=ih (e.setIfInBounds (ops.size -5+2) G) (a.put D undef) ⟨by simp[b.lsz],q,k,b.sz,b.dfr,b.cl,b.sy,λh=>b.sq T,λh=>b.sf (by grind)⟩ p
   grind
  ·have z:o.op=.fieldAddr F.tf (.tmp F.g) F.fi:=by have:=d.o3.1;grind
   have v:o.dst=J F.f:=by rw[<-r];exact d.o3.2
   have l:=r3 (wOf (e.getD (ops.size -5+2) O) (e.getD (ops.size -5+4) O));have f:(execOp a.eval o).run P (wOf (e.getD (ops.size -5+2) O) (e.getD (ops.size -5+4) O))=.ok (.value x) (wOf (e.getD (ops.size -5+2) O) (e.getD (ops.size -5+4) O)):=by simp[execOp,z,ev F.g (Ne.symm n7) (Ne.symm n13) (Ne.symm n22),l, -Array.getD_eq_getD_getElem?]
   rw[f,Oper.upon_value,v]
   have:=ih (e.setIfInBounds (ops.size -5+3) G) (a.put (J F.f) x) ⟨by simp[b.lsz],q,k,by simp[Act.put,b.sz],b.dfr,λt I A E=>by rw[xE,if_neg (Ne.symm E)];exact b.cl t I A E,
    by rw[xE,if_neg (Ne.symm n6)];exact b.sy,λh=>by rw[xE,if_neg (Ne.symm n12)];exact b.sq (by grind),λ_=>by rw[xE,if_pos rfl,if_pos (by rw[b.sz];exact hf)]⟩ p
   grind
  ·have z:o.op=.store F.ta (.tmp F.f) (.tmp F.y):=by have:=d.o4.1;grind
   have v:o.dst=D:=by rw[<-r];exact d.o4.2
   have S:=ob b.closed d.b4 (.inr hr);have evf:a.eval (.tmp F.f)=x:=b.sf S;rw[n];have l:=r4 (e.getD (ops.size -5+2) O);have f:(execOp a.eval o).run P (wOf (e.getD (ops.size -5+2) O) O)=.ok .skip (wOf (e.getD (ops.size -5+2) O) G):=by simp_all[execOp]
   rw[f,Oper.upon_skip,v];have:=ih (e.setIfInBounds (ops.size -5+4) G) (a.put D undef) ⟨by simp[b.lsz],q,k,b.sz,b.dfr,b.cl,b.sy,λh=>b.sq (by grind),λh=>b.sf S⟩ p
   grind
end
end
section
def Uw(w:cd){b b':Nat}(h:b≠b')(o o':Nat)(v a:bC):(w.setCell ⟨b,o,D⟩ v).setCell ⟨b',o',D⟩ a=(w.setCell ⟨b',o',D⟩ a).setCell ⟨b,o,D⟩ v:=by
 unfold World.setCell;simp only;congr 1
 grind
theorem Lu(b b':Nat)(h:b≠b')(o:Nat)(v:bC):∀(l:List bC)(o':Nat)(w:cd),(w.setCell ⟨b,o,D⟩ v).setCells b' o' l=(w.setCells b' o' l).setCell ⟨b,o,D⟩ v:=by
 intro l;induction l with
 |nil=>intro o' w;rfl
 |cons x l a=>
  intro o' w;show((w.setCell ⟨b,o,D⟩ v).setCell ⟨b',o',D⟩ x).setCells b' (o'+1) l=((w.setCell ⟨b',o',D⟩ x).setCells b' (o'+1) l).setCell ⟨b,o,D⟩ v;rw[Uw _ h,a]
theorem m6(l:K)(d:Tmp)(v:Q)(t:Tmp):(dW l (J d) v).getD t .U=if d=t then(if d<l.length then v else .U)else l.getD t .U:=by grind [dW]
section
variable{P:cO}{call:cT}{F:Fz}
def aeH{c:Array Oper}{a t:Env}{i w:Z}(h:zH P call c (postOf F) a i=J (t,w)):
 ∃f r aT u k d,kg P F.tb 1 [(0,a.cl.getD F.v .U)]=J f/\
  qZ P a.ag i F.ts ((dW a.cl (J F.z) f).getD F.x .U) ((dW a.cl (J F.z) f).getD F.z .U)=J (r,aT,u)/\
  oS P F.tf ((dW (dW a.cl (J F.z) f) (J F.y) r).getD F.g .U) F.fi=J k/\
  oT P ⟨dW (dW (dW a.cl (J F.z) f) (J F.y) r) (J F.f) k,aT,a.nb⟩ u F.ta ((dW (dW (dW a.cl (J F.z) f) (J F.y) r) (J F.f) k).getD F.f .U)
   ((dW (dW (dW a.cl (J F.z) f) (J F.y) r) (J F.f) k).getD F.y .U)=J (d,w)/\
  t=⟨dW (dW (dW (dW (dW a.cl (J F.z) f) (J F.y) r) (J F.f) k) (J F.z) .U) (J F.q) .U,d,a.nb⟩:=by
 have b:∀{o:Oper}{r:List Oper}{E:Env}{S:Z}{s:Env}{j:Z},o.guard=D->zH P call c (o::r) E S=J (s,j)->∃v e i,oo P call E S o=J (v,e,i)/\zH P call c r (E.put o.dst v e) i=J (s,j):=by grind [zH,oU]
 unfold postOf at h;have⟨g,t1,x,e1,h⟩:=b rfl h;have⟨l,T,y,e2,h⟩:=b rfl h;have⟨m,t3,z,e3,h⟩:=b rfl h;have⟨v4,t4,Sd,e4,h⟩:=b rfl h;have⟨v5,t5,Se,A,h⟩:=b rfl h;have⟨v6,t6,Sf,I,h⟩:=b rfl h;simp at h;obtain⟨rfl,rfl⟩:=h;have n:kg P F.tb 1 [(0,a.cl.getD F.v .U)]=J g/\t1=a.ag/\x=i:=by
  simp only[oo,Bk,q9,dR,sc]at e1
  grind [Env.ev,nC]
 obtain⟨n,rfl,rfl⟩:=n;have q2:qZ P a.ag x F.ts ((dW a.cl (J F.z) g).getD F.x .U) ((dW a.cl (J F.z) g).getD F.z .U)=J (l,T,y):=by trivial
 have p:oS P F.tf ((dW (dW a.cl (J F.z) g) (J F.y) l).getD F.g .U) F.fi=J m/\t3=T/\z=y:=by
  simp only[oo,Bk,q9,dR,sc]at e3
  grind [Env.ev,Env.put,nC]
 obtain⟨p,rfl,rfl⟩:=p;have q:∃j,oT P ⟨dW (dW (dW a.cl (J F.z) g) (J F.y) l) (J F.f) m,t3,a.nb⟩ z F.ta ((dW (dW (dW a.cl (J F.z) g) (J F.y) l) (J F.f) m).getD F.f .U)
  ((dW (dW (dW a.cl (J F.z) g) (J F.y) l) (J F.f) m).getD F.y .U)=J (t4,j)/\Sd=j:=by
  simp only[oo,Bk,q9,dR,sc,nC,r8,Ev]at e4
  grind [Env.ev,Env.put]
 obtain⟨_,q,rfl⟩:=q;have hu:aaG (.tuple #[])=.U:=by rfl
 simp at A;obtain⟨rfl,rfl,rfl⟩:=A;simp at I;obtain⟨rfl,rfl,rfl⟩:=I;exact⟨_,_,_,_,_,_,n,q2,p,q,rfl⟩
end
end
section
def ZV{sz:Nat}:∀(ps:List (Nat × Q))(es a:kp),fh sz es ps=J a->a.length=es.length:=by intro ps;induction ps<;>grind [fh]
def aeI{P:cO}{tb:bS}{ps:List (Nat × Q)}{x:Q}(h:kg P tb 1 ps=J x):∃e sz zc,nN P tb=J e/\jQ P e=J sz/\sz≠0/\x=.sl .X sz [zc]:=by
 unfold kg at h;split at h;case h_2=>cases h
 rename_i e d;split at h;case h_2=>cases h
 rename_i sz z f g;split at h;case isFalse=>cases h
 rename_i c;simp at h;obtain⟨a,b,rfl⟩:=h;have:=ZV _ _ _ b;match a,this with
 |[zc],_=>simp_all
 |[],h=>simp at h
 |_::_::_,h=>simp at h
def aeJ{P:cO}{tb:bS}{v x:Q}(h:kg P tb 1 [(0,v)]=J x):∃e sz,nN P tb=J e/\jQ P e=J sz/\sz≠0/\aW v=G/\v.cells.length=sz/\x=.sl .X sz [(aV v).cells]:=by grind [kg,fh]
theorem Ux{P:cO}{ag:bV}{S:Z}{a:Array bS}{s:Q}:qZ P ag S a s .U=D:=by unfold qZ;simp[bZ]
theorem Xe{P:cO}{E:Env}{S:Z}{t:bS}{p:Q}:oT P E S t p .U=D:=by
 unfold oT
 grind [aW]
def aeK{P:cO}{E:Env}{S:Z}{t:bS}{p x:Q}{r:bV × Z}(h:oT P E S t p x=J r):
 ∃i off n cs bt,p=.P i off/\jQ P t=J n/\S[i]? =J (.M cs bt O)/\off+n<=cs.length:=by
 unfold oT at h
 grind
section
variable{P:cO}{base:Nat}{bD:Nat->Prop}{S:Z}{w:cd}{mu:pC}{hw:Nat->Nat}{lk:Nat->Prop}
def aqZ{d:bS}{x l:Q}{a:Option Addr}{n c:Nat}(g:nN P d≠D)(h:MN P d x=J l)(f:RV w mu hw lk x (.slice a n c)):l=.I Y n:=by
 have b:∃e,P.underlying d=J (.slice e):=by grind [nN]
 have⟨e,b⟩:=b;unfold MN at h;rw[b]at h;cases f<;>simp_all
theorem aeL{t e:bS}{sz b o n cap:Nat}(d:nN P t=J e)(a:jQ P e=J sz)(w:cd):
 (Instr.indexAt t (.slice (J ⟨b,o,D⟩) (n+1) cap) (.int Y n)).run P w=.ok (eQ (J ⟨b,o+n*sz,D⟩)) w:=by
 have c:P.underlying t=J (.slice e):=by grind [nN]
 unfold Instr.indexAt;simp only[Sem.run_bind,pE,Result.andThen_ok,dS c,Sem.run_pure];rw[if_pos ⟨by omega,by omega⟩];simp[fj a,pZ]
end
end
section
section
variable{P:cO}{call:cT}{ops:Array Oper}{F:Fz}{base:Nat}{bD:Nat->Prop}{Oj:Z}{SN:cd}{Be:pC}{Cz:Nat->Nat}{CA:Id->TI}
def agM(f:agK P ops F){p E4:Env}{S1 S4:Z}{aq0:Array Oper}(hT:zH P call aq0 (postOf F) p S1=J (E4,S4))(hq:F.q<p.cl.length)
 (hz:F.z<p.cl.length->∃ps,kg P F.tb 1 ps=J (p.cl.getD F.z .U)) (hl:∃tl,nN P tl≠D/\MN P tl (p.cl.getD F.x .U)=J (p.cl.getD F.l .U))
 {a:Act} {w:cd} (Rn:WJ base bD Oj SN Be Cz CA p S1 a w) {Q:Exit->Act->cd->Prop} (hQ:∀a' w',WJ base bD Oj SN Be Cz CA E4 S4 a' w'->Q .normal a' w')
 {u:Nat} {l:Array Bool} (hs:l.size=ops.size) (xD:FV ops l) (amc:∀j,j<ops.size -5->l.getD j O=G) (z:∀j,ops.size -5<=j->l.getD j O=O)
 (hr:∀o,ops[ops.size -5]? =J o->∀e∈o.after,Region.binds .any e=G->l.getD e.on O=G) (hc:l.toList.countP (!·)<=u+1):
 wpOp P ops Q (ops.size -5) (wpAny P .any ops Q u (l.setIfInBounds (ops.size -5) G)) a w:=by
 have h5:=f.size;have⟨n1,n2,n3,n4,n5,n6,n7,n8,n9,n10,n11,n12,n13,n14,n15,n16,n17,n18,n19,n20,n21,n22,n23,n24⟩:=f.neq;obtain⟨x',r,aT,S2,fp,aIZ,t1,t2,t3,t4,rfl⟩:=aeH hT;have⟨mu,hw,ti,I,SL,ext,lv,hd,old⟩:=Rn;have⟨aq1,m⟩:=SL;have hzl:F.z<p.cl.length:=by grind [m6,Ux]
 rw[m6 p.cl F.z x' F.z,if_pos rfl,if_pos hzl,m6 p.cl F.z x' F.x,if_neg n23]at t2;have hyl:F.y<p.cl.length:=by grind [oV,Xe]
 have⟨i,q,nn,cs,bt,hp,hn1,hS2,hle⟩:=aeK t4;have hfl:F.f<p.cl.length:=by grind [oV]
 rw[m6 _ F.f fp F.f,if_pos rfl,if_pos (by grind)]at hp;subst hp;rw[m6 _ F.f _ F.f,if_pos rfl,if_pos (by grind [oV]),m6 _ F.f _ F.y,if_neg (Ne.symm n6),m6 _ F.y r F.y,if_pos rfl,if_pos (by rw[oV];exact hyl)]at t4;rw[m6 _ F.y r F.g,if_neg n7,m6 _ F.z x' F.g]at t3;obtain⟨e,A,he,hse,Ol,aq3,hlen,rfl⟩:=aeJ t1;have t3':oS P F.tf (p.cl.getD F.g .U) F.fi=J (.P i q):=by grind [oS]
 have hg:∃o0,p.cl.getD F.g .U=.P i o0:=by grind [oS]
 have⟨o0,hg⟩:=hg;have rg:=(m F.g).1;rw[hg]at rg t3';obtain⟨s,hm,hgv⟩:∃s,mu i=J s/\a.tmps.getD F.g undef=eQ (J ⟨s,o0,D⟩):=by generalize a.tmps.getD F.g undef=gv at rg;cases rg<;>grind
 have r3:∀w,(Instr.fieldAt F.tf (a.tmps.getD F.g undef) F.fi).run P w=.ok (eQ (J ⟨s,q,D⟩)) w:=by intro w;have⟨v',h1,h2,_⟩:=Ey (P:=P) (w:=w) (mu:=mu) (hw:=hw) (lk:=λ_=>False) (RV.ptr i o0 s hm) t3';rw[hgv,h1];cases h2<;>grind
 have⟨ps,hzv⟩:=hz hzl;have⟨e1,sz1,zc,he1,S,_,hzv⟩:=aeI hzv;rw[he]at he1;obtain rfl:=sL he1;rw[hse]at S;obtain rfl:=sL S;have vc:=Pf (m F.v).1 aq3;have aEx:(aV (p.cl.getD F.v .U)).cells.length=A:=by rw[rf];exact hlen
 have hcs:(a.tmps.getD F.v undef).cells.size=A:=by rw[<-vc.1];exact aEx
 have hcv:ES w mu hw (ic S1 mu) A [(aV (p.cl.getD F.v .U)).cells] (a.tmps.getD F.v undef).cells:=RL.es (by grind) (λk cs hk=>by grind);have aEy:∀y∈(a.tmps.getD F.v undef).cells.toList,y.oneCell'=G:=by
  intro y hy;have⟨j,hj⟩:=JK hy;have FJ:j<(aV (p.cl.getD F.v .U)).cells.length:=by grind
  have⟨a1,y',hy',hr'⟩:=vc.2 j _ (Eu FJ);rw[(by grind:(a.tmps.getD F.v undef).cells[j]? =some y)]at hy';obtain rfl:=sL hy';exact hr'.one a1
 obtain⟨o,ho⟩:∃o,ops[ops.size -5]? =J o:=⟨_,Bn V⟩;have hds:o.dst=J F.y:=by have:=f.o0.2;simpa[pJ,ho]using this
 obtain⟨b,of,n,cap,w1,⟨xa,xc,hxv⟩,E,aLl,⟨vs1,el1,aEz,awn⟩,hnb,aLm,awo⟩:=ZT (P:=P) (ty:=o.type) (args:=(#[Operand.tmp F.x,.tmp F.z]).map a.eval) (v:=a.tmps.getD F.x undef) (vx:=a.tmps.getD F.z undef) (zc:=zc) I
  (by rw[Array.getElem?_map];rfl) (by rw[Array.getElem?_map];rfl) (m F.x).1 (m F.x).2 (m F.z).1 (by rw[hzv];rfl) hcv t2
 have hbb:s≠b:=λe=>hnb i (e▸hm);have⟨tl,htl,hlv⟩:=hl;have rx:=(m F.x).1;rw[hxv]at rx;have hlA:=aqZ htl hlv rx;have rl:=(m F.l).1;rw[hlA]at rl;have hlV:a.tmps.getD F.l undef=.int Y n:=by generalize a.tmps.getD F.l undef=y at rl;cases rl;rfl
 have⟨heq,e2,he2,hte,hta⟩:=f.elem;rw[he]at he2;obtain rfl:=sL he2;have r1:∀w,(Instr.indexAt F.ti (.slice (J ⟨b,of,D⟩) (n+1) cap) (a.tmps.getD F.l undef)).run P w=.ok (eQ (J ⟨b,of+n*A,D⟩)) w:=by grind [aeL]
 have⟨mu2,hw2,ti2,I2,e2,l2,rv2,fl2,k2⟩:=awo;obtain⟨⟨aLp,s1,s2,s3⟩,s4,_⟩:=rB b el1 (0,0) (a.tmps.getD F.v undef).cells.toList (of+n*A) w1 vs1 aEz (by grind);have hm2:=e2.Zv i s hm;have⟨vs2,el2,aEB,aEC⟩:=I2.td i _ s hS2 hm2;have aI8:w1.heap[s]? =J (.cells vs2 el2 (0,0)):=by rw[<-s4 s hbb];exact aEB
 have hnn:nn=1:=by grind
 have aED:q+1<=vs2.size:=by have:=aEC.1;omega
 let yv:bC:=.slice (J ⟨b,of,D⟩) (n+1) cap
 let g:Bool->cd:=λc=>if c=G then w1.setCells b (of+n*A) (a.tmps.getD F.v undef).cells.toList else w1
 let wOf:Bool->Bool->cd:=λc2 c4=>if c4=G then(g c2).setCell ⟨s,q,D⟩ yv else g c2
 have r2:∀c,(Instr.storeAt F.te (eQ (J ⟨b,of+n*A,D⟩)) (a.tmps.getD F.v undef)).run P (wOf O c)=.ok () (wOf G c):=by
  intro c;have Zy:(wOf O c).heap[b]? =J (.cells vs1 el1 (0,0)):=by grind [Below.heap_setCell]
  have:=Bo (P:=P) (t:=F.te) (n:=A) (by grind) hcs aEy Zy awn
  grind [Lu]
 have r4:∀c,(Instr.storeAt F.ta (eQ (J ⟨s,q,D⟩)) yv).run P (wOf c O)=.ok () (wOf c G):=by
  intro c;have Zy:(wOf c O).heap[s]? =J (.cells vs2 el2 (0,0)):=by cases c<;>assumption
  exact Bo (P:=P) (t:=F.ta) (n:=1) (x:=yv) hta rfl (by simp[yv,Value.cells,Value.oneCell']) Zy aED
 have gs:∀j,(l.setIfInBounds (ops.size -5) G).getD j O=if ops.size -5=j then G else l.getD j O:=λj=>FW V
 have hg0:=f.guard o (by simpa using Array.mem_of_getElem? ho);unfold wpOp;rw[ho];simp only;rw[if_pos (by simp[Region.wanted,hg0])];refine .inl ?_;unfold Oper.wp;rw[(by simp[execOp,(by have:=f.o0.1;simpa[zm,ho]using this:o.op=.call ⟨.builtin .append,#[.tmp F.x,.tmp F.z],F.ts⟩),resolve,invoke,builtin]at E⊢;rw[E];rfl:(execOp a.eval o).run P w=.ok (.value yv) w1),Oper.upon_value,hds];have hph:Ph ops F a yv (eQ (J ⟨b,of+n*A,D⟩)) (eQ (J ⟨s,q,D⟩)) (l.setIfInBounds (ops.size -5) G) (a.put (J F.y) yv):=by
  refine⟨by simp[hs],FZ hs xD V hr,λj hj=>?_,by simp[Act.put],hd,λt h1 h2 h3=>by rw[xE,if_neg (Ne.symm h1)], ?_,λh=>?_,λh=>?_⟩
  ·rw[gs]
   split;·rfl
   ·exact amc j V
  ·grind [xE]
  ·rw[gs,uB,z _ V]at h;cases h
  ·rw[gs,uB,z _ V]at h;cases h
 have:=aqY f (wOf:=wOf) (by grind) (by grind) r1 r2 r3 r4 (Q:=Q) (λaC3 a' d T=>?_) u _ _ hph (I_ hs V (z _ (gL _)) hc)
 ·rw[gs,gs,uB,uB,z _ V,z _ V]at this
  exact this
 refine hQ a' _ ?_;have⟨w3,aI_,WK⟩:=F0 (P:=P) I2 rfl (RV.ptr i q s hm2) rv2 fl2 t4;have hw3:w3=wOf G G:=by
  have h1:=r4 G
  grind
 subst hw3;have⟨mu3,hw3,ti3,I3,e3,l3,_,_,k3⟩:=WK undef;refine⟨mu3,hw3,ti3,I3,⟨?_,λt=>?_⟩,(ext.trans e2).trans e3,(lv.trans l2).trans l3,d.dfr,λk hk FJ=>?_⟩;·simp only[oV];rw[aq1,d.sz]
 ·simp only[m6,oV]
  by_cases hqt:F.q=t
  ·rw[if_pos hqt]
   split<;>exact⟨.undef _,trivial⟩
  rw[if_neg hqt];by_cases hzt:F.z=t
  ·rw[if_pos hzt]
   split<;>exact⟨.undef _,trivial⟩
  rw[if_neg hzt];by_cases hft:F.f=t
  ·subst hft
   rw[if_pos rfl,if_pos hfl,d.sf (T _ V)];exact⟨.ptr i q s (e3.Zv _ _ hm2),trivial⟩
  rw[if_neg hft];by_cases hyt:F.y=t
  ·subst hyt
   rw[if_pos rfl,if_pos hyl,d.sy];exact⟨e3.rv rv2,fl2.mono l3⟩
  rw[if_neg hyt,if_neg hzt,d.cl t (Ne.symm hyt) (Ne.symm hqt) (Ne.symm hft)];exact⟨e3.rv (e2.rv (m t).1),((m t).2.mono l2).mono l3⟩
 grind [zj]
end
end
section
def adC{l:Array Bool}{p k:Nat}(h:p<=l.size)(d:Bool):(l.extract 0 p).getD k d=if k<p then l.getD k d else d:=by
 rw[Fk,Array.getElem?_extract]
 grind [Array.getD_eq_getD_getElem?]
section
variable{P:cO}{call:cT}{ops:Array Oper}{F:Fz}{base:Nat}{bD:Nat->Prop}{Oj:Z}{SN:cd}{Be:pC}{Cz:Nat->Nat}{CA:Id->TI}
def aci{p k:Nat}(h:p<=ops.size):(rR ops p)[k]? =if k<p then ops[k]? else D:=by grind [rR]
def agO{p:Nat}(h:p<=ops.size):(rR ops p).size=p:=by unfold rR;grind
def acj{c:Array Oper}{m f:Env}{S0 n:Z}{A:List Z}{ls:List Bd}{g:Nat->Env × Z}(b:FR c)(a:Bl P call c 0 m S0 f n A ls g){j:Nat}{o:Oper}{d:Tmp}(i:c[j]? =J o)(q:eC o=O)
 (s:o.guard=D) (r:o.dst=J d) (x:d<f.cl.length):∃ag S',oo P call (g j).1 (g j).2 o=J (f.cl.getD d .U,ag,S'):=by
 have I:=(SK.1 i).1;have e:=(Lr a c.size (gL _)).1;have w:=(Lr a j V).1;rw[a.last]at e;have e:=e;obtain⟨_,⟨_,v,ag,S',E,p,_⟩|⟨u,_⟩⟩:=a.run j o (xZ _) i q
 ·refine⟨ag,S', ?_⟩
  have h:=DI a (t:=d) (c.size -(j+1)) (j+1) V λk y _ _ z _ l=>by have:=JN b.nodup i z r l;omega
  rw[ace V,a.last,p]at h;have h:f.cl.getD d .U=(dW (g j).1.cl o.dst v).getD d .U:=h
  grind [m6]
 ·simp[oU,s]at u
def ZW(hm:P.follows .mixedOrders=G)(hN:Cy P)(O0:oX P call)(hold:mr call){id:Nat}(H:agK P ops F){E E1 E4:Env}{S S1 S4:Z}{aq0:Array Oper}
 (hA:FP P call (rR ops (ops.size -5)) E S=J (E1,S1)) (hT:zH P call aq0 (postOf F) E1 S1=J (E4,S4)) (hq:F.q<E.cl.length) (hlq:F.l<E.cl.length)
 {a:Act} {w:cd} (Rn:WJ base bD Oj SN Be Cz CA E S a w) {Q:Exit->Act->cd->Prop} (hQ:∀a' w',WJ base bD Oj SN Be Cz CA E4 S4 a' w'->Q .normal a' w'):
 (Code.region id ops G).wp P Q a w:=by
 have h5:=H.size;have hp:ops.size -5<=ops.size:=V;have Ol:=agO hp;have x:∀k,k<ops.size -5->(rR ops (ops.size -5))[k]? =ops[k]? :=λk hk=>by rw[aci hp,if_pos hk]
 have R:=Iy H.pre;unfold FP at hA;split at hA;·simp at hA
 rename_i E0 S0 hal;split at hA;·simp at hA
 rename_i r S1' ss ls htr;split at hA;case isFalse=>simp at hA
 rename_i aq5;simp only[Option.some.injEq,Ev]at hA;obtain⟨rfl,rfl⟩:=hA;obtain⟨a1,a2,a3,⟨bs,rfl⟩,a5,a6⟩:=MO _ _ _ _ _ hal R.nodup;obtain⟨⟨t,ht⟩,_,sn,v⟩:=MU (rR ops (ops.size -5)).toList 0 E0 (S++bs) [S++bs] [] _ _ ss ls (λj=>by simp) ca rfl (λo _ ha=>Bm ha) htr;have d:Reg P call (rR ops (ops.size -5)) E E0 S (S++bs) r S1' ss ls sn:={
  R:=R
  H:=v
  h0:=by grind
  agD:=aq5
  hA:=a6
  hB:=λj o t A u=>a5 j o t (by simp_all) u
  hlen:=a3
  apn:=a1}
 have apj:r.cl.length=E.cl.length:=by have:=(Lr v (rR ops (ops.size -5)).size (gL _)).1;rw[v.last]at this;simp_all
 have hz:F.z<r.cl.length->∃ps,kg P F.tb 1 ps=J (r.cl.getD F.z .U):=by
  intro hzl;have⟨A,hd,ps,g⟩:=H.oz;obtain⟨o,u⟩:∃o,ops[F.jz]? =J o:=⟨_,Bn V⟩;have g:o.op=.buildSlice F.tb 1 ps:=by simpa[zm,u]using g
  have hd:o.dst=J F.z:=by simpa[pJ,u]using hd
  obtain⟨ag,S',h⟩:=acj R v (by rw[x _ A];exact u) (by simp[eC,g]) (H.guard o (by grind)) hd hzl
  grind [oo,Bk,q9,dR,sc,nC]
 have hl:∃tl,nN P tl≠D/\MN P tl (r.cl.getD F.x .U)=J (r.cl.getD F.l .U):=by
  have⟨A,hd,tl,htl,g⟩:=H.ol;obtain⟨o,u⟩:∃o,ops[F.jl]? =J o:=⟨_,Bn V⟩;have g:o.op=.call ⟨.builtin .len,#[.tmp F.x],#[tl]⟩:=by simpa[zm,u]using g
  have hd:o.dst=J F.l:=by simpa[pJ,u]using hd
  obtain⟨ag,S',h⟩:=acj R v (by rw[x _ A];exact u) (by simp[eC,g]) (H.guard o (by grind)) hd (by simp_all)
  have hx:=DI v (t:=F.x) ((rR ops (ops.size -5)).size -F.jl) F.jl V λk y h1 h2 hy _ hyd=>by
   rw[aci hp]at hy;split at hy
   ·rename_i hk
    have:=H.ox k h1 hk;rw[pJ,hy]at this;trivial
   omega
  rw[ace V,v.last]at hx;refine⟨tl,htl, ?_⟩;rw[(hx:r.cl.getD F.x .U=(sn F.jl).1.cl.getD F.x .U)];simp only[oo,Bk,g,q9,dR]at h
  grind [Env.ev,sc,nC]
 have main:∀(l m:Nat)(T:pC)(hw:Nat->Nat)(ti:Id->TI)(f:Array Bool)(a:Act)(w:cd),f.size=ops.size->FV ops f->(∀j,ops.size -5<=j->f.getD j O=O)->
  DS P (rR ops (ops.size -5)) E r S sn base bD Oj SN Be Cz CA m T hw ti (f.extract 0 (ops.size -5)) a w->f.toList.countP (!·)<=l->wpAny P .any ops Q l f a w:=by
  intro l;induction l with
  |zero=>
   intro m T hw ti f a w hs _ hno _ hc;have:=MW hs hc (ops.size -5) V;simp_all
  |succ l ih=>
   intro m T hw ti f a w hs xD hno c hc;refine⟨λh=>?_,λi hi=>?_⟩
   ·have:=Pd H.back hs h (ops.size -5+1) (ops.size -5) V V
    grind
   obtain⟨s,hni,hr⟩:=Pe hs hi;have hc':=I_ hs s hni hc;have aEK:=FZ hs xD s hr;rcases SM i (ops.size -5)with FJ|heq|hgt
   ·have hi':i∈Region.ready .any (rR ops (ops.size -5)) (f.extract 0 (ops.size -5)):=by
     unfold Region.ready;rw[O4];refine⟨by grind, ?_⟩;have u:ops[i]? =J ops[i]:=Bn s;rw[x i FJ,u,adC V,if_pos FJ];have h1:f.getD i G=O:=by grind
     rw[h1];simp only[Ul,W6,Option.getD_some,SR];rw[agG];intro e he;cases hb:Region.binds .any e with
     |false=>rfl
     |true=>
      have h3:=H.back i _ u e he hb;simp only[Bool.not_true,Bool.false_or];rw[adC V,ifP]
      grind
    have step:=SO (Q:=Q) d O0 hold hN c hi' (K:=wpAny P .any ops Q l (f.setIfInBounds i G)) λm' mu' hw' ti' a' w' D'=>by
     refine ih m' mu' hw' ti' (f.setIfInBounds i G) a' w' (by simp[hs]) aEK (λj A=>?_) ?_ hc';·grind [FW]
     grind
    have u:ops[i]? =J ops[i]:=Bn s;have hg0:ops[i].guard=D:=H.guard _ ca
    grind [Region.wanted,wpOp]
   ·subst heq
    have amc:∀j,j<ops.size -5->f.getD j O=G:=λj A=>ob xD (H.b0 j A) (.inr hr)
    have fin:=c.fin d λk hk=>by
     rw[Ol]at hk;rw[adC V,if_pos hk]
     grind
    exact agM H hT (by grind) hz hl fin hQ hs xD amc hno hr hc
   ·exfalso
    have h4:i=ops.size -5+1\/i=ops.size -5+2\/i=ops.size -5+3\/i=ops.size -5+4:=V;have bad:∀j,ops.size -5<=j->((Region.before ops).getD i 0).testBit j=G->False:=λj A hb=>by grind [ob]
    rcases h4 with rfl|rfl|rfl|rfl;·exact bad _ (gL _) H.b1
    ·exact bad _ V H.b2
    ·exact bad _ (gL _) H.b3
    ·exact bad _ V H.b4
 refine wp_region_any hm ?_;obtain⟨T,hw,ti,I,SL,e,lv,hd,old⟩:=Rn;obtain⟨I1,e1⟩:=tC I;obtain⟨I2,e2⟩:=SQ I1 bs;have aEL:∀i b,T i=J b->i<S.length:=λi b h=>(I.mn i b h).1;have r0:∀n j:Nat,(Array.replicate n O).getD j O=O:=λn j=>by rw[Fk,acf];grind
 have hex:(Array.replicate ops.size O).extract 0 (ops.size -5)=Array.replicate (rR ops (ops.size -5)).size O:=by grind
 refine main ops.size 0 T hw ti _ a _ ca (λi o hi hl=>by grind) (λj _=>r0 _ j) ?_ ?_
 ·rw[hex]
  refine⟨xZ _,λj o A he=>?_, ?_,⟨SL.1,λt i o hi u hl=>?_,λt _=>?_⟩, ?_, ?_,λj o t A g _=>?_,λi hi FJ=>?_,e.ZQ,hd,λi o hi hl=>?_,by simp⟩;·grind
  ·rw[v.zero]
   show Inv base bD E0.ag (S++bs) _ T hw ti;rw[a1];exact I2
  ·grind
  ·rw[v.zero]
   show RV _ T hw (ic (S++bs) T) _ _/\e_ (bI E0.ag (S++bs) T) ti _ _;rw[a1,uj aEL];exact⟨e2.rv (e1.rv (SL.2 t).1),(SL.2 t).2⟩
  ·rw[v.zero]
   exact(e.trans e1).trans e2
  ·rw[v.zero]
   grind [uj]
  ·obtain⟨z,b1,b2,_⟩:=d.hB j o t A g
   refine⟨?_,z,b1,by rw[v.zero];exact b2⟩;cases hmu:T (S.length+Li (rR ops (ops.size -5)).toList j)<;>grind
  ·obtain⟨p,q⟩:=old i hi FJ
   refine⟨?_,q⟩;rw[v.zero]
   grind
  grind
 grind
end
end
inductive KV where
 |t (n:Nat)
 |c (v:Q)
abbrev KE:=List (Nat × Q)
def KE.get:KE->Nat->Q
 |[],_=>.U
 |x::r,t=>if x.1=t then x.2 else KE.get r t
def KE.ev(E:KE):KV->Q
 |.t n=>KE.get E n
 |.c v=>v
structure cf where
 sl:KE
 ag:bV
 nb:Nat
def cf.put(K:cf)(d:ZD)(v:Q)(ag:bV):cf:=
 match d with
 |some d=>⟨(d,v)::K.sl,ag,K.nb⟩
 |none=>⟨K.sl,ag,K.nb⟩
inductive Sh where
 |C
 |A (n:Nat)
def dG:Sh->K->Nat->Option Q
 |.A n,l,off=>if off+n<=l.length then J (.A ((sub l off n).map aV))else D
 |.C,l,off=>l[off]?
def aX(S:Z)(sh:Sh)(p:Q):Option Q:=
 match deref S p with
 |some (cs,off)=>dG sh cs off
 |none=>D
inductive EqK where
 |B|P|kv (ts:List bS)|slc|fn|A (ks:List Kd)|no
def pK:EqK->Q->Q->Option Bool
 |.B,.B a,.B b=>J (a==b)
 |.P,.s9,.s9=>J G
 |.P,.s9,.P _ _=>J O
 |.P,.P _ _,.s9=>J O
 |.P,.s9,.eZ _ _ _=>J O
 |.P,.eZ _ _ _,.s9=>J O
 |.kv _,.dj,.kv _ _=>J O
 |.kv _,.kv _ _,.dj=>J O
 |.kv ts,.kv s (.I k m),.kv u (.I k' n)=>if s≠u then J O else if ts.contains s=G/\k=k' then J (m==n)else D
 |.slc,.aw,.aw=>J G
 |.slc,.aw,.sl r _ es=>if es.length=0/\(r=.N\/r=.X)then D else J O
 |.slc,.sl r _ es,.aw=>if es.length=0/\(r=.N\/r=.X)then D else J O
 |.slc,.aw,.ka _ _ _ _=>J O
 |.slc,.ka _ _ _ _,.aw=>J O
 |.slc,.aw,.cg _ _ _ _ _=>J O
 |.slc,.cg _ _ _ _ _,.aw=>J O
 |.fn,.qY,.qY=>J G
 |.fn,.qY,.fn _ _ _=>J O
 |.fn,.fn _ _ _,.qY=>J O
 |.A ks,.A a,.A b=>FL ks a b
 |_,_,_=>D
def dP(op:BinOp)(k:IntKind)(a:Int)(k':IntKind)(b:Int):Option Q:=
 match op with
 |.shl=>if b<0 then D else J (.I k (k.wrap (a*2^(min b.toNat k.bits))))
 |.shr=>if b<0 then D else J (.I k (a.fdiv (2^(min b.toNat k.bits))))
 |_=>if k≠k' then D else
  match op with
  |.add=>J (.I k (k.wrap (a+b)))
  |.sub=>J (.I k (k.wrap (a -b)))
  |.mul=>J (.I k (k.wrap (a*b)))
  |.quo=>if b=0 then D else J (.I k (k.wrap (a.tdiv b)))
  |.rem=>if b=0 then D else J (.I k (a.tmod b))
  |.and=>J (.I k (k.wrap (gU k.bits a&&&gU k.bits b).toNat))
  |.or=>J (.I k (k.wrap (gU k.bits a|||gU k.bits b).toNat))
  |.xor=>J (.I k (k.wrap (gU k.bits a^^^gU k.bits b).toNat))
  |.andNot=>J (.I k (k.wrap (gU k.bits a&&& ~~~gU k.bits b).toNat))
  |.eql=>J (.B (a==b))
  |.neq=>J (.B (a !=b))
  |.lss=>J (.B (ck (a<b)))
  |.leq=>J (.B (ck (a<=b)))
  |.gtr=>J (.B (ck (a>b)))
  |.geq=>J (.B (ck (a≥b)))
  |_=>D
def Uz(op:BinOp)(a b:List UInt8):Option Q:=
 match op with
 |.add=>if a.length+b.length<=1073741824 then J (.S (a++b))else D
 |.eql=>J (.B (a==b))
 |.neq=>J (.B (!(a==b)))
 |.lss=>J (.B (Op.bytesLess a b))
 |.leq=>J (.B (Op.bytesLess a b||a==b))
 |.gtr=>J (.B (!(Op.bytesLess a b||a==b)))
 |.geq=>J (.B (!(Op.bytesLess a b)))
 |_=>D
def ec(op:BinOp)(q:EqK)(nc:Bool)(x y:Q):Option Q:=
 match x,y with
 |.dj,.dj=>if nc then
  match q,op with
  |.kv _,.eql=>J (.B G)
  |.kv _,.neq=>J (.B O)
  |_,_=>D
  else D
 |.I _ _,.I _ _=>D
 |.S _,.S _=>D
 |x,y=>match op with
  |.eql=>(pK q x y).map .B
  |.neq=>(pK q x y).map λb=>.B (!b)
  |_=>D
def dk:K->List (Nat × Nat × Q)->Option (K)
 |cs,[]=>J cs
 |cs,(off,n,v)::r=>if aW v/\v.cells.length=n/\off+n<=cs.length then dk (aQ cs off ((aV v).cells)) r else D
inductive KP where
 |mov (x:KV)|pick (c a b:KV)|bld (z:K) (ps:List (Nat × Nat × KV))|ara (x:KV)
 |RI (op:BinOp) (x y:KV)|RJ (op:BinOp) (x y:KV)|awr (op:BinOp) (q:EqK) (nc:Bool) (x y:KV)
 |un (op:UnOp) (x:KV)|cvI (k:IntKind) (x:KV)|cvS (x:KV)|cvB (x:KV)|cvR (x:KV)
 |mki (t:bS) (x:KV)|mkf (f:FuncId) (a b:List KV)
 |slS (x:KV) (lo hi:Option KV)|slL (sz:Nat) (x:KV) (lo hi:Option KV)|slA (n sz:Nat) (x:KV) (lo hi:Option KV)
 |fad (off:Nat) (x:KV)|fld (sh:Sh) (off:Nat) (x:KV)
 |NH (sz:Nat) (x i:KV)|JV (n sz:Nat) (x i:KV)|ixS (x i:KV)|ixG (n sz:Nat) (sh:Sh) (x i:KV)
 |ext (x:KV) (i:Nat)
 |arb (x:KV)|arc (x:KV)|aws (n:Nat)|awt (l:List KV)
def awu(s:Q)(lo hi:Option Q):Option Q:=
 match s with
 |.S s=>match kZ hi s.length s.length with
  |some h=>match kZ lo 0 h with
   |some l=>J (.S ((s.take h).drop l))
   |none=>D
  |none=>D
 |_=>D
def H6(IZ:Nat)(x:Q)(lo hi:Option Q):Option Q:=
 match x with
 |.aw=>match kZ hi 0 0,kZ lo 0 0 with
  |some _,J _=>J .aw
  |_,_=>D
 |.sl r sz es=>if IZ≠sz/\es.length≠0 then D else
  match kZ hi es.length es.length with
  |some h=>match kZ lo 0 h with
   |some l=>if l=0/\h=es.length then J (.sl r sz es)else J (.sl (tz r) sz ((es.take h).drop l))
   |none=>D
  |none=>D
 |.cg i off len cap sz=>if IZ≠sz then D else
  match kZ hi len len with
  |some h=>match kZ lo 0 h with
   |some l=>J (.cg i (if cap=l then off else off+l*sz) (h -l) (cap -l) sz)
   |none=>D
  |none=>D
 |.ka i off len sz=>if IZ≠sz then D else
  match kZ hi len len with
  |some h=>match kZ lo 0 h with
   |some l=>if l=h then J (.sl .N sz [])else J (.ka i (off+l*sz) (h -l) sz)
   |none=>D
  |none=>D
 |_=>D
def qq(n sz:Nat)(x:Q)(lo hi:Option Q):Option Q:=
 match x with
 |.P i off=>match kZ hi n n with
  |some h=>match kZ lo 0 h with
   |some l=>if sz=0 then D else J (.cg i (if n=l then off else off+l*sz) (h -l) (n -l) sz)
   |none=>D
  |none=>D
 |_=>D
def amm(off:Nat):Q->Option Q
 |.P i o=>J (.P i (o+off))
 |.eZ r cs o=>J (.eZ r cs (o+off))
 |_=>D
def agU(sh:Sh)(off:Nat):Q->Option Q
 |.A cs=>dG sh cs off
 |_=>D
def nK(IZ:Nat)(x ix:Q):Option Q:=
 match ix with
 |.I _ i=>if i<0 then D else
  match x with
  |.sl r sz es=>if IZ=sz then(es[i.toNat]?).map λcs=>.eZ (tz r) cs 0 else D
  |.cg b off len _ sz=>if IZ=sz/\i.toNat<len then J (.P b (off+i.toNat*sz))else D
  |.ka b off len sz=>if IZ=sz/\i.toNat<len then J (.P b (off+i.toNat*sz))else D
  |_=>D
 |_=>D
def jS(n sz:Nat)(x ix:Q):Option Q:=
 match ix with
 |.I _ i=>if i<0 then D else
  match x with
  |.P b off=>if i.toNat<n then J (.P b (off+i.toNat*sz))else D
  |.eZ r cs off=>if i.toNat<n then J (.eZ r cs (off+i.toNat*sz))else D
  |_=>D
 |_=>D
def ard(x ix:Q):Option Q:=
 match ix with
 |.I _ i=>if i<0 then D else
  match x with
  |.S s=>(s[i.toNat]?).map λb=>.I L b.toNat
  |_=>D
 |_=>D
def Pn(n sz:Nat)(sh:Sh)(x ix:Q):Option Q:=
 match ix with
 |.I _ i=>if i<0 then D else
  match x with
  |.A cs=>if i.toNat<n then dG sh cs (i.toNat*sz)else D
  |_=>D
 |_=>D
def oI(k:IntKind):Q->Option Q
 |.I _ n=>J (.I k (k.wrap n))
 |_=>D
def are:Q->Option Q
 |.S s=>J (.S s)
 |_=>D
def awv:Q->Option Q
 |.I _ n=>J (.S (Utf8.encode n).data.toList)
 |_=>D
def arf:Q->Option Q
 |.aw=>J (.S [])
 |.sl _ sz es=>if sz=1 then(DD es).map .S else D
 |_=>D
def agV:Q->Option Q
 |.S s=>J (.I Y s.length)
 |_=>D
def fG:Q->Option Q
 |.aw=>J (.I Y 0)
 |.sl _ _ es=>J (.I Y es.length)
 |.cg _ _ len _ _=>J (.I Y len)
 |.ka _ _ len _=>J (.I Y len)
 |_=>D
def agW(c a b:Q):Option Q:=
 match c with
 |.B G=>J a
 |.B O=>J b
 |_=>D
def au(op:BinOp)(x y:Q):Option Q:=
 match x,y with
 |.I k a,.I k' b=>dP op k a k' b
 |_,_=>D
def agX(op:BinOp)(x y:Q):Option Q:=
 match x,y with
 |.S a,.S b=>Uz op a b
 |_,_=>D
def agY(less:Int->Int->Bool)(l:K):Option Q:=
 match l with
 |.I k n::r=>DE less k n r
 |_=>D
def Z1(t:bS)(x:Q):Option Q:=if aW x then J (.kv t (aV x))else D
def sv(ρ:KV->Q):KP->Option Q
 |.mov x=>J (ρ x)
 |.pick c a b=>agW (ρ c) (ρ a) (ρ b)
 |.bld z ps=>(dk z (ps.map λx=>(x.1,x.2.1,ρ x.2.2))).map .A
 |.ara x=>h9 (ρ x)
 |.RI op x y=>au op (ρ x) (ρ y)
 |.RJ op x y=>agX op (ρ x) (ρ y)
 |.awr op q nc x y=>ec op q nc (ρ x) (ρ y)
 |.un op x=>bT op (ρ x)
 |.cvI k x=>oI k (ρ x)
 |.cvS x=>are (ρ x)
 |.cvB x=>arf (ρ x)
 |.cvR x=>awv (ρ x)
 |.mki t x=>Z1 t (ρ x)
 |.mkf f a b=>J (.fn f (a.map λx=>aV (ρ x)) (b.map λx=>aV (ρ x)))
 |.slS x lo hi=>awu (ρ x) (lo.map ρ) (hi.map ρ)
 |.slL sz x lo hi=>H6 sz (ρ x) (lo.map ρ) (hi.map ρ)
 |.slA n sz x lo hi=>qq n sz (ρ x) (lo.map ρ) (hi.map ρ)
 |.fad off x=>amm off (ρ x)
 |.fld sh off x=>agU sh off (ρ x)
 |.NH sz x i=>nK sz (ρ x) (ρ i)
 |.JV n sz x i=>jS n sz (ρ x) (ρ i)
 |.ixS x i=>ard (ρ x) (ρ i)
 |.ixG n sz sh x i=>Pn n sz sh (ρ x) (ρ i)
 |.ext x i=>bF (ρ x) i
 |.arb x=>agV (ρ x)
 |.arc x=>fG (ρ x)
 |.aws n=>J (.I Y n)
 |.awt l=>agY (λa b=>ck (b>a)) (l.map ρ)
inductive IA where
 |p (k:KP)
 |alloc (z:K)|box (n:Nat) (x:KV)|load (sh:Sh) (p:KV)|store (n:Nat) (p x:KV)
 |app (sz:Nat) (s x:KV)|cpy (sz:Nat) (d x:KV)
 |bsl (sz:Nat) (z:K) (len:Nat) (ps:List (Nat × KV))|byt (x:KV)
 |call (f:KV) (args:List KV)
 |arh (sz:Nat) (s x:KV)|mk (sz:Nat) (z:K) (l c:KV)|rng (x:KV)|nxt (p:KV)|bad
 |xt (e:Nat) (args:List KV)
def ba(ag:bV)(nb:Nat)(S:Z)(n:Nat)(p v:Q):Option (bV × Z):=
 match p with
 |.P i off=>match S[i]? with
  |some (.M cs bt O)=>
   if aW v/\v.cells.length=n/\off+n<=cs.length/\(nb<=i\/br (aV v)=G)then
    match k7 ag i bt v with
    |(v',aT,bt')=>J (aT,S.set i (.M (aQ cs off v'.cells) bt' O))
   else D
  |_=>D
 |_=>D
def eK(sz:Nat)(ag:bV)(S:Z)(s x:Q):Option (Q × bV × Z):=
 match bZ S x with
 |some (xz,xs)=>
  if xs.length=0 then(match s with|.aw=>J (.aw,ag,S)|.sl r IZ es=>J (.sl r IZ es,ag,S)|_=>D)else
  if xz≠sz then D else
   match s with
   |.aw=>if xs.length<=1073741824 then J (.sl (.fr ag.length) sz xs,ag++[J xs.length],S)else D
   |.sl r IZ es=>if IZ≠sz\/es.length+xs.length>1073741824 then D else
    match r with
    |.X=>J (.sl (.fr ag.length) sz (es++xs),ag++[J (es.length+xs.length)],S)
    |.fr k=>if ag[k]? =J (J es.length)then J (.sl (.fr k) sz (es++xs),ag.set k (J (es.length+xs.length)),S)else D
    |.bx i j=>match S[i]? with
     |some (.M cs bt O)=>if bt[j]? =J (J es.length)then J (.sl (.bx i j) sz (es++xs),ag,S.set i (.M cs (bt.set j (J (es.length+xs.length))) O))else D
     |_=>D
    |_=>D
   |.cg i off len cap IZ=>if IZ≠sz\/len+xs.length<=cap\/len+xs.length>1073741824 then D else
    match bZ S (.cg i off len cap IZ)with
    |some (_,es)=>J (.sl (.fr ag.length) sz (es++xs),ag++[J (es.length+xs.length)],S)
    |none=>D
   |_=>D
 |none=>D
def uX(nb:Nat)(S:Z)(sz:Nat)(d x:Q):Option (Q × Z):=
 match bZ S x,B8 d with
 |some (xz,xs),J (i,off,len,dz)=>
  if sz=0\/dz≠sz\/(xs.length≠0/\xz≠sz)then D else
  match S[i]? with
  |some (.M cs bt O)=>if off+len*sz<=cs.length/\(nb<=i\/eS xs=G)then
   J (.I Y (min xs.length len),S.set i (.M (aQ cs off ((xs.take len).flatten)) bt O))else D
  |_=>D
 |_,_=>D
def CD(sz:Nat)(S:Z)(s x:Q):Option (Q × Z):=
 match bZ S x,Ui s with
 |some (xz,xs),J e=>
  if xs.length=0 then J (e,S)else
  if xz≠sz\/xs.length>1073741824 then D else J (.ka S.length 0 xs.length sz,S++[.M xs.flatten [] O])
 |_,_=>D
def Po(sz:Nat)(z:K)(S:Z)(l c:Q):Option (Q × Z):=
 match l,c with
 |.I _ l,.I _ c=>if 0<=l/\l<=c/\c<=1073741824 then
  J (.cg S.length 0 l.toNat c.toNat sz,S++[.M (fg c.toNat z).flatten [] O])else D
 |_,_=>D
def Lv(S:Z)(x:Q):Option (Q × Z):=
 match x with
 |.S s=>J (.P S.length 0,S++[.iter s 0])
 |_=>D
def Xg:Q->Option Q
 |.S s=>if s.length<=1073741824 then J (.sl .N 1 (s.map λb=>[.I L b.toNat]))else D
 |_=>D
def Om(f:Q)(args:K):Option (FuncId × K):=
 match f with
 |.fn g first caps=>J (g,first++args++caps)
 |_=>D
def Ez(call:cT)(ag:bV)(S:Z)(f:Q)(args:K):Option (Q × bV × Z):=
 match Om f args with
 |none=>D
 |some (f,args)=>if uS f=G then
  match args.mapM B9 with
  |none=>D
  |some FN=>match call f FN S with
   |none=>D
   |some (r,S')=>match aY ag r with
    |(r',aT)=>J (r',aT,S')
  else match args.mapM (bG S)with
  |none=>D
  |some FN=>match call f FN (cQ S args)with
   |none=>D
   |some (r,S')=>match aY ag r with
    |(r',aT)=>J (r',aT,b_ S S' args)
def nL(call:cT)(K:cf)(S:Z):IA->Option (Q × bV × Z)
 |.p k=>(sv (KE.ev K.sl) k).map λv=>(v,K.ag,S)
 |.alloc z=>J (.P S.length 0,K.ag,S++[.M z [] O])
 |.box n x=>DG n K.ag S (KE.ev K.sl x)
 |.load sh p=>(aX S sh (KE.ev K.sl p)).map λv=>(v,K.ag,S)
 |.store n p x=>(ba K.ag K.nb S n (KE.ev K.sl p) (KE.ev K.sl x)).map λr=>(.U,r.1,r.2)
 |.app sz s x=>eK sz K.ag S (KE.ev K.sl s) (KE.ev K.sl x)
 |.cpy sz d x=>(uX K.nb S sz (KE.ev K.sl d) (KE.ev K.sl x)).map λr=>(r.1,K.ag,r.2)
 |.bsl sz z len ps=>(fh sz (fg len z) (ps.map λx=>(x.1,KE.ev K.sl x.2))).map λes=>(.sl .X sz es,K.ag,S)
 |.byt x=>(Xg (KE.ev K.sl x)).map λv=>(v,K.ag,S)
 |.call f args=>Ez call K.ag S (KE.ev K.sl f) (args.map (KE.ev K.sl))
 |.arh sz s x=>(CD sz S (KE.ev K.sl s) (KE.ev K.sl x)).map λr=>(r.1,K.ag,r.2)
 |.mk sz z l c=>(Po sz z S (KE.ev K.sl l) (KE.ev K.sl c)).map λr=>(r.1,K.ag,r.2)
 |.rng x=>(Lv S (KE.ev K.sl x)).map λr=>(r.1,K.ag,r.2)
 |.nxt p=>(Az S (KE.ev K.sl p)).map λr=>(r.1,K.ag,r.2)
 |.bad=>D
 |.xt e args=>(Fj e (args.map (KE.ev K.sl))).map λv=>(v,K.ag,S)
structure KO where
 dst:ZD
 gd:Option (Nat × Bool)
 op:IA
def gdK(K:cf)(g:Option (Nat × Bool)):Option Bool:=
 match g with
 |none=>J G
 |some (t,want)=>match KE.get K.sl t with
  |.B b=>J (b==want)
  |.cV []=>J O
  |_=>D
def Lw(call:cT)(K:cf)(S:Z)(o:KO):Option (Q × cf × Z):=
 match gdK K o.gd with
 |some G=>match nL call K S o.op with
  |some (v,ag,S')=>J (v,K.put o.dst v ag,S')
  |none=>D
 |some O=>J (.U,K.put o.dst (.cV []) K.ag,S)
 |none=>D
def uP(call:cT):List KO->cf->Z->Option (cf × Z)
 |[],K,S=>J (K,S)
 |o::r,K,S=>match Lw call K S o with
  |some (_,K',S')=>uP call r K' S'
  |none=>D
structure KD where
 o:KO
 eff:Bool
 lo:Nat
 hi:Nat
structure IB where
 lo:Nat
 hi:Nat
 sh:Sh
 at_:Q
 val:Q
def AH:List (Nat × bJ)->cf->Z->cf × Z
 |[],K,S=>(K,S)
 |(d,z)::r,K,S=>AH r (K.put (J d) (.P S.length 0) K.ag) (S++[.M z [] O])
def ldK(K:cf)(d:KD)(v:Q)(ls:List IB):List IB:=
 match gdK K d.o.gd,d.o.op with
 |some G,.load sh p=>⟨d.lo,d.hi,sh,KE.ev K.sl p,v⟩::ls
 |_,_=>ls
def Bp(call:cT):List KD->cf->Z->List Z->List IB->Option (cf × Z × List Z × List IB)
 |[],K,S,ss,ls=>J (K,S,ss,ls)
 |d::r,K,S,ss,ls=>match Lw call K S d.o with
  |some (v,K',S')=>Bp call r K' S' (if d.eff then ss++[S']else ss) (ldK K d v ls)
  |none=>D
def Pp(ss:List Z)(ls:List IB):Bool:=
 ls.all λl=>((ss.take (l.hi+1)).drop l.lo).all λS=>
  match aX S l.sh l.at_ with
  |some v=>qp v l.val
  |none=>O
def NI(call:cT)(al:List (Nat × bJ))(l:List KD)(K:cf)(S:Z):Option (cf × Z):=
 match Bp call l (AH al K S).1 (AH al K S).2 [(AH al K S).2] []with
 |none=>D
 |some (K',S',ss,ls)=>if Pp ss ls then J (K',S')else D
def eE:Q->Q
 |.aw=>.sl .N 1 []
 |.sl (.iq i) sz es=>.sl (.iq i) sz es
 |.sl _ _ []=>.sl .N 1 []
 |.sl _ sz es=>.sl .N sz es
 |v=>v
def dT:Q->Q
 |.A cs=>.A (cs.map eE)
 |v=>eE v
def zJ:Q->Q
 |.aw=>.aw
 |v=>dT v
def cj:Q->Q
 |.A cs=>.A (cs.map eE)
 |v=>v
inductive KC where
 |skip|ret|exit (id:Nat)
 |ops (l:List KO)
 |draw (al:List (Nat × K)) (l:List KD)
 |Q (a b:KC)|cond (x:KV) (a b:KC)|block (id:Nat) (b:KC)|L (b:KC)
 |dU (l:List Nat) (k:KC)
 |dT (l:List Nat) (k:KC)
 |scope (b:KC)
 |lab
 |bad
 |Xh (al:List (Nat × K)) (l:List KD) (k:List KO)
def cf.dU(l:List Nat)(K:cf):cf:=⟨l.map λt=>(t,KE.get K.sl t),K.ag,K.nb⟩
def cf.dT(l:List Nat)(K:cf):cf:=⟨l.foldl (λs t=>(t,am.dT (KE.get s t))::s) K.sl,K.ag,K.nb⟩
def ft(call:cT):Nat->KC->cf->Z->Option (Out × cf × Z)
 |0,_,_,_=>D
 |n+1,c,K,S=>match c with
  |.skip=>J (.normal,K,S)
  |.ret=>J (.R,K,S)
  |.exit id=>J (.E id,K,S)
  |.draw al l=>match NI call al l K S with
   |some (K',S')=>J (.normal,K',S')
   |none=>D
  |.ops l=>match uP call l K S with
   |some (K',S')=>J (.normal,K',S')
   |none=>D
  |.Q a b=>match ft call n a K S with
   |some (.normal,K',S')=>ft call n b K' S'
   |r=>r
  |.cond x a b=>match KE.ev K.sl x with
   |.B G=>ft call n a K S
   |.B O=>ft call n b K S
   |_=>D
  |.block id b=>match ft call n b K S with
   |some (.E Jy,K',S')=>if Jy=id then J (.normal,K',S')else J (.E Jy,K',S')
   |r=>r
  |.L b=>match ft call n b K S with
   |some (.normal,K',S')=>ft call n (.L b) K' S'
   |r=>r
  |.dU l k=>ft call n k (K.dU l) S
  |.dT l k=>ft call n k (K.dT l) S
  |.scope b=>ft call n b K S
  |.lab=>J (.normal,K,S)
  |.bad=>D
  |.Xh al l k=>ft call n (.Q (.draw al l) (.ops k)) K S
inductive KR where
 |tmp (t:Nat)
 |C (a:Nat) (sh:Sh)
def JW(K:cf)(S:Z):List KR->Option (bJ)
 |[]=>J []
 |.tmp t::r=>(JW K S r).map λl=>KE.get K.sl t::l
 |.C a sh::r=>match aX S sh (KE.get K.sl a),JW K S r with
  |some v,J l=>J (v::l)
  |_,_=>D
structure KF where
 nt:Nat
 body:KC
 res:List KR
def Bq:Nat->K->KE
 |_,[]=>[]
 |n,v::r=>(n,v)::Bq (n+1) r
def CE(n:Nat)(S':Z):Bool:=
 (S'.drop n).all λb=>match b with
  |.M cs _ _=>Lh S'.length (λk=>ck (n<=k)) cs
  |_=>G
def Pq(f:FuncId)(r:Q)(S S':Z):Option (Q × Z):=
 if Z2 f=G then(if jE S'.length (λk=>ck (S.length<=k)) r=G/\CE S.length S'=G then J (r,S')else D)
 else if jE S.length (λ_=>O) r=G then J (r,S'.take S.length)
 else match Lo S' S.length r with
  |some r'=>if aG r'=G then J (r',S'.take S.length)else D
  |none=>D
def dv(f:FuncId)(ag:bV)(vs:K)(S S':Z):Option (Q × Z):=
 if vs.all cI=G then
  (if aG (cy (aP ag (vs.map cj)))=G then J (cy (aP ag (vs.map cj)),S'.take S.length)else Pq f (cy (aP ag (vs.map cj))) S S')
 else D
structure NK where
 dU:FuncId->Bool
 tD:FuncId->Option (K->Z->Option (Q × Z))
def rZ(nk:NK)(F:cT):cT:=λf args S=>match nk.tD f with
 |some p=>p args S
 |none=>F f (args.map (if nk.dU f=G then zJ else dT)) S
def F1(ay:FuncId->Option KF)(nk:NK):Nat->FuncId->bJ->Z->Option (Q × Z)
 |0,_,_,_=>D
 |n+1,f,args,S=>match ay f with
  |none=>D
  |some k=>if k.nt<args.length then D else match ft (rZ nk (F1 ay nk n)) n k.body ⟨Bq 0 args,[],S.length⟩ S with
   |some (.E _,_,_)=>D
   |some (_,K,S')=>match JW K S' k.res with
    |none=>D
    |some vs=>dv f K.ag vs S S'
   |none=>D
def iT:Operand->KV
 |.tmp t=>.t t
 |.const v=>.c (aaG v)
 |.global g=>.c (Uj g)
 |.func f=>.c (.fn f [] [])
def UA(P:cO)(t:bS):Option Sh:=
 match jQ P t with
 |none=>D
 |some n=>if DA P t then J (.A n)else if n=1 then J .C else D
def agZ(P:cO):List bS:=
 (List.range P.types.size).filter λs=>match P.info? s,P.underlying s with
  |some i,J (.int _)=>i.comparable
  |_,_=>O
def ag0(P:cO)(t:bS):EqK:=
 match P.underlying t with
 |some .bool=>.B
 |some (.pointer _)=>.P
 |some (.interface _)=>.kv (agZ P)
 |some (.slice _)=>.slc
 |some (.func _ _ _)=>.fn
 |some (.array _ _)|some (.struct _)=>if P.eqGuardType P.depth t then .no else match zX P 9 t with
  |some ks=>.A ks
  |none=>.no
 |_=>.no
def F2(place:Nat->Option (Nat × Nat)):List (Nat × Operand)->Option (List (Nat × Nat × KV))
 |[]=>J []
 |(i,x)::r=>match place i,F2 place r with
  |some (off,n),J l=>J ((off,n,iT x)::l)
  |_,_=>D
def UB(P:cO)(t:bS)(ar:List (Nat × Operand)):Option IA:=
 match rG P t,P.underlying t with
 |some z,J (.struct fs)=>match fs.toList.mapM λf=>(jQ P f.type).map λn=>(f.offset,n)with
  |some places=>(F2 (places[·]?) ar).map λps=>.p (.bld z ps)
  |none=>D
 |some z,J (.array _ e)=>match jQ P e with
  |some sz=>(F2 (λi=>J (i*sz,sz)) ar).map λps=>.p (.bld z ps)
  |none=>D
 |_,_=>D
def UC(P:cO)(t:bS)(x:Operand)(lo hi:Option Operand):Option IA:=
 match P.underlying t with
 |some .string=>J (.p (.slS (iT x) (lo.map iT) (hi.map iT)))
 |some (.slice e)=>(jQ P e).map λsz=>.p (.slL sz (iT x) (lo.map iT) (hi.map iT))
 |some (.array n e)=>(jQ P e).map λsz=>.p (.slA n sz (iT x) (lo.map iT) (hi.map iT))
 |_=>D
def ag1(P:cO)(op:BinOp)(t:bS)(x y:Operand):Option IA:=
 match P.underlying t with
 |some (.int _)=>J (.p (.RI op (iT x) (iT y)))
 |some .string=>J (.p (.RJ op (iT x) (iT y)))
 |some _=>J (.p (.awr op (ag0 P t) (ue x||ue y) (iT x) (iT y)))
 |none=>D
def Z3(P:cO)(s d:bS)(x:Operand):Option IA:=
 match P.underlying d with
 |some (.int k)=>(P.underlying s).map λ_=>.p (.cvI k (iT x))
 |some .string=>match P.underlying s with
  |some .string=>J (.p (.cvS (iT x)))
  |some (.int _)=>J (.p (.cvR (iT x)))
  |_=>match(nN P s).bind P.underlying with
   |some (.int L)=>J (.p (.cvB (iT x)))
   |_=>D
 |some (.slice e)=>match P.underlying s,P.underlying e with
  |some .string,J (.int L)=>J (.byt (iT x))
  |_,_=>D
 |_=>D
def lenOf(P:cO)(args:Array Operand)(ts:Array bS):Option IA:=
 match ts[0]?,args[0]? with
 |some t,J x=>match P.underlying t with
  |some .string=>J (.p (.arb (iT x)))
  |some (.slice _)=>J (.p (.arc (iT x)))
  |some (.array n _)=>J (.p (.aws n))
  |_=>D
 |_,_=>D
def acn(P:cO)(t:bS)(len:Nat)(ar:List (Nat × Operand)):Option IA:=
 match nN P t with
 |some e=>match jQ P e,rG P e with
  |some sz,J z=>if sz≠0/\z.length=sz/\len*sz<=16777216 then J (.bsl sz z len (ar.map λx=>(x.1,iT x.2)))else D
  |_,_=>D
 |none=>D
def RK(P:cO):Op->Option IA
 |.move x|.assign x=>J (.p (.mov (iT x)))
 |.pick c a b=>J (.p (.pick (iT c) (iT a) (iT b)))
 |.build t ar=>UB P t ar.toList
 |.nilCheck x=>J (.p (.ara (iT x)))
 |.binOp op t x y _=>ag1 P op t x y
 |.unOp op _ x=>J (.p (.un op (iT x)))
 |.convert s d x=>Z3 P s d x
 |.makeInterface t x=>match P.underlying t with
  |some (.interface _)=>D
  |some _=>J (.p (.mki t (iT x)))
  |none=>D
 |.makeFunc (.func f) first caps=>J (.p (.mkf f (first.toList.map iT) (caps.toList.map iT)))
 |.slice t x lo hi D=>UC P t x lo hi
 |.fieldAddr t x f=>match Lm P t f with
  |some (off,u)=>match jQ P u with
   |some (_+1)=>J (.p (.fad off (iT x)))
   |_=>D
  |none=>D
 |.field t x f=>match Lm P t f with
  |some (off,u)=>(UA P u).map λsh=>.p (.fld sh off (iT x))
  |none=>D
 |.indexAddr t x i=>match P.underlying t with
  |some (.slice e)=>(jQ P e).map λsz=>.p (.NH sz (iT x) (iT i))
  |some (.array n e)=>(jQ P e).map λsz=>.p (.JV n sz (iT x) (iT i))
  |_=>D
 |.index t x i=>match P.underlying t with
  |some .string=>J (.p (.ixS (iT x) (iT i)))
  |some (.array n e)=>match jQ P e,UA P e with
   |some sz,J sh=>J (.p (.ixG n sz sh (iT x) (iT i)))
   |_,_=>D
  |_=>D
 |.extract x i=>J (.p (.ext (iT x) i))
 |.call ⟨.builtin .len,args,ts⟩=>lenOf P args ts
 |.call ⟨.builtin .max,args,_⟩=>J (.p (.awt (args.toList.map iT)))
 |.buildSlice t len ar=>acn P t len ar.toList
 |.alloc t=>(rG P t).map .alloc
 |.box t x=>(jQ P t).map λn=>.box n (iT x)
 |.load t p=>(UA P t).map λsh=>.load sh (iT p)
 |.store t p x=>(jQ P t).map λn=>.store n (iT p) (iT x)
 |.call ⟨.builtin .append,args,ts⟩=>match Cv P ts,args[0]?,args[1]? with
  |some (_,sz),J s,J x=>J (.app sz (iT s) (iT x))
  |_,_,_=>D
 |.call ⟨.builtin .copy,args,ts⟩=>match((ts[0]?).bind (nN P)).bind (jQ P),args[0]?,args[1]? with
  |some sz,J d,J x=>J (.cpy sz (iT d) (iT x))
  |_,_,_=>D
 |.call ⟨.value f,args,_⟩=>match SC f with
  |some e=>J (.xt e (args.toList.map iT))
  |none=>J (.call (iT f) (args.toList.map iT))
 |.makeSlice t l c=>match nN P t with
  |some e=>match jQ P e,bytesOf P e,rG P e with
   |some sz,J bs,J z=>if bs<=65536/\sz≠0/\z.length=sz then J (.mk sz z (iT l) (iT c))else D
   |_,_,_=>D
  |none=>D
 |.range t x=>match P.underlying t with
  |some .string=>J (.rng (iT x))
  |_=>D
 |.next p G=>J (.nxt (iT p))
 |_=>D
def Ps(P:cO)(o:Oper):IA:=
 match Bk o with
 |some (s,x,ts)=>if ts.size=3 then .bad else match Cv P ts with
  |some (_,sz)=>.arh sz (iT s) (iT x)
  |none=>.bad
 |none=>(RK P o.op).getD .bad
def Pu(nt:Nat):Option Tmp->Bool
 |some d=>ck (d<nt)
 |none=>G
def arj(ops:Array Oper)(g:Option (Nat × Bool)):Option (Option (Nat × Bool)):=
 match g with
 |none=>J D
 |some (j,want)=>((ops[j]?).bind (·.dst)).map λd=>J (d,want)
def UD(P:cO)(nt:Nat)(ops:Array Oper)(o:Oper):Option KO:=
 if Pu nt o.dst=G then
  match arj ops o.guard with
  |some g=>J ⟨o.dst,g,Ps P o⟩
  |none=>D
 else D
def IC(P:cO)(nt:Nat):List Oper->Option (List (Nat × K))
 |[]=>J []
 |o::r=>match o.op with
  |.alloc t=>match o.dst,rG P t,IC P nt r with
   |some d,J z,J l=>if d<nt then J ((d,z)::l)else D
   |_,_,_=>D
  |_=>IC P nt r
def RM(P:cO)(nt:Nat)(ops:Array Oper)(b:Array Nat):List (Oper × Nat)->Option (List KD)
 |[]=>J []
 |(o,i)::r=>if eC o then RM P nt ops b r else
  match UD P nt ops o,RM P nt ops b r with
  |some k,J l=>J (⟨k,fA o,lowest ops b i,HB ops b i⟩::l)
  |_,_=>D
def k9(P:cO)(nt:Nat):Code->Option KC
 |.skip=>J .skip
 |.ret=>J .ret
 |.exit id=>J (.exit id)
 |.region _ ops O=>(ops.toList.mapM (UD P nt ops)).map .ops
 |.region _ ops G=>if AA ops=G then
  match IC P nt ops.toList,RM P nt ops (Region.before ops) ops.toList.zipIdx with
  |some al,J l=>J (.draw al l)
  |_,_=>J .bad
  else match Uv P ops with
   |some F=>if F.q<nt/\F.l<nt then
    match IC P nt (rR ops (ops.size -5)).toList,RM P nt (rR ops (ops.size -5)) (Region.before (rR ops (ops.size -5))) (rR ops (ops.size -5)).toList.zipIdx,(postOf F).mapM (UD P nt (postOf F).toArray)with
    |some al,J l,J k=>J (.Xh al l k)
    |_,_,_=>J .bad
    else J .bad
   |none=>J .bad
 |.seq a b=>match k9 P nt a,k9 P nt b with
  |some a,J b=>J (.Q a b)
  |_,_=>D
 |.cond x a b=>match k9 P nt a,k9 P nt b with
  |some a,J b=>J (.cond (iT x) a b)
  |_,_=>D
 |.block id b=>(k9 P nt b).map (.block id)
 |.loop b=>(k9 P nt b).map .L
 |.scope b=>(k9 P nt b).map .scope
 |.label _=>J .lab
 |_=>J .bad
def aad:KC->KC
 |.Q a b=>.Q (aad a) (aad b)
 |.cond x a b=>.cond x (aad a) (aad b)
 |.block id b=>.block id (aad b)
 |.L b=>.L (aad b)
 |.scope b=>.scope (aad b)
 |.dU _ k=>aad k
 |.dT _ k=>aad k
 |c=>c
def amn(P:cO):ResultVar->Option KR
 |.tmp t=>J (.tmp t)
 |.cell a t=>(UA P t).map λsh=>.C a sh
def KOK(P:cO)(fn:Func)(k:KF):Prop:=
 fn.ntmps=k.nt/\fn.params.size<=k.nt/\(fn.body.bind (k9 P fn.ntmps))=J (aad k.body)/\fn.results.toList.mapM (amn P)=J k.res
section
theorem Py{P:cO}{t:bS}{a:Sh}(h:UA P t=J a)(l:K)(off:Nat):part P t l off=dG a l off:=by grind [UA,part,dG]
theorem Pv{P:cO}{t:bS}{a:Sh}(h:UA P t=J a)(S:Z)(p:Q):zi P S t p=aX S a p:=by grind [zi,aX,Py]
theorem Z_{P:cO}{s:bS}(h:(agZ P).contains s=G):∃i k,P.info? s=J i/\P.underlying s=J (.int k)/\i.comparable=G:=by grind [agZ]
theorem ag7{P:cO}{t:bS}{x y:Q}{r:Bool}(h:pK (ag0 P t) x y=J r):JD P t x y=J r:=by
 unfold ag0 at h;unfold JD;split at h
 ·rename_i a
  simp;unfold pK at h
  grind
 ·rename_i a
  simp;unfold pK at h
  grind
 ·rename_i a
  simp;unfold pK at h
  grind [Z_]
 ·rename_i a
  simp;unfold pK at h
  grind
 ·rename_i a
  simp;unfold pK at h
  grind
 ·rename_i a
  simp;split at h;·trivial
  ·rename_i b
   split at h
   ·rename_i d c
    unfold pK at h
    grind
   trivial
 ·rename_i a
  simp;split at h;·trivial
  ·rename_i b
   split at h
   ·rename_i d c
    unfold pK at h
    grind
   trivial
 trivial
def awF(P:cO)(op:BinOp)(t:bS)(c:Bool)(k k':IntKind)(a b:Int):Bi P op t c (.I k a) (.I k' b)=dP op k a k' b:=rfl
def awG(P:cO)(op:BinOp)(t:bS)(c:Bool)(a b:List UInt8):Bi P op t c (.S a) (.S b)=Uz op a b:=rfl
theorem amC{P:cO}{op:BinOp}{t:bS}{a:Bool}{x y r:Q}(h:ec op (ag0 P t) a x y=J r):Bi P op t a x y=J r:=by
 unfold ec at h;split at h
 ·unfold Bi
  grind [ag0]
 ·cases h
 ·cases h
 ·rename_i d e f
  have c:∀{o},o=(match op with
   |.eql=>(JD P t x y).map AV.B
   |.neq=>(JD P t x y).map λb=>.B (!b)
   |_=>D)->Bi P op t a x y=o:=by
   rintro o rfl;unfold Bi
   grind
  grind [r8,ag7]
section
variable{P:cO}{ρ:Operand->Q}{σ:KV->Q}(hρ:∀x,σ (iT x)=ρ x)
include hρ
theorem S8{b:Nat->Option (Nat × Nat)}:∀{a:List (Nat × Operand)}{ps:List (Nat × Nat × KV)},F2 b a=J ps->∀z,dk z (ps.map λx=>(x.1,x.2.1,σ x.2.2))=fill b z (a.map λx=>(x.1,ρ x.2)):=by intro a;induction a<;>grind [F2,dk,fill]
theorem UF(o:Option Operand):(o.map iT).map σ=o.map ρ:=by cases o<;>simp[hρ]
theorem ag8(l:List Operand):(l.map iT).map σ=l.map ρ:=by simp[hρ]
theorem amD{o:Op}{k:KP}(h:RK P o=J (.p k)){v:Q}(a:sv σ k=J v):dR P ρ o=J v:=by
 unfold RK at h;split at h;·grind [sv,dR]
 ·grind [sv,dR]
 ·grind [sv,agW,dR]
 ·rename_i t w
  unfold UB at h;simp only[dR,Of];split at h
  ·rename_i z fs I c
   split at h;case h_2=>cases h
   rename_i l T;simp at h;have⟨ps,j,b⟩:=h;simp only[I,c,T];cases b;simp only[sv]at a;rw[S8 hρ j]at a;exact a
  ·rename_i z n e I c
   split at h;case h_2=>cases h
   rename_i m g;simp only[r8]at h;have⟨ps,j,b⟩:=h;cases b;simp only[sv]at a;rw[S8 hρ j]at a;simp_all
  ·cases h
 ·grind [sv,dR]
 ·rename_i op t x y ty
  unfold ag1 at h;simp only[dR];split at h
  ·cases h
   simp only[sv,hρ]at a;unfold au at a;split at a;·rename_i p q;rw[p,q];exact a
   grind
  ·cases h
   simp only[sv,hρ]at a;unfold agX at a;split at a;·rename_i p q;rw[p,q];exact a
   grind
  all_goals grind [sv,amC]
 ·grind [sv,dR]
 ·rename_i s d x
  unfold Z3 at h;simp only[dR,Cu];split at h
  ·rename_i k0 S
   simp only[r8]at h;have⟨u,c,b⟩:=h;cases b;simp only[sv,hρ]at a;unfold oI at a
   grind
  ·rename_i S
   split at h
   ·rename_i hs
    cases h;simp only[sv,hρ]at a;unfold are at a
    grind
   ·rename_i hs
    cases h;simp only[sv,hρ]at a;unfold awv at a
    grind
   ·split at h
    ·rename_i b
     cases h;simp only[sv,hρ]at a;unfold arf at a
     grind
    ·cases h
  all_goals grind
 ·grind [sv,Z1,dR]
 ·rename_i f first E
  cases h;simp_all[sv,dR,F4]
 ·rename_i t x lo hi
  unfold UC at h;simp only[dR,Od,Option.map_none];split at h;·grind [sv,UF,awu]
  ·rename_i e c
   simp only[r8]at h;have⟨m,g,b⟩:=h;cases b;simp only[sv,hρ,UF hρ]at a
   grind [nN,H6]
  ·rename_i n e c
   simp only[r8]at h
   grind [sv,UF,qq]
  ·cases h
 ·grind [sv,dR,oS,amm]
 ·rename_i t x f
  split at h
  ·rename_i off u hf
   simp only[r8]at h;have⟨sh,r,b⟩:=h;cases b;simp only[sv,hρ]at a;unfold agU at a;split at a;all_goals simp_all[dR,Og,Py]
  ·cases h
 ·rename_i t x i
  simp only[dR,Bj];split at h
  ·rename_i e c
   simp only[r8]at h;have⟨m,g,b⟩:=h;cases b;simp only[sv,hρ]at a;unfold nK at a
   grind
  ·rename_i n e c
   simp only[r8]at h;have⟨m,g,b⟩:=h;cases b;simp only[sv,hρ]at a;unfold jS at a
   grind
  ·cases h
 ·rename_i t x i
  simp only[dR,Oe];split at h
  ·rename_i c
   cases h;simp only[sv,hρ]at a;unfold ard at a
   grind
  ·rename_i n e c
   split at h;case h_2=>cases h
   rename_i m sh g r;cases h;simp only[sv,hρ]at a;unfold Pn at a
   grind [Py]
  ·cases h
 ·grind [sv,dR]
 ·rename_i A ts
  unfold lenOf at h;simp only[dR];split at h;case h_2=>cases h
  rename_i t x ht hx;simp only[ht,hx,MN];split at h
  ·rename_i c
   cases h;simp only[sv,hρ]at a;unfold agV at a
   grind
  ·rename_i c
   cases h;simp only[sv,hρ]at a;unfold fG at a
   grind
  all_goals grind [sv]
 ·grind [sv,ag8,agY,dR]
 all_goals first
  |(simp[acn]at h;done)
  |(unfold acn at h;grind)
  |(simp at h;done)
  |(
    repeat' split at h
    all_goals first|(cases h;done)|(simp at h;done))
  |(cases h;done)
end
end
section
theorem aeU{P:cO}{E:Env}{S:Z}{t:bS}{n:Nat}(h:jQ P t=J n)(p v:Q):oT P E S t p v=ba E.ag E.nb S n p v:=by
 cases p with
 |P i a=>simp only[oT,ba,h];rfl
 |_=>simp only[oT,ba]
theorem awH{P:cO}{call:cT}{E:Env}{K:cf}{S:Z}(q:∀x,KE.ev K.sl (iT x)=E.ev x)(I:K.ag=E.ag)(hn:K.nb=E.nb){o:Op}{k:IA}(h:RK P o=J k)
 {r:Q × bV × Z} (g:nL call K S k=J r):q9 P call E S o=J r:=by
 have i:(∃p,k=.p p)->q9 P call E S o=J r:=by
  rintro⟨p,rfl⟩;simp only[nL,r8]at g;obtain⟨v,T,rfl⟩:=g;have:=amD q h T;unfold q9
  grind [dR]
 by_cases hp:∃p,k=.p p;·simp_all
 clear i;have u:∀{p:KP}{x:Prop},J (IA.p p)=J k->x:=by grind
 have j:∀{α:Type}{f:α->KP}{y:Option α}{x:Prop},(y.map λa=>IA.p (f a))=J k->x:=by grind [r8]
 unfold RK at h;split at h;·exact u h
 ·exact u h
 ·exact u h
 ·grind [UB,r8]
 ·exact u h
 ·grind [ag1]
 ·exact u h
 ·
   rename_i s d x;unfold Z3 at h;split at h;·grind [r8]
   ·grind
   ·rename_i e hd
    split at h
    ·rename_i hs A
     cases h;simp only[nL,q,r8]at g;obtain⟨v,T,rfl⟩:=g;unfold Xg at T;split at T
     ·rename_i s1 hx
      simp only[q9,dR,Cu,hd,hx,sc,Oh,hs,A]
      grind
     grind
    ·cases h
   ·cases h
 ·grind
 ·exact u h
 ·unfold UC at h
  split at h;·exact u h
  ·exact j h
  ·exact j h
  ·cases h
 ·grind
 ·split at h
  ·exact j h
  ·cases h
 ·split at h
  ·exact j h
  ·exact j h
  ·cases h
 ·grind
 ·exact u h
 ·grind [lenOf]
 ·exact u h
 ·
   rename_i t len m;unfold acn at h;split at h
   ·rename_i e A
    split at h
    ·rename_i sz z w hz
     split at h
     ·rename_i hc
      cases h;simp only[nL,r8]at g;obtain⟨es,Zx,rfl⟩:=g;simp only[q9,dR,sc,kg,A,w,hz];rw[if_pos hc];have e1:(m.toList.map λx=>(x.1,iT x.2)).map (λx=>(x.1,KE.ev K.sl x.2))=m.toList.map λx=>(x.1,E.ev x.2):=by simp[q]
      grind
     ·cases h
    ·cases h
   ·cases h
 ·
   grind [r8,nL,q9,dR,sc,nC]
 ·grind [nL,q9,dR,sc,nC]
 ·grind [r8,nL,q9,dR,sc,nC,Pv]
 ·grind [r8,nL,q9,dR,sc,nC,aeU]
 ·rename_i b ts
  split at h
  ·rename_i e sz s x h1 h2 h3
   cases h;simp only[nL,q]at g;simp only[q9,dR,sc,nC,h2,h3,<-I];rw[<-g];simp only[qZ,h1,eK];cases bZ S (E.ev x)<;>rfl
  ·cases h
 ·rename_i b ts
  split at h
  ·rename_i sz d x h1 h2 h3
   cases h;simp only[nL,q]at g;simp only[q9,dR,sc,nC,h2,h3,<-hn,<-I];have:Ln P K.nb S ts (E.ev d) (E.ev x)=uX K.nb S sz (E.ev d) (E.ev x):=by
    unfold Ln uX
    grind
   grind
  ·cases h
 ·
   rename_i f b ts;have e1:(b.toList.map iT).map (KE.ev K.sl)=b.toList.map λx=>E.ev x:=by simp[q]
   cases hx:SC f with
   |some e=>
    grind [nL,q9]
   |none=>
    rw[hx]at h;cases h;simp only[nL,q]at g
    grind [q9,FM,callee,Ez,Om]
 ·rename_i t l c
  split at h
  ·rename_i e A
   split at h
   ·rename_i sz bs z w hbs hz
    split at h
    ·rename_i hc
     cases h;simp only[nL,q]at g;simp only[q9,dR,sc,nC,<-I];rw[<-g];simp only[OQ,A,w,hbs,hz,Po]
     grind
    ·cases h
   ·cases h
  ·cases h
 ·rename_i t x
  split at h
  ·rename_i hu
   cases h;simp only[nL,q]at g;simp only[q9,dR,sc,nC,<-I];rw[<-g];simp only[JE,hu,Lv]
   grind
  ·cases h
 all_goals grind [nL,q9,dR,sc,nC]
def arx{P:cO}{call:cT}{E:Env}{K:cf}{S:Z}(f:∀x,KE.ev K.sl (iT x)=E.ev x)(e:K.ag=E.ag)(d:K.nb=E.nb){o:Oper}
 {r:Q × bV × Z} (a:nL call K S (Ps P o)=J r):oo P call E S o=J r:=by
 unfold Ps at a;unfold oo;cases b:Bk o with
 |some q=>
  grind [nL,Aq,CD]
 |none=>
  rw[b]at a;simp only at a⊢;cases c:RK P o.op<;>grind [nL,awH]
def toE(n:Nat)(K:cf):Env:=⟨(List.range n).map (KE.get K.sl),K.ag,K.nb⟩
def H7(n:Nat)(K:cf):Prop:=∀t,n<=t->KE.get K.sl t=.U
theorem aba{n:Nat}{K:cf}(h:H7 n K)(t:Nat):(toE n K).cl.getD t .U=KE.get K.sl t:=by
 simp only[toE,Ja,zo];rcases oZ t n with a|Zw;·simp_all
 ·rw[List.getElem?_eq_none (by simp_all),h t Zw];rfl
theorem aeC{n:Nat}{K:cf}(h:H7 n K)(x:Operand):KE.ev K.sl (iT x)=(toE n K).ev x:=by
 cases x with
 |tmp t=>exact(aba h t).symm
 |_=>rfl
def ac9{n:Nat}{K:cf}{d:Option Tmp}(a:Pu n d=G)(v:Q)(ag:bV):toE n (K.put d v ag)=(toE n K).put d v ag:=by
 cases d with
 |none=>rfl
 |some d=>
  have a:d<n:=by simpa[Pu]using a
  simp only[toE,cf.put,Env.put,dW,Env.mk.injEq,and_true];refine Bf λi=>?_
  grind [KE.get]
def aaa{n:Nat}{K:cf}(h:H7 n K){d:Option Tmp}(a:Pu n d=G)(v:Q)(ag:bV):H7 n (K.put d v ag):=by
 intro t b;cases d with
 |none=>exact h t b
 |some d=>
  have a:d<n:=by simpa[Pu]using a
  simp only[cf.put,KE.get];rw[if_neg (λe=>by grind)];exact h t b
def apv{n:Nat}{ops:Array Oper}{K:cf}(h:H7 n K){o:Oper}{g:Option (Nat × Bool)}(a:arj ops o.guard=J g){b:Bool}(d:gdK K g=J b):oN ops (toE n K) o=G/\oU ops (toE n K) o=b:=by unfold arj at a;unfold oN oU;cases c:o.guard<;>grind [gdK,aba]
section
variable{P:cO}{call:cT}{n:Nat}{ops:Array Oper}
def apw{o:Oper}{e:KO}{K c:cf}{S S':Z}{v:Q}(h:UD P n ops o=J e)(w:H7 n K)(b:Lw call K S e=J (v,c,S')):
 H7 n c/\c.nb=K.nb/\oN ops (toE n K) o=G/\
 ((oU ops (toE n K) o=G/\gdK K e.gd=J G/\∃ag,oo P call (toE n K) S o=J (v,ag,S')/\toE n c=(toE n K).put o.dst v ag)\/
  (oU ops (toE n K) o=O/\gdK K e.gd=J O/\S'=S/\toE n c=(toE n K).put o.dst (.cV []) (toE n K).ag)):=by
 unfold UD at h;split at h;case isFalse=>cases h
 rename_i d;split at h;case h_2=>cases h
 rename_i g j;cases h;unfold Lw at b;simp only at b;split at b
 ·rename_i a
  have⟨f,i⟩:=apv w j a;split at b;case h_2=>cases b
  rename_i m ag l k;cases b;refine⟨aaa w d _ _, ?_,f,.inl ⟨i,a,ag, ?_,ac9 d _ _⟩⟩;·cases o.dst<;>rfl
  ·exact arx (λx=>aeC w x) rfl rfl k
 ·rename_i a
  have⟨f,i⟩:=apv w j a;cases b;refine⟨aaa w d _ _, ?_,f,.inr ⟨i,a,rfl,ac9 d _ _⟩⟩;cases o.dst<;>rfl
 grind
def mapM_cons{α β:Type}{f:α->Option β}{a:α}{l:List α}{m:List β}(h:(a::l).mapM f=J m):∃b r,f a=J b/\l.mapM f=J r/\m=b::r:=by
 rw[F5]at h;cases c:f a with
 |none=>simp_all
 |some b=>
  cases d:l.mapM f<;>simp_all
def UG:∀{l:List Oper}{c:List KO}{K a:cf}{S S':Z},l.mapM (UD P n ops)=J c->H7 n K->uP call c K S=J (a,S')->
 H7 n a/\a.nb=K.nb/\zH P call ops l (toE n K) S=J (toE n a,S'):=by
 intro l;induction l with
 |nil=>
  intro c K a S S' h w b;simp at h;subst h;simp only[uP]at b;cases b;trivial
 |cons o l p=>
  intro c K a S S' h w b;obtain⟨q,r,d,k,rfl⟩:=mapM_cons h;simp only[uP]at b;split at b;case h_2=>cases b
  rename_i v g i e;have⟨s,f,j,m⟩:=apw d w e
  grind [zH]
def ary:∀{l:List Oper}{e:List (Nat × bJ)}{K:cf}{S:Z},IC P n l=J e->H7 n K->
 H7 n (AH e K S).1/\(AH e K S).1.nb=K.nb/\si P l (toE n K) S=J (toE n (AH e K S).1,(AH e K S).2):=by
 intro l;induction l with
 |nil=>
  intro e K S h w;simp[IC]at h;subst h;trivial
 |cons o l q=>
  intro e K S h w;unfold IC at h;unfold si;split at h
  ·rename_i t m
   simp only[m];split at h;case h_2=>cases h
   rename_i d z j k p g;split at h;case isFalse=>cases h
   rename_i i;cases h;have f:Pu n (J d)=G:=by simpa[Pu]using i
   have⟨a,b,c⟩:=q (K:=K.put (J d) (.P S.length 0) K.ag) (S:=S++[.M z [] O]) g (aaa w f _ _);simp only[AH,p];refine⟨a,b, ?_⟩;rw[<-c,ac9 f,k];rfl
  simp_all
def arz(P:cO)(b:Array Nat)(ops:Array Oper)(ls:List Bd)(kls:List IB):Prop:=
 ∀l∈ls,∃k∈kls,k.lo=lowest ops b l.idx/\k.hi=HB ops b l.idx/\UA P l.type=J k.sh/\k.at_=l.at_/\k.val=l.val
def amE{o:Op}{k:IA}(h:RK P o=J k){t:bS}{p:Operand}(b:o=.load t p):∃a,UA P t=J a/\k=.load a (iT p):=by grind [RK,r8]
def awI:∀{l:List (Oper × Nat)}{E:List KD}{K u:cf}{S S':Z}{I m:List Z}{j e:List IB}{ls:List Bd},RM P n ops (Region.before ops) l=J E->H7 n K->arz P (Region.before ops) ops ls j->
 Bp call E K S I j=J (u,S',m,e)->
 H7 n u/\u.nb=K.nb/\∃s,arz P (Region.before ops) ops s e/\tU P call ops l (toE n K) S I ls=J (toE n u,S',m,s):=by
 intro l;induction l with
 |nil=>
  intro E K u S S' I m j e ls h w A r;simp[RM]at h;subst h;simp only[Bp]at r;cases r;exact⟨w,rfl,ls,A,rfl⟩
 |cons x l ih=>
  have⟨o,i⟩:=x;intro E K u S S' I m j e ls h w A r;unfold RM at h;unfold tU;split at h;·grind
  ·rename_i ha
   rw[if_neg ha];split at h;case h_2=>cases h
   rename_i ko kr h1 h2;cases h;simp only[Bp]at r;split at r;case h_2=>cases r
   rename_i v K1 S1 h3;have⟨w1,nb1,gt,hc⟩:=apw h1 w h3;rw[if_pos gt];have hop:∃g,ko=⟨o.dst,g,Ps P o⟩:=by grind [UD]
   obtain⟨g,rfl⟩:=hop;have z:∀t p,o.op=.load t p->gdK K g=J G->∃k,RK P o.op=J k/\Ps P o=k:=by intro t p f hg;have aLD:Bk o=D:=O9 (by simp[fA,f]);cases hk:RK P o.op<;>grind [Ps,Lw,nL]
   generalize Ps P o=k at h1 h3 z r;rcases hc with⟨g1,T,ag,e3,e4⟩|⟨g1,T,e3,e4⟩
   ·rw[if_pos g1,e3]
    have hl2:arz P (Region.before ops) ops (match o.op with|.load t p=>⟨i,t,(toE n K).ev p,v⟩::ls|_=>ls) (ldK K ⟨⟨o.dst,g,k⟩,fA o,lowest ops (Region.before ops) i,HB ops (Region.before ops) i⟩ v j):=by
     by_cases hld:∃t p,o.op=.load t p
     ·have⟨t,p,f⟩:=hld
      have⟨k',hk,hk'⟩:=z t p f T;subst hk';obtain⟨sh,hsh,rfl⟩:=amE hk f;rw[f];simp only[ldK,T];intro x hx;rcases Pz.1 hx with rfl|hx;·grind [List.mem_cons_self,aeC]
      ·have⟨y,hy,q⟩:=A x hx
       grind
     ·have e1:(match o.op with|.load t p=>(⟨i,t,(toE n K).ev p,v⟩:Bd)::ls|_=>ls)=ls:=by simp_all
      rw[e1];intro x hx;have⟨y,hy,q⟩:=A x hx
      grind [ldK]
    have⟨a,b,s,c,d⟩:=ih h2 w1 hl2 r
    grind
   grind [ldK]
def Oo{g:List (Nat × bJ)}{h:List KD}{K b:cf}{S S':Z}(o:IC P n ops.toList=J g)(p:RM P n ops (Region.before ops) ops.toList.zipIdx=J h)(w:H7 n K)
 (a:NI call g h K S=J (b,S')):H7 n b/\b.nb=K.nb/\FP P call ops (toE n K) S=J (toE n b,S'):=by
 unfold NI at a;split at a;·cases a
 rename_i u v ss ls m;split at a;case isFalse=>cases a
 rename_i q;cases a;have⟨s,e,i⟩:=ary (K:=K) (S:=S) o w;have⟨t,f,r,d,j⟩:=awI p s (ls:=[]) (λl d=>by simp at d) m;refine⟨t,f.trans e, ?_⟩;unfold FP;simp only[i,j];rw[if_pos];unfold JF;simp;intro l c x hx;have⟨k,T,y,z,A,E,I⟩:=d l c
 grind [Pp,Pv]
end
end
section
section
variable{w:cd}{mu:pC}{hw:Nat->Nat}{lk:Nat->Prop}
theorem RV.eE{a:Q}{v:bC}(h:RV w mu hw lk a v):RV w mu hw lk (eE a) v:=by
 unfold am.eE;split;·cases h;exact .emp 1 D 0
 ·exact h
 ·cases h with
  |emp _ p c=>exact .emp 1 p c
  |AB _ p=>exact .emp 1 p 0
  |sl _ _ _ b o d c f e A t y m k l=>
   exact .sl .N 1 [] b o d c f ⟨e.1,e.2.1,by simp⟩ (by simp) (by simp) (by simp) (by simp) (by simp) (by simp)
 ·rename_i r E s g _
  cases h with
  |emp _ p c=>trivial
  |AB _ p=>trivial
  |sl _ _ _ b o d c f e A t y m k l=>
   refine .sl .N E s b o d c f e (by simp) (by simp) (by simp) m (λi n j a u x=>?_) l;obtain⟨p,q,z⟩:=k i n j a u x;refine⟨p, ?_,z⟩;cases r<;>first|exact absurd rfl (g _)|exact q
 ·exact h
theorem ag9{a:Q}(h:nf a=G):nf (eE a)=G:=by unfold am.eE;split<;>first|rfl|exact h
def RV.dT{a:Q}{v:bC}(h:RV w mu hw lk a v):RV w mu hw lk (dT a) v:=by
 unfold am.dT;split
 ·rename_i b
  cases h with
  |agg _ f d e=>
   have:=RV.agg (w:=w) (mu:=mu) (hw:=hw) (lk:=lk) (b.map am.eE) f (λj a c=>by
    grind [ag9]) (λj a c=>by
    grind [eE])
   simp_all
 ·exact h.eE
def RV.zJ{a:Q}{v:bC}(h:RV w mu hw lk a v):RV w mu hw lk (zJ a) v:=by
 unfold am.zJ;split;·exact h
 ·exact h.dT
theorem RV.cj{a:Q}{v:bC}(h:RV w mu hw lk a v):RV w mu hw lk (cj a) v:=by
 unfold am.cj;split;·exact h.dT
 ·exact h
theorem e_.eE{b:p5}{ti:Id->TI}{a:Q}{v:bC}(h:e_ b ti a v):e_ b ti (am.eE a) v:=by unfold am.eE;split<;>first|trivial|exact h
def e_.dT{b:p5}{ti:Id->TI}{a:Q}{v:bC}(h:e_ b ti a v):e_ b ti (am.dT a) v:=by
 unfold am.dT;split;·trivial
 ·exact h.eE
def e_.zJ{b:p5}{ti:Id->TI}{a:Q}{v:bC}(h:e_ b ti a v):e_ b ti (am.zJ a) v:=by
 unfold am.zJ;split;·trivial
 ·exact h.dT
theorem e_.cj{b:p5}{ti:Id->TI}{a:Q}{v:bC}(h:e_ b ti a v):e_ b ti (am.cj a) v:=by
 unfold am.cj;split;·trivial
 ·exact h
end
section
variable{P:cO}
structure Jb(P:cO)(nk:NK):Prop where
 sim:∀f p,nk.tD f=J p->oX P λg args S=>if g=f then p args S else D
 old:∀f p,nk.tD f=J p->mr λg args S=>if g=f then p args S else D
def Xk{F:cT}{nk:NK}(s:Jb P nk)(h:oX P F):oX P (rZ nk F):=by
 intro f c S r d e base bD w mu hw m b I q k;unfold rZ at e;split at e
 ·rename_i p o
  exact s.sim f p o f c S r d (by grind) base bD w mu hw m b I q k
 ·refine h f _ S r d e base bD w mu hw m b I (by simp_all) λj a l=>?_
  simp only[zo,r8]at l;obtain⟨y,t,rfl⟩:=l;obtain⟨v,n,g,i⟩:=k j y t;refine⟨v,n, ?_⟩;split;·exact⟨g.zJ,i.zJ⟩
  ·exact⟨g.dT,i.dT⟩
def MY{F:cT}{nk:NK}(d:Jb P nk)(h:mr F):mr (rZ nk F):=by
 intro f a S r b e;unfold rZ at e;split at e
 ·rename_i p c
  exact d.old f p c f a S r b (by grind)
 ·exact h f _ S r b e
def acr{n:Nat}{c:Code}{l:List KO}(h:k9 P n c=J (.ops l)):∃id ops,c=.region id ops O/\ops.toList.mapM (UD P n ops)=J l:=by
 cases c with
 |region id ops d=>
  cases d<;>grind [k9,r8]
 |_=>simp only[k9]at h<;>(first|(cases h;done)|((repeat' split at h)<;>cases h)|simp_all)
def Xo{n:Nat}{c:Code}{a:List (Nat × K)}{l:List KD}(h:k9 P n c=J (.draw a l)):
 ∃id ops,c=.region id ops G/\AA ops=G/\IC P n ops.toList=J a/\RM P n ops (Region.before ops) ops.toList.zipIdx=J l:=by
 cases c with
 |region id ops d=>
  cases d<;>grind [k9,r8]
 |_=>simp only[k9]at h<;>(first|(cases h;done)|((repeat' split at h)<;>cases h)|simp_all)
def acs{n:Nat}{c:Code}{x y:KC}(h:k9 P n c=J (.Q x y)):∃a b,c=.seq a b/\k9 P n a=J x/\k9 P n b=J y:=by
 cases c with
 |seq a b=>
  grind [k9]
 |region id e d=>
  cases d<;>simp only[k9]at h;all_goals grind [r8]
 |_=>simp only[k9]at h<;>(first|(cases h;done)|((repeat' split at h)<;>cases h)|simp_all)
def Xp{n:Nat}{c:Code}{z:KV}{x y:KC}(h:k9 P n c=J (.cond z x y)):∃t a b,c=.cond t a b/\iT t=z/\k9 P n a=J x/\k9 P n b=J y:=by
 cases c with
 |cond t a b=>
  grind [k9]
 |region id e d=>
  cases d<;>simp only[k9]at h;all_goals grind [r8]
 |_=>simp only[k9]at h<;>(first|(cases h;done)|((repeat' split at h)<;>cases h)|simp_all)
def S9{n:Nat}{c:Code}{id:Nat}{x:KC}(h:k9 P n c=J (.block id x)):∃a,c=.block id a/\k9 P n a=J x:=by
 cases c with
 |block b a=>
  grind [k9,r8]
 |region id e d=>
  cases d<;>simp only[k9]at h;all_goals grind [r8]
 |_=>simp only[k9]at h<;>(first|(cases h;done)|((repeat' split at h)<;>cases h)|simp_all)
def Xq{n:Nat}{c:Code}{x:KC}(h:k9 P n c=J (.L x)):∃a,c=.loop a/\k9 P n a=J x:=by
 cases c with
 |loop a=>
  grind [k9,r8]
 |region id b d=>
  cases d<;>simp only[k9]at h;all_goals grind [r8]
 |_=>simp only[k9]at h<;>(first|(cases h;done)|((repeat' split at h)<;>cases h)|simp_all)
def Xr{n:Nat}{c:Code}{a:List (Nat × K)}{l:List KD}{k:List KO}(h:k9 P n c=J (.Xh a l k)):
 ∃id ops F,c=.region id ops G/\Uv P ops=J F/\F.q<n/\F.l<n/\IC P n (rR ops (ops.size -5)).toList=J a/\
  RM P n (rR ops (ops.size -5)) (Region.before (rR ops (ops.size -5))) (rR ops (ops.size -5)).toList.zipIdx=J l/\(postOf F).mapM (UD P n (postOf F).toArray)=J k:=by
 cases c with
 |region id ops d=>
  cases d<;>grind [k9,r8]
 |_=>simp only[k9]at h<;>(first|(cases h;done)|((repeat' split at h)<;>cases h)|simp_all)
def Xs{call:cT}{n:Nat}{d:List (Nat × bJ)}{l:List KD}{k:List KO}{K a:cf}{S S':Z}{o:Out}(h:ft call n (.Q (.draw d l) (.ops k)) K S=J (o,a,S')):
 o=.normal/\∃b c,NI call d l K S=J (b,c)/\uP call k b c=J (a,S'):=by
 match n,h with
 |0,h=>trivial
 |1,h=>trivial
 |n+2,h=>
  grind [ft]
theorem S_{n:Nat}{c:Code}{x:KC}(h:k9 P n c=J (.scope x)):∃a,c=.scope a/\k9 P n a=J x:=by
 cases c with
 |scope a=>
  grind [k9,r8]
 |region id b d=>
  cases d<;>simp only[k9]at h;all_goals grind [r8]
 |_=>simp only[k9]at h<;>(first|(cases h;done)|((repeat' split at h)<;>cases h)|simp_all)
def amF{n:Nat}{c:Code}(h:k9 P n c=J .lab):∃l,c=.label l:=by
 cases c with
 |label l=>simp
 |region id a d=>
  cases d<;>simp only[k9]at h;all_goals grind [r8]
 |_=>simp only[k9]at h<;>(first|(cases h;done)|((repeat' split at h)<;>cases h)|simp_all)
def PC{n:Nat}{c:Code}{x:KC}(h:k9 P n c=J x):(x=.skip->c=.skip)/\(x=.ret->c=.ret)/\(∀id,x=.exit id->c=.exit id):=by
 refine⟨λe=>?_,λe=>?_,λid e=>?_⟩<;>subst e<;>cases c with
 |region id a d=>
  cases d<;>simp only[k9]at h;all_goals grind [r8]
 |_=>simp only[k9]at h<;>(first|(cases h;rfl;done)|(cases h;done)|((repeat' split at h)<;>cases h)|(simp only[r8]at h;obtain⟨_,_,h⟩:=h;cases h))
def Xt(l:List Nat)(s:KE)(t:Nat):KE.get (l.map λt=>(t,KE.get s t)) t=KE.get s t\/KE.get (l.map λt=>(t,KE.get s t)) t=.U:=by induction l<;>grind [KE.get]
def Xu(l:List Nat):∀(s:KE)(t:Nat),∃k:Nat,KE.get (l.foldl (λs t=>(t,am.dT (KE.get s t))::s) s) t=Nat.rec (KE.get s t) (λ_ x=>am.dT x) k:=by
 induction l with
 |nil=>intro s t;exact⟨0,rfl⟩
 |cons d l b=>
  intro s t;rw[List.foldl_cons];obtain⟨k,a⟩:=b ((d,am.dT (KE.get s d))::s) t;rw[a];simp only[KE.get];by_cases e:d=t
  ·subst e
   rw[if_pos rfl];refine⟨k+1, ?_⟩;clear a;induction k with
   |zero=>rfl
   |succ k c=>simp_all
  ·rw[if_neg e];grind
theorem aab:am.dT .U=.U:=rfl
def UH{n:Nat}{K:cf}(h:H7 n K)(l:List Nat):H7 n (K.dU l):=by
 intro t a;rcases Xt l K.sl t with e|e;·exact e.trans (h t a)
 ·exact e
def UI{n:Nat}{K:cf}(h:H7 n K)(l:List Nat):H7 n (K.dT l):=by
 intro t b;obtain⟨k,a⟩:=Xu l K.sl t;refine a.trans ?_;rw[h t b];clear a;induction k with
 |zero=>rfl
 |succ k c=>grind [aab]
section
variable{base:Nat}{bD:Nat->Prop}{S0:Z}{w0:cd}{mu0:pC}{hw0:Nat->Nat}{ti0:Id->TI}
def Xv{n:Nat}{K c:cf}{S:Z}{a:Act}{w:cd}(b:WJ base bD S0 w0 mu0 hw0 ti0 (toE n K) S a w)(s:H7 n K)(d:H7 n c)(o:c.ag=K.ag)
 (m:∀t,KE.get c.sl t=.U\/∃k:Nat,KE.get c.sl t=Nat.rec (KE.get K.sl t) (λ_ x=>am.dT x) k):WJ base bD S0 w0 mu0 hw0 ti0 (toE n c) S a w:=by
 obtain⟨mu,hw,r,I,f,e,u,j,l⟩:=b;have i:(toE n c).ag=(toE n K).ag:=o;refine⟨mu,hw,r,by simp_all,⟨?_,λt=>?_⟩,e,by simp_all,j,l⟩
 ·have:=f.1
  simpa[toE]using this
 ·obtain⟨p,q⟩:=f.2 t
  rw[i,aba d];rw[aba s]at p q;rcases m t with h|⟨k,h⟩;·rw[h];exact⟨.undef _,trivial⟩
  ·rw[h]
   clear h;induction k with
   |zero=>trivial
   |succ k g=>exact⟨g.1.dT,g.2.dT⟩
def Xj{call:cT}{r:Nat}(hm:P.follows .mixedOrders=G)(O0:oX P call)(hold:mr call)(hN:Cy P):∀(n:Nat),
 (∀(kc:KC)(c:Code)(K:cf)(S:Z)(o:Out)(j:cf)(S':Z)(a:Act)(w:cd)(Q:Exit->Act->cd->Prop),k9 P r c=J (aad kc)->H7 r K->ft call n kc K S=J (o,j,S')->WJ base bD S0 w0 mu0 hw0 ti0 (toE r K) S a w->
  (∀g w',H7 r j->WJ base bD S0 w0 mu0 hw0 ti0 (toE r j) S' g w'->Q (UJ o) g w')->c.wp P Q a w)/\
 (∀(kb:KC)(b:Code)(K:cf)(S:Z)(o:Out)(j:cf)(S':Z)(a:Act)(w:cd)(Q:Exit->Act->cd->Prop),k9 P r b=J (aad kb)->H7 r K->ft call n (.L kb) K S=J (o,j,S')->WJ base bD S0 w0 mu0 hw0 ti0 (toE r K) S a w->
  (∀g w',H7 r j->WJ base bD S0 w0 mu0 hw0 ti0 (toE r j) S' g w'->Q (UJ o) g w')->Code.rounds P b Q n a w):=by
 intro n;induction n with
 |zero=>grind [ft]
 |succ n ih=>
  obtain⟨A,d⟩:=ih;have B1:∀(kb:KC)(b:Code)(K:cf)(S:Z)(o:Out)(j:cf)(S':Z)(a:Act)(w:cd)(Q:Exit->Act->cd->Prop),k9 P r b=J (aad kb)->H7 r K->ft call (n+1) (.L kb) K S=J (o,j,S')->WJ base bD S0 w0 mu0 hw0 ti0 (toE r K) S a w->
   (∀g w',H7 r j->WJ base bD S0 w0 mu0 hw0 ti0 (toE r j) S' g w'->Q (UJ o) g w')->Code.rounds P b Q (n+1) a w:=by
   intro kb b K S o j S' a w Q s m h R hQ;rw[rounds_succ];simp only[ft]at h;split at h
   ·rename_i K1 S1 T
    exact A kb b K S .normal K1 S1 a w _ s m T R λg w' i u=>d kb b K1 S1 o j S' g w' Q s i h u hQ
   ·rename_i hne
    refine A kb b K S o j S' a w _ s m h R λg w' i u=>?_;have:=hQ g w' i u;cases o with
    |normal=>simp_all
    |E id=>exact this
    |R=>exact this
  refine⟨?_,B1⟩;intro kc c K S o j S' a w Q s m h R hQ;cases kc with
  |skip=>
   obtain rfl:=(PC s).1 rfl;simp only[ft]at h;cases h;exact wp_skip (hQ a w m R)
  |ret=>
   obtain rfl:=(PC s).2.1 rfl;simp only[ft]at h;cases h;exact wp_ret (hQ a w m R)
  |exit id=>
   obtain rfl:=(PC s).2.2 id rfl;simp only[ft]at h;cases h;exact wp_exit (hQ a w m R)
  |ops l=>
   obtain⟨id,ops,rfl,hl⟩:=acr s;simp only[ft]at h;split at h
   ·rename_i K1 S1 T
    cases h;obtain⟨w1,_,e1⟩:=UG hl m T;exact Xw (aqU O0 hold hN _ (toE r K) S a w _ _ e1 R λg w' u=>hQ g w' w1 u)
   ·cases h
  |draw al l=>
   obtain⟨id,ops,rfl,hr,ha,hl⟩:=Xo s;simp only[ft]at h;split at h
   ·rename_i K1 S1 T
    cases h;obtain⟨w1,_,e1⟩:=Oo ha hl m T;exact amf hm hN O0 hold id ops (toE r K) S _ _ hr e1 base bD S0 w0 mu0 hw0 ti0 a w Q R λg w' u=>hQ g w' w1 u
   ·cases h
  |Q x y=>
   obtain⟨p,q,rfl,T,h2⟩:=acs (x:=aad x) (y:=aad y) s;simp only[ft]at h;refine wp_seq ?_;split at h
   ·rename_i K1 S1 h3
    exact A x p K S .normal K1 S1 a w _ T m h3 R λg w' i u=>A y q K1 S1 o j S' g w' Q h2 i h u hQ
   ·rename_i hne
    refine A x p K S o j S' a w _ T m h R λg w' i u=>?_;have:=hQ g w' i u;cases o with
    |normal=>simp_all
    |E id=>exact this
    |R=>exact this
  |cond z x y=>
   obtain⟨t,p,q,rfl,rfl,T,h2⟩:=Xp (x:=aad x) (y:=aad y) s;simp only[ft,aeC m]at h;have hx:∀b,(toE r K).ev t=.B b->a.eval t=.bool b:=by intro b hb;obtain⟨mu,hw,ti,I,SL,_⟩:=R;have:=(SL.eval (E:=toE r K) (a:=a) I.zZ t).1;rw[hb]at this;generalize hv:a.eval t=v at this;cases this;rfl
   grind [wp_cond_true,wp_cond_false]
  |block id x=>
   obtain⟨p,rfl,T⟩:=S9 (x:=aad x) s;simp only[ft]at h;refine wp_block ?_;split at h;·grind [UJ,Exit.inBlock]
   ·rename_i hne
    refine A x p K S o j S' a w _ T m h R λg w' i u=>?_;have:=hQ g w' i u;cases o with
    |normal=>exact this
    |E id=>simp_all
    |R=>exact this
  |L x=>
   obtain⟨p,rfl,T⟩:=Xq (x:=aad x) s;exact wp_loop_rounds (n+1) (B1 x p K S o j S' a w Q T m h R hQ)
  |dU l k=>
   simp only[ft]at h;refine A k c (K.dU l) S o j S' a w Q s (UH m l) h (Xv R m (UH m l) rfl λt=>?_) hQ;rcases Xt l K.sl t with e|e;·exact .inr ⟨0,e⟩
   ·exact .inl e
  |dT l k=>
   simp only[ft]at h;exact A k c (K.dT l) S o j S' a w Q s (UI m l) h (Xv R m (UI m l) rfl λt=>.inr (Xu l K.sl t)) hQ
  |scope x=>
   obtain⟨p,rfl,T⟩:=S_ (x:=aad x) s;simp only[ft]at h;refine wp_scope_straight (A x p K S o j S' a w _ T m h R λg w' i u=>?_);have:=hQ g w' i u;cases o<;>exact this
  |lab=>
   obtain⟨l,rfl⟩:=amF s;simp only[ft]at h;cases h;exact wp_label (hQ a w m R)
  |bad=>trivial
  |Xh al l k=>
   obtain⟨id,ops,f,rfl,hF,hq,hl,T,h2,h3⟩:=Xr s;simp only[ft]at h;obtain⟨rfl,K1,S1,r1,r2⟩:=Xs h;obtain⟨w1,_,e1⟩:=Oo T h2 m r1;obtain⟨w2,_,e2⟩:=UG h3 w1 r2;exact ZW hm hN O0 hold (Xd hF) e1 e2 (by simpa[toE]using hq) (by simpa[toE]using hl) R λg w' u=>hQ g w' w2 u
end
def MX{call:cT}{g:Nat}(T:mr call):∀(n:Nat)(kc:KC)(c:Code)(K:cf)(S:Z)(o:Out)(i:cf)(S':Z),k9 P g c=J (aad kc)->H7 g K->K.nb<=S.length->ft call n kc K S=J (o,i,S')->
 H7 g i/\i.nb=K.nb/\gK K.nb S S':=by
 intro n;induction n with
 |zero=>nofun
 |succ n A=>
  intro kc c K S o i S' m s b h;have two:∀(x y:KC)(p q:Code)(f:cf)(j:Z),k9 P g p=J (aad x)->k9 P g q=J (aad y)->ft call n x K S=J (.normal,f,j)->ft call n y f j=J (o,i,S')->H7 g i/\i.nb=K.nb/\gK K.nb S S':=by intro x y p q f j r e2 d u;obtain⟨a0,a1,a2⟩:=A _ _ _ _ _ _ _ r s b d;obtain⟨b0,b1,b2⟩:=A _ _ _ _ _ _ _ e2 a0 (by rw[a1];exact uA b a2.len) u;exact⟨b0,b1.trans a1,a2.trans (a1▸b2)⟩
  cases kc with
  |skip=>grind [ft,gK.refl]
  |ret=>grind [ft,gK.refl]
  |exit id=>grind [ft,gK.refl]
  |ops l=>
   obtain⟨id,ops,rfl,hl⟩:=acr m;simp only[ft]at h;split at h
   ·rename_i f j d
    cases h;obtain⟨I,e,r⟩:=UG hl s d;exact⟨I,e,(Ta T _ (toE g K) _ _ _ b r).2⟩
   ·cases h
  |draw al l=>
   obtain⟨id,ops,rfl,hr,ha,hl⟩:=Xo m;simp only[ft]at h;split at h
   ·rename_i f j d
    cases h;obtain⟨I,e,r⟩:=Oo ha hl s d;exact⟨I,e,(PD T (E:=toE g K) b r).2⟩
   ·cases h
  |Q x y=>
   obtain⟨p,q,rfl,d,u⟩:=acs (x:=aad x) (y:=aad y) m;simp only[ft]at h;split at h
   ·rename_i f j v
    exact two x y p q f j d u v h
   grind
  |cond z x y=>
   obtain⟨t,p,q,rfl,rfl,d,u⟩:=Xp (x:=aad x) (y:=aad y) m;simp only[ft]at h;split at h;·grind
   ·grind
   ·cases h
  |block id x=>
   obtain⟨p,rfl,d⟩:=S9 (x:=aad x) m;simp only[ft]at h;split at h
   ·rename_i Jy f j v
    split at h<;>cases h<;>exact A _ _ _ _ _ _ _ d s b v
   grind
  |L x=>
   obtain⟨p,rfl,d⟩:=Xq (x:=aad x) m;simp only[ft]at h;split at h;all_goals grind
  |dU l k=>
   simp only[ft]at h;exact A k c (K.dU l) S o i S' m (UH s l) b h
  |dT l k=>
   simp only[ft]at h;exact A k c (K.dT l) S o i S' m (UI s l) b h
  |scope x=>
   grind [S_,aad,ft]
  |lab=>grind [ft,gK.refl]
  |bad=>trivial
  |Xh al l k=>
   obtain⟨id,ops,a,rfl,hF,hq,hl,d,u,v⟩:=Xr m;simp only[ft]at h;obtain⟨rfl,f,j,r1,r2⟩:=Xs h;obtain⟨I,e,r⟩:=Oo d u s r1;obtain⟨w2,nb2,e2⟩:=UG v I r2;have k1:=PD T (E:=toE g K) b r;have k2:=(Ta T _ (toE g f) _ _ _ (by show f.nb<=_;rw[e];exact uA b k1.2.len) e2).2;exact⟨w2,nb2.trans e,k1.2.trans (by simp_all)⟩
end
end
section
section
variable{P:cO}
theorem Lx:∀(l:K)(n t:Nat),KE.get (Bq n l) t=if n<=t/\t<n+l.length then l.getD (t -n) .U else .U:=by intro l;induction l<;>grind [Bq,KE.get]
def aww{n:Nat}{K:cf}(g:H7 n K){fn:Func}{S:Z}:∀{l:List ResultVar}{a:List KR},l.mapM (amn P)=J a->JG P fn (toE n K) S l=JW K S a:=by
 intro l;induction l with
 |nil=>intro a h;simp at h;subst h;rfl
 |cons r l e=>
  intro a h;obtain⟨f,b,c,d,rfl⟩:=mapM_cons h;cases r<;>grind [amn,JG,JW,aba,r8,Pv]
def Pw{f:FuncId}{ag:bV}{vs:K}{S S1 S':Z}{r:Q}(h:dv f ag vs S S1=J (r,S')):vs.all cI=G/\
 ((aG (cy (aP ag (vs.map cj)))=G/\r=cy (aP ag (vs.map cj))/\S'=S1.take S.length)\/
  (jE S1.length (λk=>ck (S.length<=k)) r=G/\CE S.length S1=G/\r=cy (aP ag (vs.map cj))/\S'=S1)\/
  (jE S.length (λ_=>O) r=G/\r=cy (aP ag (vs.map cj))/\S'=S1.take S.length)\/
  (Lo S1 S.length (cy (aP ag (vs.map cj)))=J r/\aG r=G/\S'=S1.take S.length)):=by
 unfold dv at h;split at h;case isFalse=>cases h
 rename_i a;refine⟨a, ?_⟩;split at h;all_goals grind [Pq]
theorem S5{m a:Nat}{q q':Nat->Bool}(c:m<=a)(d:∀k,k<m->q k=G->q' k=G){r:Q}(h:jE m q r=G):jE a q' r=G:=by
 have f:∀v,xU m q v=G->xU a q' v=G:=by
  intro v e;cases v with
  |sl r j g=>
   cases r<;>grind [Lp,xU,JJ]
  |cV b=>trivial
  |_=>exact JJ c d _ e
 by_cases i:∃b,r=.cV b;·grind [jE]
 simp_all[jE]
def aeO{w:FuncId->Option KF}{nk:NK}(E:Jb P nk)(u:∀f k,w f=J k->∃fn,P.funcs[f]? =J fn/\KOK P fn k):∀n,mr (F1 w nk n):=by
 intro n;induction n with
 |zero=>nofun
 |succ n ih=>
  intro f j S r g h;unfold F1 at h;split at h;·cases h
  rename_i k hk;have⟨fn,hf,hnt,v,hb,Z4⟩:=u f k hk;cases y:fn.body with
  |none=>simp_all
  |some c=>
   simp only[y,Option.bind_some]at hb;split at h;·cases h
   rename_i hlen;have T:H7 fn.ntmps ⟨Bq 0 j,[],S.length⟩:=by
    intro t ht
    grind [Lx]
   split at h;·cases h
   ·rename_i o K1 S1 hne h1
    split at h;·cases h
    rename_i vs0 UE;have⟨_,nb,b⟩:=MX (MY E ih) _ _ _ _ _ _ _ _ hb T (gL S.length) h1;have kl:=b.len
    have drop:(∀m q,S.length<=m->jE m q r=G)->g=S1.take S.length->S.length<=g.length/\jE g.length (λk=>ck (S.length<=k)) r=G/\gK S.length S g/\acd S.length g:=by
     intro v d;subst d;refine⟨by grind,v _ _ (by grind),⟨by grind,λa m q hm I i s p l A hd d=>?_⟩,λi s p l A d=>?_⟩
     ·have x:S1[i]? =J (.M s p l):=by grind
      exact b.old a m q hm I i s p l A hd x
     simp_all
    obtain⟨_,⟨v,rfl,d⟩|⟨z,e,_,rfl⟩|⟨v,_,d⟩|⟨_,v,d⟩⟩:=Pw h;·grind [rC]
    ·refine⟨kl,z,b,λi s p l A d=>?_⟩
     unfold CE at e;rw[AF]at e;have:=e (.M s p l) (by
      refine gM (i:=i -S.length) ?_
      grind)
     omega
    all_goals grind [S5,rC]
   ·cases h
section
variable{base:Nat}{bD:Nat->Prop}{S1:Z}{w':cd}{mu r9:pC}{zI hw2:Nat->Nat}{lk1 lk2:Nat->Prop}{n0:Nat}
def aeP{d:Nat}{x a:Q}(h:DH S1 n0 d x=J a):(∀sz es,x≠.sl .gF sz es)/\(∀vs,x≠.cV vs):=by cases d<;>grind [DH,br]
def Z5{u:bV}{x:Q}(h:br x=G):dx u x=(x,u):=by
 cases x with
 |sl r b a=>cases r<;>first|rfl|trivial
 |_=>rfl
def Z6{u:bV}{x:Q}(h:∀sz es,x≠.sl .gF sz es):dx u x=(x,u):=by
 cases x with
 |sl r sz es=>cases r<;>first|rfl|simp_all
 |_=>rfl
def Xi{a:p5}{ti:Id->TI}{x:Q}{v:bC}(h:br x=G):jf a ti x v:=by
 cases x with
 |sl r c b=>cases r<;>first|trivial|simp[br]at h
 |cV d=>trivial
 |_=>trivial
def S6(d:∀r v,lt n0 (λ_=>G) r=G->RV w' r9 zI lk1 r v->RV w' mu hw2 lk2 r v)(c:∀v f x,RV w' r9 zI lk1 v x->DH S1 n0 12 v=J f->RV w' mu hw2 lk2 f x){u:bV}{x b:Q}(h:NG S1 n0 x=J b):
 (dx u b).2=(dx u x).2/\(∀v,RV w' r9 zI lk1 (dx u x).1 v->RV w' mu hw2 lk2 (dx u b).1 v)/\(∀e ti v,jf e ti (dx u x).1 v->jf e ti (dx u b).1 v)/\cI b=G:=by
 unfold NG at h;split at h
 ·rename_i a
  simp at h;subst h
  have i:lt n0 (λ_=>G) (dx u x).1=G:=by
   unfold pfr at a
   grind [dx,lt,OR,qA,CC]
  refine⟨rfl,λv=>d _ v i,λ_ _ _ h=>h, ?_⟩;unfold pfr at a;split at a;·rfl
  ·cases x<;>first|rfl|trivial
 ·have⟨a,_⟩:=Ar _ _ _ h
  have⟨g,k⟩:=aeP h;rw[Z5 a,Z6 g];refine⟨rfl,λv j=>c _ _ _ j h,λ_ _ _ _=>Xi a, ?_⟩;cases b<;>first|rfl|trivial
def aeQ(d:∀r v,lt n0 (λ_=>G) r=G->RV w' r9 zI lk1 r v->RV w' mu hw2 lk2 r v)(c:∀v f x,RV w' r9 zI lk1 v x->DH S1 n0 12 v=J f->RV w' mu hw2 lk2 f x):
 ∀(l l':K)(u:bV),l.mapM (NG S1 n0)=J l'->(fN u l').2=(fN u l).2/\(fN u l').1.length=(fN u l).1.length/\
  ∀(j:Nat)(b:Q),(fN u l').1[j]? =J b->∃a,(fN u l).1[j]? =J a/\(∀v,RV w' r9 zI lk1 a v->RV w' mu hw2 lk2 b v)/\∀e ti v,jf e ti a v->jf e ti b v:=by
 intro l;induction l with
 |nil=>grind [fN]
 |cons x l o=>
  intro l' u h;obtain⟨p,r,g,n,rfl⟩:=mapM_cons h;have⟨i,k,m,_⟩:=S6 d c (u:=u) g
  grind [fN]
def aeR(d:∀r v,lt n0 (λ_=>G) r=G->RV w' r9 zI lk1 r v->RV w' mu hw2 lk2 r v)(c:∀v o x,RV w' r9 zI lk1 v x->DH S1 n0 12 v=J o->RV w' mu hw2 lk2 o x){x b:Q}(h:Lo S1 n0 x=J b):
 (aY [] b).2=(aY [] x).2/\(∀v,RV w' r9 zI lk1 (aY [] x).1 v->RV w' mu hw2 lk2 (aY [] b).1 v)/\(∀i ti v,e_ i ti (aY [] x).1 v->e_ i ti (aY [] b).1 v):=by
 by_cases T:∃m,x=.cV m
 ·obtain⟨m,rfl⟩:=T
  simp only[Lo,r8]at h;obtain⟨l',S,rfl⟩:=h;have⟨w,z,A⟩:=aeQ d c m l' [] S;simp only[aY];refine⟨w,λv hv=>?_,λi ti v l k e j a y n hy=>?_⟩
  ·cases hv with
   |cV _ f g=>
    rw[<-z];refine .cV _ f λj a n=>?_
    grind
  ·have⟨p,E,_,I⟩:=A j a n
   exact I _ _ _ (l k e j p y E hy)
 ·have hx:Lo S1 n0 x=NG S1 n0 x:=by cases x<;>first|rfl|simp_all
  rw[hx]at h;have⟨q,s,t,a4⟩:=S6 d c (u:=[]) h;rw[(by cases x<;>first|rfl|trivial:aY [] x=dx [] x),(by cases b<;>first|rfl|trivial:aY [] b=dx [] b)];exact⟨q,s,λi ti v l=>e_.of1 (t i ti v (l.to1 (Pl [] x (by cases x<;>first|rfl|trivial|simp[NG,pfr,br,DH]at h))))⟩
end
def Z7{ay:FuncId->Option KF}{nk:NK}{n:Nat}(hm:P.follows .mixedOrders=G)(hN:Cy P)(hpr:Jb P nk)(awy:∀f k,ay f=J k->∃fn,P.funcs[f]? =J fn/\KOK P fn k)
 (IH:oX P (F1 ay nk n)):oX P (F1 ay nk (n+1)):=by
 intro f args S r S' h base bD w mu hw ti SD I hlen awz;have hold:=MY hpr (aeO hpr awy n);unfold F1 at h;split at h;·cases h
 rename_i k hk;have⟨fn,hf,hnt,hp,Zy,Z4⟩:=awy f k hk;obtain⟨c,hb⟩:∃c,fn.body=J c:=by cases hbd:fn.body<;>simp_all
 simp only[hb,Option.bind_some]at Zy;split at h;·cases h
 rename_i hal;have wf0:H7 fn.ntmps ⟨Bq 0 args,[],S.length⟩:=by
  intro t ht
  grind [Lx]
 split at h;·cases h
 ·rename_i o u S1 hne h1
  split at h;·cases h
  rename_i vs0 UE;have⟨hnt,ag3⟩:=Pw h;clear h;generalize hvv:vs0.map cj=vs at ag3;refine⟨⟨fn,c,hf,hb⟩,calls_of_wp hf hb ?_⟩;have⟨wf1,_,d⟩:=MX hold _ _ _ _ _ _ _ _ Zy wf0 (gL S.length) h1;have Zz:JG P fn (toE fn.ntmps u) S1 fn.results.toList=J vs0:=by rw[aww wf1 Z4];exact UE
  refine(Xj (base:=base) (bD:=bD) (S0:=S) (w0:=w) (mu0:=mu) (hw0:=hw) (ti0:=ti) hm (Xk hpr IH) hold hN n).1 _ c _ S o u S1 _ w _ Zy wf0 h1 ?_ ?_
  ·refine⟨mu,hw,ti,I,⟨?_,λt=>?_⟩,Ext.refl _ _ _ _ _ _,kY.refl _ _,rfl,λi h _=>⟨rfl,h⟩⟩
   ·simp[toE];omega
   rw[aba wf0];show RV _ _ _ _ (KE.get (Bq 0 args) t) _/\e_ _ _ (KE.get (Bq 0 args) t) _;rw[Lx];by_cases FJ:t<args.length
   ·rw[ifP]
    have⟨v,hv,hr,hfl⟩:=awz t args[t] ca;have e1:args.getD (t -0) .U=args[t]:=by grind
    have e2:(SD++Array.replicate (fn.ntmps -SD.size) undef).getD t undef=v:=by rw[Fk,Array.getElem?_append_left V,hv];rfl
    rw[e1,e2];trivial
   ·rw[uB]
    exact⟨.undef _,trivial⟩
  ·intro a' w' wf' R
   have⟨r9,zI,Lj,I1,SL,e,lv,hd,hole⟩:=R;have gg:a'.defers=[]/\∃v,(results fn a'.tmps).run P w'=.ok v w'/\aca P base bD S w mu hw ti r S' (.returned v) w':=by
    refine⟨hd, ?_⟩;have⟨ys,r1,r2',r3'⟩:=amo (fn:=fn) I1 SL _ _ Zz;have r2:vs.length=ys.length:=by grind
    have r3:∀(j:Nat)(x:Q)(v:bC),vs[j]? =J x->ys[j]? =J v->RV w' r9 zI (ic S1 r9) x v/\e_ (bI u.ag S1 r9) Lj x v:=by intro j x v hx hv;rw[<-hvv]at hx;simp at hx;obtain⟨y,hy,rfl⟩:=hx;have⟨p,q⟩:=r3' j y v hy hv;exact⟨p.cj,q.cj⟩
    have awB:∀x∈vs,cI x=G:=by intro x hx;rw[<-hvv]at hx;simp only[zK]at hx;obtain⟨y,hy,rfl⟩:=hx;rw[AF]at hnt;have:=hnt y hy;cases y<;>first|exact this|rfl
    have⟨ks,tp,T,_,l2,a2⟩:=aeS (S:=S1) (w:=w') (mu:=r9) (hw:=zI) (ti:=Lj) vs ys u.ag [] [] (⟨rfl,λm g h=>by simp at h,λm m' k h=>by simp at h,λk g h=>h,λm k h=>by simp at h⟩) r2 (λj x v hx hv=>by have⟨p,q⟩:=r3 j x v hx hv;exact⟨p,q.to1 (awB x (gM hx))⟩);rw[Br]at T a2
    have hm:(fn.results.mapM (λr=>match r with
     |.tmp t=>pure (a'.tmps.getD t undef)
     |.cell a0 t=>do loadVar t (<-asAddr (a'.tmps.getD a0 undef)):ResultVar->Sem bC)).run P w'=.ok ys.toArray w':=by
     rw[Array.mapM_eq_mapM_toList,Sem.run_map]
     grind [Result.andThen]
    have Z4:(results fn a'.tmps).run P w'=.ok (if h:ys.toArray.size=1 then ys.toArray[0]else .tuple ys.toArray) w':=by unfold results;rw[Sem.run_bind];exact(congrArg (λz=>Result.andThen z _) hm).trans rfl
    have fin:(aY [] (cy (aP u.ag vs))).2=(fN [] (aP u.ag vs)).2/\
     RV w' r9 zI (ic S1 r9) (aY [] (cy (aP u.ag vs))).1 (if h:ys.toArray.size=1 then ys.toArray[0]else .tuple ys.toArray)/\
     e_ (bI (fN [] (aP u.ag vs)).2 S1 r9) (AG Lj ks) (aY [] (cy (aP u.ag vs))).1 (if h:ys.toArray.size=1 then ys.toArray[0]else .tuple ys.toArray):=by
     have A:ys.length≠1->cy (aP u.ag vs)=.cV (aP u.ag vs)->(aY [] (cy (aP u.ag vs))).2=(fN [] (aP u.ag vs)).2/\
      RV w' r9 zI (ic S1 r9) (aY [] (cy (aP u.ag vs))).1 (if h:ys.toArray.size=1 then ys.toArray[0]else .tuple ys.toArray)/\
      e_ (bI (fN [] (aP u.ag vs)).2 S1 r9) (AG Lj ks) (aY [] (cy (aP u.ag vs))).1 (if h:ys.toArray.size=1 then ys.toArray[0]else .tuple ys.toArray):=by
      intro hl1 arl;rw[arl,dif_neg V];simp only[aY];refine⟨trivial, ?_, ?_⟩
      ·have hR:=RV.cV (w:=w') (mu:=r9) (hw:=zI) (lk:=ic S1 r9) (fN [] (aP u.ag vs)).1 (λj=>ys.getD j undef) (λj x hj=>by grind)
       have e0:((List.range (fN [] (aP u.ag vs)).1.length).map λj=>ys.getD j undef).toArray=ys.toArray:=by grind
       grind
      ·intro arr awC j x y hx hy
       grind
     cases UE:vs with
     |nil=>
      rw[UE]at A r2;exact A (by grind) rfl
     |cons x l=>
      cases hl0:l with
      |cons x' l'=>
       rw[UE,hl0]at A r2;exact A (by grind) rfl
      |nil=>
       rw[UE,hl0]at a2 r2 l2;have hnx:=awB x (by grind);obtain⟨y,rfl⟩:∃y,ys=[y]:=by cases ys<;>grind
       have hg:=Pk u.ag x hnx;have ht:aY [] (bm u.ag x).1=dx [] (bm u.ag x).1:=by
        cases hx:(bm u.ag x).1 with
        |cV l=>rw[hx]at hg;trivial
        |_=>rfl
       have arl:cy (aP u.ag [x])=(bm u.ag x).1:=rfl;have⟨p,q⟩:=a2 0 (dx [] (bm u.ag x).1).1 y rfl rfl;rw[arl,ht];exact⟨rfl,p,e_.of1 q⟩
    have⟨g1,g2,g3⟩:=fin;rw[<-g1]at T g3;have⟨I2,lv2⟩:=ZY I1 lv T;have⟨q1,q2,q3,q4,q5,q6⟩:=agP I I2 e lv2 hole d
    have one:∀(x:Q)(y:bC),lt S.length (λ_=>G) x=G->jf (bI (aY [] (cy (aP u.ag vs))).2 S1 r9) (AG Lj ks) x y->
     jf (bI (aY [] (cy (aP u.ag vs))).2 (S1.take S.length) mu) (AG Lj ks) x y:=by
     intro x y hx hf1;cases x with
     |sl rr sz es=>
      cases rr with
      |fr k=>
       trivial
      |bx i j=>
       have⟨o',c1,c2⟩:=hf1;have hi:i<S.length:=by grind [lt,OR]
       exact⟨o',by grind,c2⟩
      |_=>exact hf1
     |_=>exact hf1
    have aeT:∀(s:Q)(y:bC),lt S.length (λ_=>G) s=G->e_ (bI (aY [] (cy (aP u.ag vs))).2 S1 r9) (AG Lj ks) s y->
     e_ (bI (aY [] (cy (aP u.ag vs))).2 (S1.take S.length) mu) (AG Lj ks) s y:=by
     intro s y Zy g3;cases s with
     |cV l=>
      intro arr awC j x y hx hy;exact one x y (uW (by trivial) hx) (g3 arr awC j x y hx hy)
     |sl rr sz es=>exact one (.sl rr sz es) _ Zy g3
     |_=>trivial
    rcases ag3 with⟨hp,rfl,rfl⟩|⟨_,_,rfl,rfl⟩|⟨hp,rfl,rfl⟩|⟨hfz,hp,rfl⟩
    ·have Zy:=Oi (rC hp S.length (λ_=>G))
     exact⟨_,Z4,_,rfl,mu,_,AG Lj ks,q1,q2,q3,q4 _ _ Zy g2,aeT _ _ Zy g3,λi a b=>⟨q6 i a b,a⟩⟩
    ·exact⟨_,Z4,_,rfl,r9,zI,AG Lj ks,I2,e,lv2,g2,g3,hole⟩
    ·have Zy:=Oi (S5 (gL _) (λk _ h=>by rfl) hp (q':=λ_=>G))
     exact⟨_,Z4,_,rfl,mu,_,AG Lj ks,q1,q2,q3,q4 _ _ Zy g2,aeT _ _ Zy g3,λi a b=>⟨q6 i a b,a⟩⟩
    ·have Zy:=Oi (rC hp S.length (λ_=>G))
     have⟨t1,t2,t3⟩:=aeR (n0:=S.length) (mu:=mu) (lk2:=ic (S1.take S.length) mu) q4 (λv v' x hv hf=>aq7 I2 _ _ _ _ hv hf) hfz;refine⟨_,Z4,_,rfl,mu,_,AG Lj ks, ?_,q2, ?_,t2 _ g2, ?_,λi a b=>⟨q6 i a b,a⟩⟩;·grind
     all_goals grind
   cases o with
   |normal=>exact gg
   |R=>exact gg
   |E id=>simp_all
 ·cases h
def Z8{b:FuncId->Option KF}{nk:NK}(e:P.follows .mixedOrders=G)(d:Cy P)(c:Jb P nk)(a:∀f k,b f=J k->∃fn,P.funcs[f]? =J fn/\KOK P fn k):∀n,oX P (F1 b nk n):=by
 intro n;induction n with
 |zero=>nofun
 |succ n g=>exact Z7 e d c a g
end
end
@[simp]abbrev eG(d s:Nat):KO:=⟨J d,D,.p (.mov (.t s))⟩
@[simp]abbrev cG(d:Nat)(p:KP):KO:=⟨J d,D,.p p⟩
@[simp]abbrev ee(d:Nat)(k:IA):KO:=⟨J d,D,k⟩
@[simp]abbrev HK(k:IA):KO:=⟨D,D,k⟩
@[simp]abbrev q_x(d g s:Nat):KO:=⟨J d,J (g,G),.p (.mov (.t s))⟩
@[simp]abbrev NJ(d g s:Nat):KO:=⟨J d,J (g,O),.p (.mov (.t s))⟩
@[simp]abbrev Dw(d g:Nat)(p:KP):KO:=⟨J d,J (g,G),.p p⟩
@[simp]abbrev p6(d g:Nat)(p:KP):KO:=⟨J d,J (g,O),.p p⟩
@[simp]abbrev Td(d g:Nat)(k:IA):KO:=⟨J d,J (g,G),k⟩
@[simp]abbrev Fm(d g:Nat)(k:IA):KO:=⟨J d,J (g,O),k⟩
@[simp]abbrev zL(n:Int):KV:=.c (.I Y n)
def aa5(te:bS):Q->Option Int
 |.kv t (.I Y n)=>if t=te then J n else D
 |_=>D
def asP(tp te:bS)(args:List Q)(S:Z):Option (Q × Z):=match args with
 |[e,.kv t (.P i 0)]=>if t=tp then match aa5 te e,S[i]? with
    |some n,J (.M [.I Y _] bt O)=>J (.B G,S.set i (.M [.I Y n] bt O))
    |_,_=>D
  else D
 |_=>D
theorem atB:Tryz.prog.funcs.all (λa=> !(a.name== "runtime.NumGoroutine"))=G:=by kernel_rfl
def adw{a b c:bC}{vs:rH}(g:vs.size=3)(d:vs[0]? =J a)(e:vs[1]? =J b)(f:vs[2]? =J c):vs= #[a,b,c]:=by grind
def abC:rH->Sem bC:=λargs=>do
 let(x,y,b) <-Extern.MathBitsCarry.three "Sub64" args
 pure (Extern.MathBitsCarry.pair ((x+Extern.MathBitsCarry.m64 -y -b)%Extern.MathBitsCarry.m64) (if x<y+b then 1 else 0))
def abD{P:cO}(x y c:Int)(f:0<=x)(g:0<=y)(n:y<18446744073709551616)(d:0<=c)(l:c<=1)(w:cd):
 (abC #[.int U x,.int U y,.int U c]).run P w=
  .ok (.tuple #[.int U ((x+18446744073709551616 -y -c)%18446744073709551616),.int U (if x<y+c then 1 else 0)]) w:=by
 have e:∀k:Nat,k<=1->(abC #[.int U x,.int U y,.int U (k:Int)]).run P w=
  .ok (Extern.MathBitsCarry.pair ((x.toNat+Extern.MathBitsCarry.m64 -y.toNat -k)%Extern.MathBitsCarry.m64) (if x.toNat<y.toNat+k then 1 else 0)) w:=by
  intro k m;have:k=0\/k=1:=V;rcases this with rfl|rfl<;>rfl
 obtain⟨k,rfl⟩:=aat d;rw[e k V];obtain⟨a,rfl⟩:=aat f;obtain⟨b,rfl⟩:=aat g;have i:(((a+2^64 -b -k)%2^64:Nat):Int)=((a:Int)+2^64 -b -k)%2^64:=V;have j:((if a<b+k then 1 else 0:Nat):Int)=if(a:Int)<b+k then 1 else 0:=by by_cases h:a<b+k;all_goals grind
 simp_all[Extern.MathBitsCarry.pair,Extern.MathBitsCarry.m64]
def xv0{l:K}{r:Q}(h:Fj 0 l=J r):∃x y c,l=[.I U x,.I U y,.I U c]/\(0<=x/\0<=y/\0<=c/\c<=1)/\r=.cV [.I U ((x+y+c)%18446744073709551616),.I U ((x+y+c)/18446744073709551616)]:=by
 match l,h with
 |[.I U x,.I U y,.I U c],h=>
  grind [Fj]
def xv1{l:K}{r:Q}(h:Fj 1 l=J r):∃x y c,l=[.I U x,.I U y,.I U c]/\(0<=x/\0<=y/\y<18446744073709551616/\0<=c/\c<=1)/\r=.cV [.I U ((x+18446744073709551616 -y -c)%18446744073709551616),.I U (if x<y+c then 1 else 0)]:=by
 match l,h with
 |[.I U x,.I U y,.I U c],h=>
  simp only[Fj]at h;split at h;all_goals grind
def named:Cy fF:=by
 refine⟨λf S h=>?_,λf e s r vs w mu T lk g h d=>?_⟩;·grind [atB]
 ·unfold al7 at g
  split at g
  ·rename_i n
   cases g;subst n;obtain⟨x,y,c,rfl,t,rfl⟩:=xv0 h;have⟨E,i,o⟩:=d.2 0 _ rfl;have⟨I,k,p⟩:=d.2 1 _ rfl;have⟨P,l,q⟩:=d.2 2 _ rfl;cases o;cases p;cases q;obtain rfl:=adw (by simpa using d.1.symm) i k l;refine⟨.tuple #[.int U ((x+y+c)%2^64),.int U ((x+y+c)/2^64)], ?_, ?_, ?_⟩
   ·rw[run_callFunc_extern (e:=add64Entry) Tryz.func175 rfl rfl (by kernel_rfl) (by kernel_rfl)]
    simp_all[run_add64]
   ·refine RV.cV _ (λj=>if j=0 then .int U ((x+y+c)%2^64)else .int U ((x+y+c)/2^64)) λj a b=>?_
    match j,b with
    |0,b=>cases b;exact .int _ _
    |1,b=>cases b;exact .int _ _
   ·intro v A m e j a z b u
    match j,b with
    |0,b=>cases b;trivial
    |1,b=>cases b;trivial
  split at g
  ·rename_i n
   cases g;subst n;obtain⟨x,y,c,rfl,t,rfl⟩:=xv1 h;have⟨E,i,o⟩:=d.2 0 _ rfl;have⟨I,k,p⟩:=d.2 1 _ rfl;have⟨P,l,q⟩:=d.2 2 _ rfl;cases o;cases p;cases q;obtain rfl:=adw (by simpa using d.1.symm) i k l;refine⟨.tuple #[.int U ((x+2^64 -y -c)%2^64),.int U (if x<y+c then 1 else 0)], ?_, ?_, ?_⟩
   ·rw[run_callFunc_extern (e:=abC) Tryz.func243 rfl rfl (by kernel_rfl) (by kernel_rfl)]
    simp_all[abD]
   ·refine RV.cV _ (λj=>if j=0 then .int U ((x+2^64 -y -c)%2^64)else .int U (if x<y+c then 1 else 0)) λj a b=>?_
    match j,b with
    |0,b=>cases b;exact .int _ _
    |1,b=>cases b;exact .int _ _
   ·intro v A m e j a z b u
    match j,b with
    |0,b=>cases b;trivial
    |1,b=>cases b;trivial
  grind
end Go.Proofs.YtefopednbffpaaaGreatDoor.am
