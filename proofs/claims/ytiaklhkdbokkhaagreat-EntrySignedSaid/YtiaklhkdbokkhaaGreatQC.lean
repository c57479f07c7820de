/- Parts. No condition. -/
import Derived.Scope
import Derived.Test.YtiaklhkdbokkhaaGreatProg
import Derived.Laws.Externs
import Derived.KernelRfl
import Derived.Test.YtiaklhkdbokkhaaGreatQB
set_option linter.all false
namespace Go.Proofs.YtiaklhkdbokkhaaGreat.am
open Go Go.RowKit
open Option renaming some->J,none->M,map_eq_some_iff->rH
open Bool renaming false->O,true->G,and_eq_true->mv
open Go.IntKind renaming i64->Y,u64->U,u8->L
open Decidable renaming decide->b_
open List renaming replicate->fL
open Nat renaming le_refl->gM
open BitVec renaming ofInt->gL
open Go renaming Program->cy,TypeId->bO,Value->bC,World->cw,FuncId->eS
open Option.some renaming inj->ud
open Go.Proofs.YtiaklhkdbokkhaaGreat.am renaming om->V,St->Z,AV->Q,bD->F
section
section
variable{P:cy}{call:cP}{ops:Array Oper}{E E0 E':Env}{S S0 S':Z}{NM:List Z}{Rb:List Af}{sn:Nat->Env × Z}{cX:Array Bool}{w:cw}{mu:oV}{hw:Nat->Nat}{ti:Id->TI}
 {base:Nat} {bA:Nat->Prop} {MZ:Z} {Rh:cw} {Ag:oV} {Bt:Nat->Nat} {Bu:Id->TI} {m:Nat} {a:Act} {ag:bV}
def Rj(e:∀i b,mu i=J b->i<S.length)(f:Z):h_ (S++f) mu=h_ S mu:=by
 funext b;apply propext;constructor
 ·rintro⟨i,c,a,g,d⟩
  exact⟨i,c,a,by grind,d⟩
 ·rintro⟨i,c,a,g,d⟩
  exact⟨i,c,a,by grind,d⟩
theorem tH(a:∀i b,mu i=J b->i<S.length)(c:Z):bF ag (S++c) mu=bF ag S mu:=by funext id;cases id<;>grind [bF]
def Rk(I:Inv base bA ag S w mu hw ti)(f:Z):Inv base bA ag (S++f) w mu hw ti/\Ext base bA S w mu hw (S++f) w mu hw:=by
 have a:∀i b,mu i=J b->i<S.length:=λi b h=>(I.lX i b h).1;refine⟨⟨λi j b d e=>?_,λi c g l b d e=>?_,I.wY,λi b h=>?_,I.zD, ?_, ?_,I.oH,I.qG,I.zE⟩,⟨λ_ _ h=>h,λ_=>gM _,λb h=>by rw[Rj a];exact h,λ_ _ _ _ h=>h,λ_ _=>⟨rfl,rfl⟩,AZ.refl _ _,by simp⟩⟩
 ·rw[En (a i b e)]at d
  rw[Rj a];exact I.sL i j b d e
 ·rw[En (a i b e)]at d
  rw[tH a];exact I.sw i c g l b d e
 ·have⟨p,q⟩:=I.lX i b h
  grind
 ·rw[tH a];exact I.yR
 ·rw[tH a];exact I.sx
def acY(a:Em ops)(m:cX.size=ops.size)(h:Region.ready .any ops cX=[]):∀(n i:Nat),i<n->i<ops.size->cX.getD i O=G:=by
 intro n;induction n with
 |zero=>omega
 |succ n o=>
  intro i l b;cases k:cX.getD i O with
  |true=>rfl
  |false=>
   exfalso;have c:=IC b;have:i∈Region.ready .any ops cX:=by
    unfold Region.ready;rw[S7];refine⟨by simp_all, ?_⟩;have d:cX.getD i G=O:=by simp_all
    rw[d,c];simp only[SU,S8,Option.getD_some,Rl];rw[aeS];intro e g;cases f:Region.binds .any e with
    |false=>rfl
    |true=>
     have j:=a.back i _ c e g f
     grind
   simp_all
def IE(a:cX.size=ops.size)(h:∀i,i<ops.size->cX.getD i O=G):Region.ready .any ops cX=[]:=by grind [Region.ready,List.filter_eq_nil_iff]
def DS.fin(c:Reg P call ops E E0 S S0 E' S' NM Rb sn)(b:DS P ops E E' S sn base bA MZ Rh Ag Bt Bu m mu hw ti cX a w)(h:∀i,i<ops.size->cX.getD i O=G):
 Vk base bA MZ Rh Ag Bt Bu E' S' a w:=by
 have d:=c.H;have⟨z,s⟩:=Eo c.R d b.mle (gM _) (λj o g A=>by have u:=(Rf.1 g).1;have:=(b.eff j o g A).1 (h j u);omega);rw[d.last]at z s;have s:=s;have I:=b.I;have f:=b.X;have ext:=b.ext;have v:=b.lv;have r:=b.old;rw[z,s]at I f v;rw[s]at ext r;have l:E'.ca.length=E.ca.length:=by have:=(J9 d ops.size (gM _)).1;rw[d.last]at this;exact this.trans c.hlen
 refine⟨mu,hw,ti,I,⟨l.trans f.len,λt=>?_⟩,ext,v,b.defers,r⟩;by_cases q:∃(j:Nat)(x:Oper),ops[j]? =J x/\x.dst=J t
 ·have⟨j,x,g,n⟩:=q
  exact f.done t j x g n (h j (Rf.1 g).1)
 ·have p:∀(j:Nat)(x:Oper),ops[j]? =J x->x.dst≠J t:=λj x g n=>q ⟨j,x,g,n⟩
  have:=Co d (t:=t) ops.size 0 V λk y _ _ T _=>p k y T;rw[LG,d.zero,d.last]at this;have this:=this;rw[this,c.hA t λx n _ e=>?_];·exact f.todo t λj x g n=>absurd n (p j x g)
  grind [List.getElem?_of_mem]
def aeT(c:Reg P call ops E E0 S S0 E' S' NM Rb sn)(j:pv P call)(g:mw call)(s:Bs P){Q:Exit->Act->cw->Prop}
 (q:∀k w',Vk base bA MZ Rh Ag Bt Bu E' S' k w'->Q .normal k w'):∀(d m:Nat)(mu:oV)(hw:Nat->Nat)(ti:Id->TI)(cX:Array Bool)(a:Act)(w:cw),
  DS P ops E E' S sn base bA MZ Rh Ag Bt Bu m mu hw ti cX a w->cX.toList.countP (!·)<=d->wpAny P .any ops Q d cX a w:=by
 intro d;induction d with
 |zero=>
  intro m mu hw ti cX a w b t;have e:∀i,i<ops.size->cX.getD i O=G:=by
   intro i f;have x:i<cX.size:=by rw[b.Vz];exact f
   have p:cX.toList.countP (!·)=0:=V;rw[List.countP_eq_zero]at p;have:=p cX[i] bW;simp_all
  exact⟨IE b.Vz e,q a w (b.fin c e)⟩
 |succ d z=>
  intro m mu hw ti cX a w b t;refine⟨λh=>q a w (b.fin c λi f=>acY c.R b.Vz h (i+1) i V f),λi f=>?_⟩;refine Ri c j g s b f λA n l o k w' r=>z A n l o _ k w' r ?_;unfold Region.ready at f;rw[S7]at f;have⟨u,v⟩:=f;have y:i<ops.size:=by simp_all
  have x:i<cX.toList.length:=by grind
  simp_all[List.countP_set]
end
def akj{P:cy}{call:cP}(hm:P.follows .mixedOrders=G)(hN:Bs P)(n:pv P call)(l:mw call):akk P call:=by
 intro id ops E S E' S' m h base bA MZ Rh Ag Bt Bu a w d Rn hQ;have R:=Hm m;unfold Ej at h;split at h;·simp at h
 rename_i E0 S0 s;split at h;·simp at h
 rename_i E1 S1 ss ls T;split at h;case isFalse=>simp at h
 rename_i f;simp at h;obtain⟨rfl,rfl⟩:=h;obtain⟨a1,a2,a3,⟨g,rfl⟩,a5,a6⟩:=LD _ _ _ _ _ s R.nodup;obtain⟨⟨t,ht⟩,_,sn,H⟩:=LI ops.toList 0 E0 (S++g) [S++g] [] _ _ ss ls (λj=>by simp) bW rfl (λo _ ha=>Ap ha) T;have c:Reg P call ops E E0 S (S++g) E1 S1 ss ls sn:={
  R:=R
  H:=H
  h0:=by grind
  aeP:=f
  hA:=a6
  hB:=λj o t v ho=>a5 j o t (by simp_all) ho
  hlen:=a3
  anh:=a1}
 refine wp_region_any hm ?_;have⟨mu,hw,ti,I,r,e,lv,hd,old⟩:=Rn;have⟨I1,e1⟩:=sN I;have⟨I2,e2⟩:=Rk I1 g;have k:∀i b,mu i=J b->i<S.length:=λi b h=>(I.lX i b h).1;refine aeT c n l hN hQ ops.size 0 mu hw ti _ a _ ?_ ?_
 ·refine⟨w5 _,λj o v he=>?_, ?_,⟨r.1,λt i o u ho x=>?_,λt _=>?_⟩, ?_, ?_,λj o t v A _=>?_,λi u y=>?_,e.Yw,hd,λi o u x=>?_,by simp⟩
  ·have:(Array.replicate ops.size O).getD j O=O:=by rw[DU,aaO];grind
   simp_all
  ·rw[H.zero]
   simp_all
  ·exfalso
   rw[DU,aaO]at x
   grind
  ·rw[H.zero]
   show RV _ mu hw (h_ (S++g) mu) _ _/\eU (bF E0.ag (S++g) mu) ti _ _;rw[a1,tH k];exact⟨e2.rv (e1.rv (r.2 t).1),(r.2 t).2⟩
  ·rw[H.zero]
   exact(e.trans e1).trans e2
  ·rw[H.zero]
   grind [tH]
  ·have⟨z,b1,b2,_⟩:=c.hB j o t v A
   refine⟨?_,z,b1,by rw[H.zero];exact b2⟩;cases hmu:mu (S.length+J1 ops.toList j)<;>grind
  ·have⟨p,q⟩:=old i u y
   refine⟨?_,q⟩;rw[H.zero]
   grind
  ·exfalso
   rw[DU,aaO]at x
   grind
 grind [List.countP_le_length]
end
section
def Qj(w:cw)(a:qS)(e:bO)(o:Nat)(v:bC):(w.alloc (.cells a e)).setCell ⟨w.heap.size,o,M⟩ v=w.alloc (.cells (a.setIfInBounds o v) e):=by
 unfold World.setCell World.alloc;simp only;congr 1
 grind
def Et(w:cw)(e:bO):∀(l:List bC)(A B C:qS),B.size=l.length->(w.alloc (.cells (A++B++C) e)).setCells w.heap.size A.size l=w.alloc (.cells (A++l.toArray++C) e):=by
 intro l;induction l with
 |nil=>
  intro A B C h;have:B= #[]:=by simp_all
  subst this;rfl
 |cons v l b=>
  intro A B C h;show((w.alloc (.cells (A++B++C) e)).setCell ⟨w.heap.size,A.size,M⟩ v).setCells w.heap.size (A.size+1) l=_;rw[Qj];have c:0<B.size:=by simp_all
  have a:(A++B++C).setIfInBounds A.size v=(A.push v)++(B.extract 1 B.size)++C:=by
   apply Array.ext_getElem?;intro k;simp
   grind
  rw[a];have:=b (A.push v) (B.extract 1 B.size) C (by simp_all);simp_all
section
variable{P:cy}{base:Nat}{bA:Nat->Prop}{ag aV:bV}{S S':Z}{w w':cw}{mu:oV}{hw:Nat->Nat}{ti:Id->TI}
def aoS(P:cy)(base:Nat)(bA:Nat->Prop)(ag:bV)(S:Z)(w:cw)(mu:oV)(hw:Nat->Nat)(ti:Id->TI)(aV:bV)(S':Z)(ts:Array bO)(ty:bO)(args:qS)
    (sz:Nat) (cv:qS) (v:bC) (r:Q):Prop:=
 ∃b o n cap w1,(∃a c0,v=.slice a n c0)/\(Builtin.append_ ts ty args).run P w=.ok (.slice (J ⟨b,o,M⟩) (n+1) cap) w1/\n+1<=cap/\
  (∃vs el,w1.heap[b]? =J (.cells vs el (0,0))/\o+n*sz+sz<=vs.size)/\(∀i,mu i≠J b)/\(∀k,k≠b->k<w.heap.size->w1.heap[k]? =w.heap[k]?)/\
  nS base bA ag S w mu hw ti aV S' (w1.setCells b (o+n*sz) cv.toList) r (.slice (J ⟨b,o,M⟩) (n+1) cap)
def atT(I:Inv base bA ag S w mu hw ti)(hs:zF S S'){id:Id}{es:jV}{zc c:F}{l:qS}{sz:Nat}{ts:Array bO}{ty e:bO}(ha:Bq P ts=J (e,sz))
 {args:qS} {x:Q} {v vx:bC} (h0:args[0]? =J v) (h1:args[1]? =J vx) (hv:RV w mu hw (h_ S mu) (.sl (NW id) sz es) v) (hf:eU (bF ag S mu) ti (.sl (NW id) sz es) v)
 (hx:RV w mu hw (h_ S mu) x vx) (he:bZ S x=J (sz,[zc])) (m:ES w mu hw (h_ S mu) sz [c] l) (E:es.length+1<=1073741824)
 (d:bF ag S mu id=J (J es.length))
 (hl:∀x,bF aV S' mu x=if x=id then J (J (es.length+1))else bF ag S mu x)
 (g:∀i,mu i=M->S'[i]? =S[i]?) (u:∀i j,id=.bx i j->∃b,mu i=J b):
 aoS P base bA ag S w mu hw ti aV S' ts ty args sz l v (.sl (NW id) sz (es++[c])):=by
 have ht:ac0 (ti id) sz es.length v:=by
  have:Cp (bF ag S mu) ti id sz es.length v:=by cases id<;>exact hf
  have⟨o,t1,t2⟩:=this;simp_all
 have⟨_,_,_,_,_,_,_,_,_,_,_,_,_,_,_,h⟩:=oW ha;have f:=ht.1;have⟨l1,l2⟩:=j_ (P:=P) I hx he h (λ_=>rfl);have hcs:l.size=sz:=by have:=m.size;simp_all
 have⟨aCn,_,aCo⟩:=I.yR id _ d;have⟨t1,t2,t3,t4,vs,el,t5,t6⟩:=aCn;rw[ht.2]at t1 t3 t6;by_cases z:es.length+1<=(ti id).cap
 ·have⟨a,n1,q⟩:=l2 1 (gM _)
  rw[show[zc].take 1=[zc]from rfl]at q;have n:=wX sz z;rw[IG,NX]at n;have hns:a.size=sz:=by have:=q.size;simp_all
  obtain⟨⟨vs',s1,s2,s3⟩,s4,s5,s6,s7,s8⟩:=qT (ti id).b el (0,0) a.toList ((ti id).o+es.length*sz) w vs t5 (by grind);obtain⟨⟨vs2,q1,q2,q3⟩,q4,q5,q6,q7,q8⟩:=qT (ti id).b el (0,0) l.toList ((ti id).o+es.length*sz) (w.setCells (ti id).b ((ti id).o+es.length*sz) a.toList) vs' s1 (by grind);have Yc:(storeCells ⟨(ti id).b,(ti id).o+es.length*sz,M⟩ a.toList).run P w=.ok () (w.setCells (ti id).b ((ti id).o+es.length*sz) a.toList):=by
   have:=run_storeCells_cells (P:=P) (ti id).b ((ti id).o+es.length*sz) a.toList 0 w
    (λj hj=>by rw[gN t5];grind)
    (λj _=>by simp[World.frozen?,t5])
    (λy hy=>by
     have⟨k,g⟩:=IA hy;have A:a[k]? =J y:=by grind
     have atU:=HP A;have⟨p,y',T,hr⟩:=q.cell 0 zc k _ rfl (Ek (by rw[q.len 0 zc rfl];omega));rw[NY,LG,A]at T;obtain rfl:=ud T;exact hr.one p)
   omega
  refine⟨_,_,es.length,_,_,⟨_,_,f⟩,LF ha (by grind) h1 l1 n1 z Yc,z,⟨vs',el,s1,by omega⟩,aCo,λk g _=>s4 k g, ?_⟩;refine VG (xs:=[c]) I hs hv ht d m bW z t5 q1 (λk g=>(q4 k g).trans (s4 k g)) (q5.trans s5) ⟨q6.trans s6,q7.trans s7,q8.1.trans s8.1,uv s8.2 q8.2⟩ (q2.trans s2) (λk=>?_) hl g u
  grind
 ·have⟨s,t⟩:=sN I
  have⟨_,l2'⟩:=j_ (P:=P) s (t.rv hx) he h (λ_=>rfl);have⟨a,n1,q⟩:=l2' 1 (gM _);rw[show[zc].take 1=[zc]from rfl]at q;have hns:a.size=sz:=by have:=q.size;simp_all
  have⟨_,o2⟩:=j_ (P:=P) (x:=.sl (NW id) sz es) s (t.rv hv) rfl h (λ_=>rfl);have⟨r,o1,o3⟩:=o2 es.length (gM _);rw[Dl]at o3;rw[f]at o1;have⟨newCap,rest,c1,c2,c3⟩:=uo (ty:=ty) ha (by grind) h1 l1 o1 n1 z E;have hos:=o3.size;have hwd:w.drew.heap.size=w.heap.size:=rfl;have e1:(w.drew.alloc (.cells (r++a++rest) e)).setCells w.heap.size (0+es.length*sz) l.toList=w.drew.alloc (.cells (r++l++rest) e):=by have:=Et w.drew e l.toList r a rest (by simp_all);simp_all
  refine⟨w.heap.size,0,es.length,newCap,_,⟨_,_,f⟩,c3,c1,⟨_,e,heap_alloc_new _ _, ?_⟩,λi hi=>by have:=(I.lX i _ hi).2.2.1;omega,λk _ g=>heap_alloc _ _ _ g, ?_⟩;·simp_all
  ·rw[e1]
   have:=Gw (aV:=aV) (S':=S') (newCap:=newCap) (rest:=rest) (el:=e) (id:=id) I hs ((o3.Ka).append m) h (by simp_all) (by simp_all) (by simp_all) (.inr ⟨_,d,by simp⟩) g u;simp_all
theorem akm(I:Inv base bA ag S w mu hw ti){s:Q}{es:jV}{zc b:F}{h:qS}{sz:Nat}{A:Array bO}{ty e:bO}(t:Bq P A=J (e,sz))
 {args:qS} {x:Q} {a:Option Addr} {len cap:Nat} {vx:bC} (h0:args[0]? =J (.slice a len cap)) (h1:args[1]? =J vx) (hv:RV w mu hw (h_ S mu) s (.slice a len cap)) (d:∃z,bZ S s=J (z,es)/\(es.length≠0->z=sz)) (n:len=es.length)
 (v:RV w mu hw (h_ S mu) x vx) (u:bZ S x=J (sz,[zc])) (m:ES w mu hw (h_ S mu) sz [b] h) (hno:cap<len+1) (o:es.length+1<=1073741824):
 aoS P base bA ag S w mu hw ti (ag++[J (es.length+1)]) S A ty args sz h (.slice a len cap) (.sl (.fr ag.length) sz (es++[b])):=by
 subst n;have⟨_,_,_,_,_,_,_,_,_,_,_,_,_,_,_,c⟩:=oW t;have⟨l1,_⟩:=j_ (P:=P) I v u c (λ_=>rfl);have hcs:h.size=sz:=by have:=m.size;simp_all
 have⟨j,l⟩:=sN I;have⟨_,q⟩:=j_ (P:=P) j (l.rv v) u c (λ_=>rfl);have⟨f,n1,y⟩:=q 1 (gM _);rw[show[zc].take 1=[zc]from rfl]at y;have hns:f.size=sz:=by have:=y.size;simp_all
 have⟨zz,d,p⟩:=d;have⟨_,o2⟩:=j_ (P:=P) j (l.rv hv) d c p;have⟨g,o1,r⟩:=o2 es.length (gM _);rw[Dl]at r;have⟨newCap,rest,E,c2,T⟩:=uo (ty:=ty) t h0 h1 l1 o1 n1 (by grind) o;have hos:=r.size;have hwd:w.drew.heap.size=w.heap.size:=rfl;have e1:(w.drew.alloc (.cells (g++f++rest) e)).setCells w.heap.size (0+es.length*sz) h.toList=w.drew.alloc (.cells (g++h++rest) e):=by have:=Et w.drew e h.toList g f rest (by simp_all);simp_all
 refine⟨w.heap.size,0,es.length,newCap,_,⟨_,_,rfl⟩,T,E,⟨_,e,heap_alloc_new _ _, ?_⟩,λi hi=>by have:=(I.lX i _ hi).2.2.1;omega,λk _ hk=>heap_alloc _ _ _ hk, ?_⟩;·simp_all
 ·rw[e1]
  have:=Gw (aV:=ag++[J (es.length+1)]) (S':=S) (newCap:=newCap) (rest:=rest) (el:=e) (id:=.fr ag.length) I (zF.refl S) ((r.Ka).append m) c (by simp_all) (by simp_all)
   (by grind [II]) (.inl (by simp[bF])) (λ_ _=>rfl) bW
  simpa[NW]using this
end
end
section
section
variable{P:cy}{base:Nat}{bA:Nat->Prop}{ag aV:bV}{S S':Z}{w w':cw}{mu:oV}{hw:Nat->Nat}{ti:Id->TI}
def Yz(I:Inv base bA ag S w mu hw ti){ts:Array bO}{ty:bO}{args:qS}{s x r:Q}{v vx:bC}{zc c:F}{sz:Nat}{cv:qS}(n:args[0]? =J v)(p:args[1]? =J vx)
 (g:RV w mu hw (h_ S mu) s v) (hf:eU (bF ag S mu) ti s v) (u:RV w mu hw (h_ S mu) x vx) (t:bZ S x=J (sz,[zc])) (d:ES w mu hw (h_ S mu) sz [c] cv)
 (h:qE P ag S ts s (.sl .X sz [c])=J (r,aV,S')):aoS P base bA ag S w mu hw ti aV S' ts ty args sz cv v r:=by
 unfold qE at h;split at h;case h_2=>simp at h
 rename_i e sz0 xz xs m hxs;obtain⟨rfl,rfl⟩:sz=xz/\[c]=xs:=by simpa[bZ]using hxs
 have⟨_,_,_,_,_,_,_,_,_,_,_,_,_,_,_,Qb⟩:=oW m;split at h;·trivial
 split at h;·simp at h
 rename_i y;have y:sz=sz0:=V;subst y;split at h
 ·split at h
  case isFalse=>simp at h
  rename_i a;simp at h;obtain⟨rfl,rfl,rfl⟩:=h;cases g;have:=akm (ty:=ty) (s:=.aw) (es:=[]) I m n p .aw ⟨0,rfl,by simp⟩ rfl u t d V bW;trivial
 ·rename_i rr T es
  split at h;·simp at h
  rename_i q;have A:=LJ λe=>q (.inl e);have a:=Rq λe=>q (.inr e);subst A;split at h
  ·simp at h
   obtain⟨rfl,rfl,rfl⟩:=h;have l:=g;cases g with
   |zB _ _=>exact akm I m n p l ⟨_,rfl,λ_=>rfl⟩ rfl u t d V a
   |sl _ _ _ b o E cap f g0 hr hb hl hs g1 g2=>
    have:=hr rfl;exact akm I m n p l ⟨_,rfl,λ_=>rfl⟩ g0.1 u t d V a
  ·rename_i k
   split at h;case isFalse=>simp at h
   rename_i hk;simp at h;obtain⟨rfl,rfl,rfl⟩:=h;exact atT (id:=.fr k) I (zF.refl S) m n p g hf u t d a hk (λx=>aaP x (gh hk)) (λ_ _=>rfl) bW
  ·rename_i i j
   split at h;case h_2=>simp at h
   rename_i cs bt hS;split at h;case isFalse=>simp at h
   rename_i hj;simp at h;obtain⟨rfl,rfl,rfl⟩:=h;obtain⟨b,hm⟩:∃b,mu i=J b:=by cases g<;>simp_all
   refine atT (id:=.bx i j) I (VH hS) m n p g hf u t d a (by simp[bF,hm,hS,hj]) (λx=>aaQ x hm hS (gh hj)) (λk hk=>?_) (λi' j' e=>by simp_all)
   grind
  grind
 ·rename_i i off E cap T
  split at h;·simp at h
  rename_i q;split at h;case h_2=>simp at h
  rename_i z es Yd;simp at h;obtain⟨rfl,rfl,rfl⟩:=h;have l:=g;cases g with
  |cH _ _ _ _ _ b hb g0=>
   have hlen:E=es.length:=by grind [bZ]
   have hz:z=T:=by grind [bZ]
   have A:=LJ λe=>q (.inl e);simp at q
   grind [akm]
 grind
end
end
structure Fz where
 x:Tmp
 z:Tmp
 y:Tmp
 q:Tmp
 v:Tmp
 f:Tmp
 l:Tmp
 g:Tmp
 jl:Nat
 jz:Nat
 ts:Array bO
 ti:bO
 te:bO
 ta:bO
 tb:bO
 tf:bO
 fi:Nat
def rq(ops:Array Oper)(p:Nat):Array Oper:=ops.extract 0 p
def yb(ops:Array Oper)(i:Nat):Option Op:=(ops[i]?).map (·.op)
def pg(ops:Array Oper)(i:Nat):Option Tmp:=(ops[i]?).bind (·.dst)
def at1:Operand->Option Tmp
 |.tmp t=>J t
 |_=>M
def Rr(ops:Array Oper):Option Fz:=
 let p:=ops.size -5
 match yb ops p,yb ops (p+1),yb ops (p+2),yb ops (p+3),yb ops (p+4)with
 |some (.call ⟨.builtin .append,args,ts⟩),J (.indexAddr ti (.tmp y) (.tmp l)),J (.store te (.tmp q) (.tmp v)),J (.fieldAddr tf (.tmp g) fi),J (.store ta (.tmp f) (.tmp _))=>
  match args.toList.map at1 with
  |[J x,J z]=>
   match(List.range p).find? (λj=>pg ops j==J l),(List.range p).find? (λj=>pg ops j==J z)with
   |some jl,J jz=>match yb ops jz with
    |some (.buildSlice tb 1 _)=>J ⟨x,z,y,q,v,f,l,g,jl,jz,ts,ti,te,ta,tb,tf,fi⟩
    |_=>M
   |_,_=>M
  |_=>M
 |_,_,_,_,_=>M
def aJo(a:Option Op)(b:Op):Prop:=a=J b
structure aeV(P:cy)(ops:Array Oper)(F:Fz):Prop where
 size:5<=ops.size
 back:∀(i:Nat)(o:Oper),ops[i]? =J o->∀e∈o.after,Region.binds .any e=G->e.on<i
 pre:zA (rq ops (ops.size -5))=G
 guard:∀o∈ops.toList,o.guard=M
 o0:yb ops (ops.size -5)=J (.call ⟨.builtin .append,#[.tmp F.x,.tmp F.z],F.ts⟩)/\pg ops (ops.size -5)=J F.y
 o1:yb ops (ops.size -5+1)=J (.indexAddr F.ti (.tmp F.y) (.tmp F.l))/\pg ops (ops.size -5+1)=J F.q
 o2:yb ops (ops.size -5+2)=J (.store F.te (.tmp F.q) (.tmp F.v))/\pg ops (ops.size -5+2)=M
 o3:yb ops (ops.size -5+3)=J (.fieldAddr F.tf (.tmp F.g) F.fi)/\pg ops (ops.size -5+3)=J F.f
 o4:yb ops (ops.size -5+4)=J (.store F.ta (.tmp F.f) (.tmp F.y))/\pg ops (ops.size -5+4)=M
 ol:F.jl<ops.size -5/\pg ops F.jl=J F.l/\∃tl,nd P tl≠M/\yb ops F.jl=J (.call ⟨.builtin .len,#[.tmp F.x],#[tl]⟩)
 ox:∀j,F.jl<=j->j<ops.size -5->pg ops j≠J F.x
 oz:F.jz<ops.size -5/\pg ops F.jz=J F.z/\∃ps,yb ops F.jz=J (.buildSlice F.tb 1 ps)
 dsts:∀j,j<ops.size -5->pg ops j≠J F.y/\pg ops j≠J F.q
 neq:F.y≠F.q/\F.y≠F.x/\F.y≠F.z/\F.y≠F.v/\F.y≠F.l/\F.y≠F.f/\F.y≠F.g/\F.q≠F.x/\F.q≠F.z/\F.q≠F.v/\F.q≠F.l/\F.q≠F.f/\F.q≠F.g/\
  F.l≠F.x/\F.l≠F.z/\F.l≠F.v/\F.l≠F.f/\F.l≠F.g/\F.f≠F.x/\F.f≠F.z/\F.f≠F.v/\F.f≠F.g/\F.z≠F.x/\F.z≠F.v
 b0:∀j,j<ops.size -5->((Region.before ops).getD (ops.size -5) 0).testBit j=G
 b1:((Region.before ops).getD (ops.size -5+1) 0).testBit (ops.size -5)=G
 b2:((Region.before ops).getD (ops.size -5+2) 0).testBit (ops.size -5+1)=G
 b3:((Region.before ops).getD (ops.size -5+3) 0).testBit (ops.size -5)=G
 b4:((Region.before ops).getD (ops.size -5+4) 0).testBit (ops.size -5+3)=G
 elem:nd P F.ti=nd P F.tb/\∃e,nd P F.tb=J e/\jU P e=jU P F.te/\jU P F.ta=J 1
def fzB(P:cy)(ops:Array Oper)(F:Fz):Bool:=
 let p:=ops.size -5
 let b:=Region.before ops
 b_ (5<=ops.size)&&ops.toList.zipIdx.all (λ(o,i)=>o.after.all λe=> !Region.binds .any e||b_ (e.on<i))&&zA (rq ops p)&&ops.toList.all (λo=>o.guard.isNone)&&
 (pg ops p==J F.y)&&(pg ops (p+1)==J F.q)&&(pg ops (p+2)==M)&&(pg ops (p+3)==J F.f)&&(pg ops (p+4)==M)&&
 (match yb ops p with|some (.call ⟨.builtin .append,args,ts⟩)=>(match args.toList with|[.tmp x,.tmp z]=>x==F.x&&z==F.z&&ts==F.ts|_=>O)|_=>O)&&
 (match yb ops (p+1)with|some (.indexAddr t (.tmp y) (.tmp l))=>t==F.ti&&y==F.y&&l==F.l|_=>O)&&
 (match yb ops (p+2)with|some (.store t (.tmp q) (.tmp v))=>t==F.te&&q==F.q&&v==F.v|_=>O)&&
 (match yb ops (p+3)with|some (.fieldAddr t (.tmp g) i)=>t==F.tf&&g==F.g&&i==F.fi|_=>O)&&
 (match yb ops (p+4)with|some (.store t (.tmp f) (.tmp y))=>t==F.ta&&f==F.f&&y==F.y|_=>O)&&
 b_ (F.jl<p)&&(pg ops F.jl==J F.l)&&
 (match yb ops F.jl with|some (.call ⟨.builtin .len,args,ts⟩)=>(match args.toList,ts.toList with|[.tmp x],[tl]=>x==F.x&&(nd P tl).isSome|_,_=>O)|_=>O)&&
 b_ (F.jz<p)&&(pg ops F.jz==J F.z)&&
 (match yb ops F.jz with|some (.buildSlice t 1 _)=>t==F.tb|_=>O)&&
 (List.range p).all (λj=>pg ops j !=J F.y&&pg ops j !=J F.q)&&
 b_ (F.y≠F.q/\F.y≠F.x/\F.y≠F.z/\F.y≠F.v/\F.y≠F.l/\F.y≠F.f/\F.y≠F.g/\F.q≠F.x/\F.q≠F.z/\F.q≠F.v/\F.q≠F.l/\F.q≠F.f/\F.q≠F.g/\
  F.l≠F.x/\F.l≠F.z/\F.l≠F.v/\F.l≠F.f/\F.l≠F.g/\F.f≠F.x/\F.f≠F.z/\F.f≠F.v/\F.f≠F.g/\F.z≠F.x/\F.z≠F.v)&&
 (List.range p).all (λj=>(b.getD p 0).testBit j)&&(List.range p).all (λj=>b_ (j<F.jl)||pg ops j !=J F.x)&&
 (b.getD (p+1) 0).testBit p&&(b.getD (p+2) 0).testBit (p+1)&&(b.getD (p+3) 0).testBit p&&(b.getD (p+4) 0).testBit (p+3)&&
 (nd P F.ti==nd P F.tb)&&(match nd P F.tb with|some e=>jU P e==jU P F.te&&jU P F.ta==J 1|none=>O)
def Ta(P:cy)(ops:Array Oper):Option Fz:=(Rr ops).bind λF=>if fzB P ops F=G then J F else M
def Ev(F:Fz):List Oper:=
 [⟨J F.z,.buildSlice F.tb 1 #[(0,.tmp F.v)],0,"",#[],M⟩,⟨J F.y,.call ⟨.builtin .append,#[.tmp F.x,.tmp F.z],F.ts⟩,0,"",#[],M⟩,⟨J F.f,.fieldAddr F.tf (.tmp F.g) F.fi,0,"",#[],M⟩,⟨M,.store F.ta (.tmp F.f) (.tmp F.y),0,"",#[],M⟩,
   ⟨J F.z,.move (.const (.tuple #[])),0,"",#[],M⟩,⟨J F.q,.move (.const (.tuple #[])),0,"",#[],M⟩]
theorem aeU{P:cy}{ops:Array Oper}{F:Fz}(h:fzB P ops F=G):aeV P ops F:=by
 unfold fzB at h;simp only[mv]at h;obtain⟨⟨⟨⟨⟨⟨⟨⟨⟨⟨⟨⟨⟨⟨⟨⟨⟨⟨⟨⟨⟨⟨⟨⟨⟨⟨⟨⟨⟨g,c⟩,f⟩,b⟩,u⟩,v⟩,w⟩,y⟩,A⟩,o0⟩,o1⟩,o2⟩,o3⟩,o4⟩,jl⟩,E⟩,ol⟩,jz⟩,I⟩,oz⟩,hd⟩,n⟩,r⟩,s⟩,b1⟩,b2⟩,b3⟩,b4⟩,S⟩,q⟩:=h;have k:∀(a:Array Operand)(x z:Tmp),a.toList=[.tmp x,.tmp z]->a= #[.tmp x,.tmp z]:=λa x z h=>by rw[<-YA (xs:=a),h]
 have j:∀(a:Array Operand)(x:Tmp),a.toList=[.tmp x]->a= #[.tmp x]:=λa x h=>by rw[<-YA (xs:=a),h]
 have l:∀(a:Array bO)(x:bO),a.toList=[x]->a= #[x]:=λa x h=>by rw[<-YA (xs:=a),h]
 constructor;case size=>grind
 case back=>
  intro i o p e m T;simp only[zG]at c;have:=c (o,i) (by grind)
  grind [Array.all_eq_true_iff_forall_mem]
 case pre=>exact f
 case guard=>
  intro o p;simp only[zG]at b;simpa using b o p
 case o0=>
  refine⟨?_,by grind⟩;split at o0
  ·rename_i d t m
   split at o0;·grind
   grind
  grind
 case o1=>
  refine⟨?_,by grind⟩;split at o1;all_goals grind
 case o2=>
  refine⟨?_,by grind⟩;split at o2;all_goals grind
 case o3=>
  refine⟨?_,by grind⟩;split at o3;all_goals grind
 case o4=>
  refine⟨?_,by grind⟩;split at o4;all_goals grind
 case ol=>
  refine⟨by grind,by grind, ?_⟩;split at ol
  ·rename_i d t m
   split at ol;·grind
   grind
  grind
 case oz=>
  refine⟨by grind,by grind, ?_⟩;split at oz;·grind
  grind
 case dsts=>
  grind
 case neq=>grind
 case b0=>
  grind
 case ox=>
  grind
 case b1=>exact b1
 case b2=>exact b2
 case b3=>exact b3
 case b4=>exact b4
 case elem=>
  refine⟨by grind, ?_⟩;split at q;·grind
  grind
def VI{P:cy}{ops:Array Oper}{F:Fz}(h:Ta P ops=J F):aeV P ops F:=by unfold Ta at h;cases a:Rr ops<;>grind [aeU]
section
def NZ{ops:Array Oper}{a:Array Bool}(c:∀(i:Nat)(o:Oper),ops[i]? =J o->∀e∈o.after,Region.binds .any e=G->e.on<i)(j:a.size=ops.size)(h:Region.ready .any ops a=[]):
 ∀(n i:Nat),i<n->i<ops.size->a.getD i O=G:=by
 intro n;induction n with
 |zero=>omega
 |succ n k=>
  intro i f b;cases d:a.getD i O with
  |true=>rfl
  |false=>
   exfalso;have g:=IC b;have:i∈Region.ready .any ops a:=by grind [Region.ready]
   simp_all
def N0{ops:Array Oper}{a:Array Bool}(c:a.size=ops.size){i:Nat}(b:i∈Region.ready .any ops a):
 i<ops.size/\a.getD i O=O/\∀o,ops[i]? =J o->∀e∈o.after,Region.binds .any e=G->a.getD e.on O=G:=by
 grind [Region.ready,Array.all_eq_true_iff_forall_mem]
def HU{ops:Array Oper}{a:Array Bool}(f:a.size=ops.size){i:Nat}(d:i<ops.size)(e:a.getD i O=O){b:Nat}(c:a.toList.countP (!·)<=b+1):(a.setIfInBounds i G).toList.countP (!·)<=b:=by simp_all[List.countP_set]
def LK{ops:Array Oper}{a:Array Bool}(e:a.size=ops.size)(c:a.toList.countP (!·)<=0):∀i,i<ops.size->a.getD i O=G:=by intro i d;have b:a.toList.countP (!·)=0:=V;rw[List.countP_eq_zero]at b;have:=b a[i] bW;simp_all
def Eu{ops:Array Oper}{a:Array Bool}(n:a.size=ops.size)(g:Ep ops a){i:Nat}(l:i<ops.size)(m:∀o,ops[i]? =J o->∀e∈o.after,Region.binds .any e=G->a.getD e.on O=G):
 Ep ops (a.setIfInBounds i G):=by
 intro j o k b e h f;rw[Er V]at b⊢;by_cases c:i=e.on;·simp_all
 ·rw[if_neg c]
  by_cases d:i=j;·simp_all
  ·rw[if_neg d]at b
   exact g j o k b e h f
theorem wJ(a:Act)(d:Tmp)(v:bC)(t:Tmp):(a.put (J d) v).tmps.getD t undef=if d=t then(if d<a.tmps.size then v else undef)else a.tmps.getD t undef:=by
 simp only[Act.put,DU,aeO]
 grind
section
variable{P:cy}{ops:Array Oper}{F:Fz}
structure Ph(ops:Array Oper)(F:Fz)(a0:Act)(yv qv fv:bC)(cX:Array Bool)(a:Act):Prop where
 lsz:cX.size=ops.size
 closed:Ep ops cX
 bef:∀j,j<=ops.size -5->cX.getD j O=G
 sz:a.tmps.size=a0.tmps.size
 dfr:a.defers=[]
 ca:∀t,t≠F.y->t≠F.q->t≠F.f->a.tmps.getD t undef=a0.tmps.getD t undef
 sy:a.tmps.getD F.y undef=yv
 sq:cX.getD (ops.size -5+1) O=G->a.tmps.getD F.q undef=qv
 sf:cX.getD (ops.size -5+3) O=G->a.tmps.getD F.f undef=fv
def aoT(d:aeV P ops F){s:Act}{yv y x:bC}{wOf:Bool->Bool->cw}(hq:F.q<s.tmps.size)(hf:F.f<s.tmps.size)
 (r1:∀w,(Instr.indexAt F.ti yv (s.tmps.getD F.l undef)).run P w=.ok y w) (r2:∀c,(Instr.storeAt F.te y (s.tmps.getD F.v undef)).run P (wOf O c)=.ok () (wOf G c))
 (r3:∀w,(Instr.fieldAt F.tf (s.tmps.getD F.g undef) F.fi).run P w=.ok x w) (r4:∀c,(Instr.storeAt F.ta x yv).run P (wOf c O)=.ok () (wOf c G))
 {Q:Exit->Act->cw->Prop} (hQ:∀e a,Ph ops F s yv y x e a->(∀i,i<ops.size->e.getD i O=G)->Q .normal a (wOf G G)):
 ∀(g:Nat)(e:Array Bool)(a:Act),Ph ops F s yv y x e a->e.toList.countP (!·)<=g->
  wpAny P .any ops Q g e a (wOf (e.getD (ops.size -5+2) O) (e.getD (ops.size -5+4) O)):=by
 have h5:=d.size;intro g;induction g with
 |zero=>
  intro e a b hc;have u:=LK b.lsz hc;refine⟨IE b.lsz u, ?_⟩
  grind
 |succ g ih=>
  intro e a b hc;refine⟨λh=>?_,λi hi=>?_⟩
  ·have u:=λi hi=>NZ d.back b.lsz h (i+1) i V hi
   grind
  have⟨m,n,hr⟩:=N0 b.lsz hi;have p:=HU b.lsz m n hc;have q:=Eu b.lsz b.closed m hr;have gs:∀j,(e.setIfInBounds i G).getD j O=if i=j then G else e.getD j O:=λj=>Er (by have:=b.lsz;omega)
  have Ed:ops.size -5<i:=by
   rcases oI (ops.size -5) i with h|h;·exact h
   ·rw[b.bef i h]at n;cases n
  have k:∀j,j<=ops.size -5->(e.setIfInBounds i G).getD j O=G:=λj hj=>by
   rw[gs];split;·rfl
   ·exact b.bef j hj
  obtain⟨o,ho⟩:∃o,ops[i]? =J o:=⟨_,IC m⟩;have hg:o.guard=M:=d.guard o (by grind);have hop:yb ops i=J o.op:=by simp[yb,ho]
  have r:pg ops i=o.dst:=by simp[pg,ho]
  have⟨n1,n2,n3,n4,n5,n6,n7,n8,n9,n10,n11,n12,n13,n14,n15,n16,n17,n18,n19,n20,n21,n22,n23,n24⟩:=d.neq;have ev:∀t,t≠F.y->t≠F.q->t≠F.f->a.eval (.tmp t)=s.tmps.getD t undef:=λt I A E=>b.ca t I A E;have evy:a.eval (.tmp F.y)=yv:=b.sy;unfold wpOp;rw[ho];simp only;rw[if_pos (by simp[Region.wanted,hg])];refine .inl ?_;unfold Oper.wp;have h4:i=ops.size -5+1\/i=ops.size -5+2\/i=ops.size -5+3\/i=ops.size -5+4:=V;rcases h4 with rfl|rfl|rfl|rfl
  ·have z:o.op=.indexAddr F.ti (.tmp F.y) (.tmp F.l):=by have:=d.o1.1;grind
   have v:o.dst=J F.q:=by rw[<-r];exact d.o1.2
   have l:=r1 (wOf (e.getD (ops.size -5+2) O) (e.getD (ops.size -5+4) O));have f:(execOp a.eval o).run P (wOf (e.getD (ops.size -5+2) O) (e.getD (ops.size -5+4) O))=.ok (.value y) (wOf (e.getD (ops.size -5+2) O) (e.getD (ops.size -5+4) O)):=by simp[execOp,z,evy,ev F.l (Ne.symm n5) (Ne.symm n11) n17,l, -Array.getD_eq_getD_getElem?]
   rw[f,Oper.upon_value,v]
   have:=ih (e.setIfInBounds (ops.size -5+1) G) (a.put (J F.q) y) ⟨by simp[b.lsz],q,k,by simp[Act.put,b.sz],b.dfr,λt I A E=>by rw[wJ,if_neg (Ne.symm A)];exact b.ca t I A E,
    by rw[wJ,if_neg (Ne.symm n1)];exact b.sy,λ_=>by rw[wJ,if_pos rfl,if_pos (by rw[b.sz];exact hq)],λh=>by rw[wJ,if_neg n12];exact b.sf (by grind)⟩ p
   grind
  ·have z:o.op=.store F.te (.tmp F.q) (.tmp F.v):=by have:=d.o2.1;grind
   have v:o.dst=M:=by rw[<-r];exact d.o2.2
   have T:=nJ b.closed d.b2 (.inr hr);have evq:a.eval (.tmp F.q)=y:=b.sq T;rw[n];have l:=r2 (e.getD (ops.size -5+4) O);have f:(execOp a.eval o).run P (wOf O (e.getD (ops.size -5+4) O))=.ok .skip (wOf G (e.getD (ops.size -5+4) O)):=by simp[execOp,z,evq,ev F.v (Ne.symm n4) (Ne.symm n10) (Ne.symm n21),l, -Array.getD_eq_getD_getElem?]
   rw[f,Oper.upon_skip,v];have:=ih (e.setIfInBounds (ops.size -5+2) G) (a.put M undef) ⟨by simp[b.lsz],q,k,b.sz,b.dfr,b.ca,b.sy,λh=>b.sq T,λh=>b.sf (by grind)⟩ p
   grind
  ·have z:o.op=.fieldAddr F.tf (.tmp F.g) F.fi:=by have:=d.o3.1;grind
   have v:o.dst=J F.f:=by rw[<-r];exact d.o3.2
   have l:=r3 (wOf (e.getD (ops.size -5+2) O) (e.getD (ops.size -5+4) O));have f:(execOp a.eval o).run P (wOf (e.getD (ops.size -5+2) O) (e.getD (ops.size -5+4) O))=.ok (.value x) (wOf (e.getD (ops.size -5+2) O) (e.getD (ops.size -5+4) O)):=by simp[execOp,z,ev F.g (Ne.symm n7) (Ne.symm n13) (Ne.symm n22),l, -Array.getD_eq_getD_getElem?]
   rw[f,Oper.upon_value,v]
   have:=ih (e.setIfInBounds (ops.size -5+3) G) (a.put (J F.f) x) ⟨by simp[b.lsz],q,k,by simp[Act.put,b.sz],b.dfr,λt I A E=>by rw[wJ,if_neg (Ne.symm E)];exact b.ca t I A E,
    by rw[wJ,if_neg (Ne.symm n6)];exact b.sy,λh=>by rw[wJ,if_neg (Ne.symm n12)];exact b.sq (by grind),λ_=>by rw[wJ,if_pos rfl,if_pos (by rw[b.sz];exact hf)]⟩ p
   grind
  ·have z:o.op=.store F.ta (.tmp F.f) (.tmp F.y):=by have:=d.o4.1;grind
   have v:o.dst=M:=by rw[<-r];exact d.o4.2
   have S:=nJ b.closed d.b4 (.inr hr);have evf:a.eval (.tmp F.f)=x:=b.sf S;rw[n];have l:=r4 (e.getD (ops.size -5+2) O);have f:(execOp a.eval o).run P (wOf (e.getD (ops.size -5+2) O) O)=.ok .skip (wOf (e.getD (ops.size -5+2) O) G):=by simp_all[execOp]
   rw[f,Oper.upon_skip,v];have:=ih (e.setIfInBounds (ops.size -5+4) G) (a.put M undef) ⟨by simp[b.lsz],q,k,b.sz,b.dfr,b.ca,b.sy,λh=>b.sq (by grind),λh=>b.sf S⟩ p
   grind
end
end
section
def Tb(w:cw){b b':Nat}(h:b≠b')(o o':Nat)(v a:bC):(w.setCell ⟨b,o,M⟩ v).setCell ⟨b',o',M⟩ a=(w.setCell ⟨b',o',M⟩ a).setCell ⟨b,o,M⟩ v:=by
 unfold World.setCell;simp only;congr 1
 grind
theorem Kb(b b':Nat)(h:b≠b')(o:Nat)(v:bC):∀(l:List bC)(o':Nat)(w:cw),(w.setCell ⟨b,o,M⟩ v).setCells b' o' l=(w.setCells b' o' l).setCell ⟨b,o,M⟩ v:=by
 intro l;induction l with
 |nil=>intro o' w;rfl
 |cons x l a=>
  intro o' w;show((w.setCell ⟨b,o,M⟩ v).setCell ⟨b',o',M⟩ x).setCells b' (o'+1) l=((w.setCell ⟨b',o',M⟩ x).setCells b' (o'+1) l).setCell ⟨b,o,M⟩ v;rw[Tb _ h,a]
def atX:aty "" =O:=fV
theorem mL(l:F)(d:Tmp)(v:Q)(t:Tmp):(dS l (J d) v).getD t .U=if d=t then(if d<l.length then v else .U)else l.getD t .U:=by grind [dS]
section
variable{P:cy}{call:cP}{F:Fz}
def ac1{c:Array Oper}{a t:Env}{i w:Z}(h:yC P call c (Ev F) a i=J (t,w)):
 ∃f r aV u k d,jX P F.tb 1 [(0,a.ca.getD F.v .U)]=J f/\
  qE P a.ag i F.ts ((dS a.ca (J F.z) f).getD F.x .U) ((dS a.ca (J F.z) f).getD F.z .U)=J (r,aV,u)/\
  oC P F.tf ((dS (dS a.ca (J F.z) f) (J F.y) r).getD F.g .U) F.fi=J k/\
  p_ P ⟨dS (dS (dS a.ca (J F.z) f) (J F.y) r) (J F.f) k,aV,a.nb⟩ u F.ta ((dS (dS (dS a.ca (J F.z) f) (J F.y) r) (J F.f) k).getD F.f .U)
   ((dS (dS (dS a.ca (J F.z) f) (J F.y) r) (J F.f) k).getD F.y .U)=J (d,w)/\
  t=⟨dS (dS (dS (dS (dS a.ca (J F.z) f) (J F.y) r) (J F.f) k) (J F.z) .U) (J F.q) .U,d,a.nb⟩:=by
 have b:∀{o:Oper}{r:List Oper}{E:Env}{S:Z}{s:Env}{j:Z},o.guard=M->yC P call c (o::r) E S=J (s,j)->∃v e i,nR P call E S o=J (v,e,i)/\yC P call c r (E.put o.dst v e) i=J (s,j):=by grind [yC,oD]
 unfold Ev at h;have⟨g,t1,x,e1,h⟩:=b rfl h;have⟨l,T,y,e2,h⟩:=b rfl h;have⟨m,t3,z,e3,h⟩:=b rfl h;have⟨v4,t4,Sd,e4,h⟩:=b rfl h;have⟨v5,t5,Se,A,h⟩:=b rfl h;have⟨v6,t6,Sf,I,h⟩:=b rfl h;simp at h;obtain⟨rfl,rfl⟩:=h;have n:jX P F.tb 1 [(0,a.ca.getD F.v .U)]=J g/\t1=a.ag/\x=i:=by
  simp only[nR,An,qF,dL,rM]at e1
  grind [Env.ev,m0]
 obtain⟨n,rfl,rfl⟩:=n;have q2:qE P a.ag x F.ts ((dS a.ca (J F.z) g).getD F.x .U) ((dS a.ca (J F.z) g).getD F.z .U)=J (l,T,y):=by trivial
 have p:oC P F.tf ((dS (dS a.ca (J F.z) g) (J F.y) l).getD F.g .U) F.fi=J m/\t3=T/\z=y:=by
  simp only[nR,An,qF,dL,rM]at e3
  grind [Env.ev,Env.put,m0]
 obtain⟨p,rfl,rfl⟩:=p;have q:∃j,p_ P ⟨dS (dS (dS a.ca (J F.z) g) (J F.y) l) (J F.f) m,t3,a.nb⟩ z F.ta ((dS (dS (dS a.ca (J F.z) g) (J F.y) l) (J F.f) m).getD F.f .U)
  ((dS (dS (dS a.ca (J F.z) g) (J F.y) l) (J F.f) m).getD F.y .U)=J (t4,j)/\Sd=j:=by
  simp only[nR,An,qF,dL,rM,m0,rH,Dj]at e4
  grind [Env.ev,Env.put]
 obtain⟨_,q,rfl⟩:=q;have hu:abF (.tuple #[])=.U:=by rfl
 simp at A;obtain⟨rfl,rfl,rfl⟩:=A;simp at I;obtain⟨rfl,rfl,rfl⟩:=I;exact⟨_,_,_,_,_,_,n,q2,p,q,rfl⟩
end
end
section
def YB{sz:Nat}:∀(ps:List (Nat × Q))(es a:jV),fg sz es ps=J a->a.length=es.length:=by intro ps;induction ps<;>grind [fg]
def ac2{P:cy}{tb:bO}{ps:List (Nat × Q)}{x:Q}(h:jX P tb 1 ps=J x):∃e sz zc,nd P tb=J e/\jU P e=J sz/\sz≠0/\x=.sl .X sz [zc]:=by
 unfold jX at h;split at h;case h_2=>cases h
 rename_i e d;split at h;case h_2=>cases h
 rename_i sz z f g;split at h;case isFalse=>cases h
 rename_i c;simp at h;obtain⟨a,b,rfl⟩:=h;have:=YB _ _ _ b;match a,this with
 |[zc],_=>simp_all
 |[],h=>simp at h
 |_::_::_,h=>simp at h
def ac3{P:cy}{tb:bO}{v x:Q}(h:jX P tb 1 [(0,v)]=J x):∃e sz,nd P tb=J e/\jU P e=J sz/\sz≠0/\aU v=G/\v.cells.length=sz/\x=.sl .X sz [(aW v).cells]:=by grind [jX,fg]
theorem Tc{P:cy}{ag:bV}{S:Z}{a:Array bO}{s:Q}:qE P ag S a s .U=M:=by unfold qE;simp[bZ]
theorem VJ{P:cy}{E:Env}{S:Z}{t:bO}{p:Q}:p_ P E S t p .U=M:=by
 unfold p_
 grind [aU]
def ac4{P:cy}{E:Env}{S:Z}{t:bO}{p x:Q}{r:bV × Z}(h:p_ P E S t p x=J r):
 ∃i off n cs bt,p=.P i off/\jU P t=J n/\S[i]? =J (.M cs bt O)/\off+n<=cs.length:=by
 unfold p_ at h
 grind
section
variable{P:cy}{base:Nat}{bA:Nat->Prop}{S:Z}{w:cw}{mu:oV}{hw:Nat->Nat}{lk:Nat->Prop}
def aoU{d:bO}{x l:Q}{a:Option Addr}{n c:Nat}(g:nd P d≠M)(h:LC P d x=J l)(f:RV w mu hw lk x (.slice a n c)):l=.I Y n:=by
 have b:∃e,P.underlying d=J (.slice e):=by grind [nd]
 have⟨e,b⟩:=b;unfold LC at h;rw[b]at h;cases f<;>simp_all
theorem ac5{t e:bO}{sz b o n cap:Nat}(d:nd P t=J e)(a:jU P e=J sz)(w:cw):
 (Instr.indexAt t (.slice (J ⟨b,o,M⟩) (n+1) cap) (.int Y n)).run P w=.ok (.pointer (J ⟨b,o+n*sz,M⟩)) w:=by
 have c:P.underlying t=J (.slice e):=by grind [nd]
 unfold Instr.indexAt;simp only[Sem.run_bind,oX,Result.andThen_ok,dM c,Sem.run_pure];rw[if_pos ⟨by omega,by omega⟩];simp[eY a,pH]
end
end
section
section
variable{P:cy}{call:cP}{ops:Array Oper}{F:Fz}{base:Nat}{bA:Nat->Prop}{MZ:Z}{Rh:cw}{Ag:oV}{Bt:Nat->Nat}{Bu:Id->TI}
def aeX(f:aeV P ops F){p E4:Env}{S1 S4:Z}{aoV:Array Oper}(hT:yC P call aoV (Ev F) p S1=J (E4,S4))(hq:F.q<p.ca.length)
 (hz:F.z<p.ca.length->∃ps,jX P F.tb 1 ps=J (p.ca.getD F.z .U)) (hl:∃tl,nd P tl≠M/\LC P tl (p.ca.getD F.x .U)=J (p.ca.getD F.l .U))
 {a:Act} {w:cw} (Rn:Vk base bA MZ Rh Ag Bt Bu p S1 a w) {Q:Exit->Act->cw->Prop} (hQ:∀a' w',Vk base bA MZ Rh Ag Bt Bu E4 S4 a' w'->Q .normal a' w')
 {u:Nat} {l:Array Bool} (hs:l.size=ops.size) (wI:Ep ops l) (akg:∀j,j<ops.size -5->l.getD j O=G) (z:∀j,ops.size -5<=j->l.getD j O=O)
 (hr:∀o,ops[ops.size -5]? =J o->∀e∈o.after,Region.binds .any e=G->l.getD e.on O=G) (hc:l.toList.countP (!·)<=u+1):
 wpOp P ops Q (ops.size -5) (wpAny P .any ops Q u (l.setIfInBounds (ops.size -5) G)) a w:=by
 have h5:=f.size;have⟨n1,n2,n3,n4,n5,n6,n7,n8,n9,n10,n11,n12,n13,n14,n15,n16,n17,n18,n19,n20,n21,n22,n23,n24⟩:=f.neq;obtain⟨x',r,aV,S2,fp,aGK,t1,t2,t3,t4,rfl⟩:=ac1 hT;have⟨mu,hw,ti,I,SL,ext,lv,hd,old⟩:=Rn;have⟨aoW,m⟩:=SL;have hzl:F.z<p.ca.length:=by grind [mL,Tc]
 rw[mL p.ca F.z x' F.z,if_pos rfl,if_pos hzl,mL p.ca F.z x' F.x,if_neg n23]at t2;have hyl:F.y<p.ca.length:=by grind [oE,VJ]
 have⟨i,q,nn,cs,bt,hp,hn1,hS2,hle⟩:=ac4 t4;have hfl:F.f<p.ca.length:=by grind [oE]
 rw[mL _ F.f fp F.f,if_pos rfl,if_pos (by grind)]at hp;subst hp;rw[mL _ F.f _ F.f,if_pos rfl,if_pos (by grind [oE]),mL _ F.f _ F.y,if_neg (Ne.symm n6),mL _ F.y r F.y,if_pos rfl,if_pos (by rw[oE];exact hyl)]at t4;rw[mL _ F.y r F.g,if_neg n7,mL _ F.z x' F.g]at t3;obtain⟨e,A,he,hse,Qb,aoY,hlen,rfl⟩:=ac3 t1;have t3':oC P F.tf (p.ca.getD F.g .U) F.fi=J (.P i q):=by grind [oC]
 have hg:∃o0,p.ca.getD F.g .U=.P i o0:=by grind [oC]
 have⟨o0,hg⟩:=hg;have rg:=(m F.g).1;rw[hg]at rg t3';obtain⟨s,hm,hgv⟩:∃s,mu i=J s/\a.tmps.getD F.g undef=.pointer (J ⟨s,o0,M⟩):=by generalize a.tmps.getD F.g undef=gv at rg;cases rg<;>grind
 have r3:∀w,(Instr.fieldAt F.tf (a.tmps.getD F.g undef) F.fi).run P w=.ok (.pointer (J ⟨s,q,M⟩)) w:=by intro w;have⟨v',h1,h2,_⟩:=Dm (P:=P) (w:=w) (mu:=mu) (hw:=hw) (lk:=λ_=>False) (RV.ptr i o0 s hm) t3';rw[hgv,h1];cases h2<;>grind
 have⟨ps,hzv⟩:=hz hzl;have⟨e1,sz1,zc,he1,S,_,hzv⟩:=ac2 hzv;rw[he]at he1;obtain rfl:=ud he1;rw[hse]at S;obtain rfl:=ud S;have vc:=N1 (m F.v).1 aoY;have aCu:(aW (p.ca.getD F.v .U)).cells.length=A:=by rw[qH];exact hlen
 have hcs:(a.tmps.getD F.v undef).cells.size=A:=by rw[<-vc.1];exact aCu
 have hcv:ES w mu hw (h_ S1 mu) A [(aW (p.ca.getD F.v .U)).cells] (a.tmps.getD F.v undef).cells:=RL.es (by grind) (λk cs hk=>by grind);have aCv:∀y∈(a.tmps.getD F.v undef).cells.toList,y.oneCell'=G:=by
  intro y hy;have⟨j,hj⟩:=IA hy;have Ed:j<(aW (p.ca.getD F.v .U)).cells.length:=by grind
  have⟨a1,y',hy',hr'⟩:=vc.2 j _ (Ek Ed);rw[(by grind:(a.tmps.getD F.v undef).cells[j]? =some y)]at hy';obtain rfl:=ud hy';exact hr'.one a1
 obtain⟨o,ho⟩:∃o,ops[ops.size -5]? =J o:=⟨_,IC V⟩;have hds:o.dst=J F.y:=by have:=f.o0.2;simpa[pg,ho]using this
 obtain⟨b,of,n,cap,w1,⟨xa,xc,hxv⟩,E,aJa,⟨vs1,el1,aCw,atY⟩,hnb,aJb,atZ⟩:=Yz (P:=P) (ty:=o.type) (args:=(#[Operand.tmp F.x,.tmp F.z]).map a.eval) (v:=a.tmps.getD F.x undef) (vx:=a.tmps.getD F.z undef) (zc:=zc) I
  (by rw[Array.getElem?_map];rfl) (by rw[Array.getElem?_map];rfl) (m F.x).1 (m F.x).2 (m F.z).1 (by rw[hzv];rfl) hcv t2
 have hbb:s≠b:=λe=>hnb i (e▸hm);have⟨tl,htl,hlv⟩:=hl;have rx:=(m F.x).1;rw[hxv]at rx;have hlA:=aoU htl hlv rx;have rl:=(m F.l).1;rw[hlA]at rl;have hlV:a.tmps.getD F.l undef=.int Y n:=by generalize a.tmps.getD F.l undef=y at rl;cases rl;rfl
 have⟨heq,e2,he2,hte,hta⟩:=f.elem;rw[he]at he2;obtain rfl:=ud he2;have r1:∀w,(Instr.indexAt F.ti (.slice (J ⟨b,of,M⟩) (n+1) cap) (a.tmps.getD F.l undef)).run P w=.ok (.pointer (J ⟨b,of+n*A,M⟩)) w:=by grind [ac5]
 have⟨mu2,hw2,ti2,I2,e2,l2,rv2,fl2,k2⟩:=atZ;obtain⟨⟨aJe,s1,s2,s3⟩,s4,_⟩:=qT b el1 (0,0) (a.tmps.getD F.v undef).cells.toList (of+n*A) w1 vs1 aCw (by grind);have hm2:=e2.Ya i s hm;have⟨vs2,el2,aCy,aCz⟩:=I2.sL i _ s hS2 hm2;have aGT:w1.heap[s]? =J (.cells vs2 el2 (0,0)):=by rw[<-s4 s hbb];exact aCy
 have hnn:nn=1:=by grind
 have aCA:q+1<=vs2.size:=by have:=aCz.1;omega
 let yv:bC:=.slice (J ⟨b,of,M⟩) (n+1) cap
 let g:Bool->cw:=λc=>if c=G then w1.setCells b (of+n*A) (a.tmps.getD F.v undef).cells.toList else w1
 let wOf:Bool->Bool->cw:=λc2 c4=>if c4=G then(g c2).setCell ⟨s,q,M⟩ yv else g c2
 have r2:∀c,(Instr.storeAt F.te (.pointer (J ⟨b,of+n*A,M⟩)) (a.tmps.getD F.v undef)).run P (wOf O c)=.ok () (wOf G c):=by
  intro c;have Ye:(wOf O c).heap[b]? =J (.cells vs1 el1 (0,0)):=by grind [Below.heap_setCell]
  have:=Ew (P:=P) (t:=F.te) (n:=A) (by grind) hcs aCv Ye atY
  grind [Kb]
 have r4:∀c,(Instr.storeAt F.ta (.pointer (J ⟨s,q,M⟩)) yv).run P (wOf c O)=.ok () (wOf c G):=by
  intro c;have Ye:(wOf c O).heap[s]? =J (.cells vs2 el2 (0,0)):=by cases c<;>assumption
  exact Ew (P:=P) (t:=F.ta) (n:=1) (x:=yv) hta rfl (by simp[yv,Value.cells,Value.oneCell']) Ye aCA
 have gs:∀j,(l.setIfInBounds (ops.size -5) G).getD j O=if ops.size -5=j then G else l.getD j O:=λj=>Er V
 have hg0:=f.guard o (by simpa using Array.mem_of_getElem? ho);unfold wpOp;rw[ho];simp only;rw[if_pos (by simp[Region.wanted,hg0])];refine .inl ?_;unfold Oper.wp;rw[(by simp[execOp,(by have:=f.o0.1;simpa[yb,ho]using this:o.op=.call ⟨.builtin .append,#[.tmp F.x,.tmp F.z],F.ts⟩),resolve,invoke,builtin]at E⊢;rw[E];rfl:(execOp a.eval o).run P w=.ok (.value yv) w1),Oper.upon_value,hds];have hph:Ph ops F a yv (.pointer (J ⟨b,of+n*A,M⟩)) (.pointer (J ⟨s,q,M⟩)) (l.setIfInBounds (ops.size -5) G) (a.put (J F.y) yv):=by
  refine⟨by simp[hs],Eu hs wI V hr,λj hj=>?_,by simp[Act.put],hd,λt h1 h2 h3=>by rw[wJ,if_neg (Ne.symm h1)], ?_,λh=>?_,λh=>?_⟩
  ·rw[gs]
   split;·rfl
   ·exact akg j V
  ·grind [wJ]
  ·rw[gs,tQ,z _ V]at h;cases h
  ·rw[gs,tQ,z _ V]at h;cases h
 have:=aoT f (wOf:=wOf) (by grind) (by grind) r1 r2 r3 r4 (Q:=Q) (λaAR a' d T=>?_) u _ _ hph (HU hs V (z _ (gM _)) hc)
 ·rw[gs,gs,tQ,tQ,z _ V,z _ V]at this
  exact this
 refine hQ a' _ ?_;have⟨w3,aGV,Yc⟩:=LL (P:=P) I2 rfl (RV.ptr i q s hm2) rv2 fl2 t4;have hw3:w3=wOf G G:=by
  have h1:=r4 G
  grind
 subst hw3;have⟨mu3,hw3,ti3,I3,e3,l3,_,_,k3⟩:=Yc undef;refine⟨mu3,hw3,ti3,I3,⟨?_,λt=>?_⟩,(ext.trans e2).trans e3,(lv.trans l2).trans l3,d.dfr,λk hk Ed=>?_⟩;·simp only[oE];rw[aoW,d.sz]
 ·simp only[mL,oE]
  by_cases hqt:F.q=t
  ·rw[if_pos hqt]
   split<;>exact⟨.undef _,trivial⟩
  rw[if_neg hqt];by_cases hzt:F.z=t
  ·rw[if_pos hzt]
   split<;>exact⟨.undef _,trivial⟩
  rw[if_neg hzt];by_cases hft:F.f=t
  ·subst hft
   rw[if_pos rfl,if_pos hfl,d.sf (T _ V)];exact⟨.ptr i q s (e3.Ya _ _ hm2),trivial⟩
  rw[if_neg hft];by_cases hyt:F.y=t
  ·subst hyt
   rw[if_pos rfl,if_pos hyl,d.sy];exact⟨e3.rv rv2,fl2.mono l3⟩
  rw[if_neg hyt,if_neg hzt,d.ca t (Ne.symm hyt) (Ne.symm hqt) (Ne.symm hft)];exact⟨e3.rv (e2.rv (m t).1),((m t).2.mono l2).mono l3⟩
 grind [Nat.lt_of_lt_of_le]
end
end
section
def adh{l:Array Bool}{p k:Nat}(h:p<=l.size)(d:Bool):(l.extract 0 p).getD k d=if k<p then l.getD k d else d:=by
 rw[DU,Array.getElem?_extract]
 grind [Array.getD_eq_getD_getElem?]
def aAS{l:Array Bool}{p i:Nat}(h:p<=l.size)(a:i<p):(l.setIfInBounds i G).extract 0 p=(l.extract 0 p).setIfInBounds i G:=by grind
section
variable{P:cy}{call:cP}{ops:Array Oper}{F:Fz}{base:Nat}{bA:Nat->Prop}{MZ:Z}{Rh:cw}{Ag:oV}{Bt:Nat->Nat}{Bu:Id->TI}
def aaR{p k:Nat}(h:p<=ops.size):(rq ops p)[k]? =if k<p then ops[k]? else M:=by grind [rq]
def aeZ{p:Nat}(h:p<=ops.size):(rq ops p).size=p:=by unfold rq;grind
def aaS{c:Array Oper}{m f:Env}{S0 n:Z}{A:List Z}{ls:List Af}{g:Nat->Env × Z}(b:Em c)(a:Ao P call c 0 m S0 f n A ls g){j:Nat}{o:Oper}{d:Tmp}(i:c[j]? =J o)(q:eh o=O)
 (s:o.guard=M) (r:o.dst=J d) (x:d<f.ca.length):∃ag S',nR P call (g j).1 (g j).2 o=J (f.ca.getD d .U,ag,S'):=by
 have I:=(Rf.1 i).1;have e:=(J9 a c.size (gM _)).1;have w:=(J9 a j V).1;rw[a.last]at e;have e:=e;obtain⟨_,⟨_,v,ag,S',E,p,_⟩|⟨u,_⟩⟩:=a.run j o (w5 _) i q
 ·refine⟨ag,S', ?_⟩
  have h:=Co a (t:=d) (c.size -(j+1)) (j+1) V λk y _ _ z _ l=>by have:=ID b.nodup i z r l;omega
  rw[aaN V,a.last,p]at h;have h:f.ca.getD d .U=(dS (g j).1.ca o.dst v).getD d .U:=h
  grind [mL]
 ·simp[oD,s]at u
def YC(hm:P.follows .mixedOrders=G)(hN:Bs P)(NL:pv P call)(hold:mw call){id:Nat}(H:aeV P ops F){E E1 E4:Env}{S S1 S4:Z}{aoV:Array Oper}
 (hA:Ej P call (rq ops (ops.size -5)) E S=J (E1,S1)) (hT:yC P call aoV (Ev F) E1 S1=J (E4,S4)) (hq:F.q<E.ca.length) (hlq:F.l<E.ca.length)
 {a:Act} {w:cw} (Rn:Vk base bA MZ Rh Ag Bt Bu E S a w) {Q:Exit->Act->cw->Prop} (hQ:∀a' w',Vk base bA MZ Rh Ag Bt Bu E4 S4 a' w'->Q .normal a' w'):
 (Code.region id ops G).wp P Q a w:=by
 have h5:=H.size;have hp:ops.size -5<=ops.size:=V;have Qb:=aeZ hp;have x:∀k,k<ops.size -5->(rq ops (ops.size -5))[k]? =ops[k]? :=λk hk=>by rw[aaR hp,if_pos hk]
 have R:=Hm H.pre;unfold Ej at hA;split at hA;·simp at hA
 rename_i E0 S0 hal;split at hA;·simp at hA
 rename_i r S1' ss ls htr;split at hA;case isFalse=>simp at hA
 rename_i ao1;simp only[Option.some.injEq,Dj]at hA;obtain⟨rfl,rfl⟩:=hA;obtain⟨a1,a2,a3,⟨bs,rfl⟩,a5,a6⟩:=LD _ _ _ _ _ hal R.nodup;obtain⟨⟨t,ht⟩,_,sn,v⟩:=LI (rq ops (ops.size -5)).toList 0 E0 (S++bs) [S++bs] [] _ _ ss ls (λj=>by simp) bW rfl (λo _ ha=>Ap ha) htr;have d:Reg P call (rq ops (ops.size -5)) E E0 S (S++bs) r S1' ss ls sn:={
  R:=R
  H:=v
  h0:=by grind
  aeP:=ao1
  hA:=a6
  hB:=λj o t A u=>a5 j o t (by simp_all) u
  hlen:=a3
  anh:=a1}
 have anc:r.ca.length=E.ca.length:=by have:=(J9 v (rq ops (ops.size -5)).size (gM _)).1;rw[v.last]at this;simp_all
 have hz:F.z<r.ca.length->∃ps,jX P F.tb 1 ps=J (r.ca.getD F.z .U):=by
  intro hzl;have⟨A,hd,ps,g⟩:=H.oz;obtain⟨o,u⟩:∃o,ops[F.jz]? =J o:=⟨_,IC V⟩;have g:o.op=.buildSlice F.tb 1 ps:=by simpa[yb,u]using g
  have hd:o.dst=J F.z:=by simpa[pg,u]using hd
  obtain⟨ag,S',h⟩:=aaS R v (by rw[x _ A];exact u) (by simp[eh,g]) (H.guard o (by grind)) hd hzl
  grind [nR,An,qF,dL,rM,m0]
 have hl:∃tl,nd P tl≠M/\LC P tl (r.ca.getD F.x .U)=J (r.ca.getD F.l .U):=by
  have⟨A,hd,tl,htl,g⟩:=H.ol;obtain⟨o,u⟩:∃o,ops[F.jl]? =J o:=⟨_,IC V⟩;have g:o.op=.call ⟨.builtin .len,#[.tmp F.x],#[tl]⟩:=by simpa[yb,u]using g
  have hd:o.dst=J F.l:=by simpa[pg,u]using hd
  obtain⟨ag,S',h⟩:=aaS R v (by rw[x _ A];exact u) (by simp[eh,g]) (H.guard o (by grind)) hd (by simp_all)
  have hx:=Co v (t:=F.x) ((rq ops (ops.size -5)).size -F.jl) F.jl V λk y h1 h2 hy _ hyd=>by
   rw[aaR hp]at hy;split at hy
   ·rename_i hk
    have:=H.ox k h1 hk;rw[pg,hy]at this;trivial
   omega
  rw[aaN V,v.last]at hx;refine⟨tl,htl, ?_⟩;rw[(hx:r.ca.getD F.x .U=(sn F.jl).1.ca.getD F.x .U)];simp only[nR,An,g,qF,dL]at h
  grind [Env.ev,rM,m0]
 have main:∀(l m:Nat)(T:oV)(hw:Nat->Nat)(ti:Id->TI)(f:Array Bool)(a:Act)(w:cw),f.size=ops.size->Ep ops f->(∀j,ops.size -5<=j->f.getD j O=O)->
  DS P (rq ops (ops.size -5)) E r S sn base bA MZ Rh Ag Bt Bu m T hw ti (f.extract 0 (ops.size -5)) a w->f.toList.countP (!·)<=l->wpAny P .any ops Q l f a w:=by
  intro l;induction l with
  |zero=>
   intro m T hw ti f a w hs _ hno _ hc;have:=LK hs hc (ops.size -5) V;simp_all
  |succ l ih=>
   intro m T hw ti f a w hs wI hno c hc;refine⟨λh=>?_,λi hi=>?_⟩
   ·have:=NZ H.back hs h (ops.size -5+1) (ops.size -5) V V
    grind
   obtain⟨s,hni,hr⟩:=N0 hs hi;have hc':=HU hs s hni hc;have aCF:=Eu hs wI s hr;rcases Rg i (ops.size -5)with Ed|heq|hgt
   ·have hi':i∈Region.ready .any (rq ops (ops.size -5)) (f.extract 0 (ops.size -5)):=by
     unfold Region.ready;rw[S7];refine⟨by grind, ?_⟩;have u:ops[i]? =J ops[i]:=IC s;rw[x i Ed,u,adh V,if_pos Ed];have h1:f.getD i G=O:=by grind
     rw[h1];simp only[SU,S8,Option.getD_some,Rl];rw[aeS];intro e he;cases hb:Region.binds .any e with
     |false=>rfl
     |true=>
      have h3:=H.back i _ u e he hb;simp only[Bool.not_true,Bool.false_or];rw[adh V,ifP]
      grind
    have step:=Ri (Q:=Q) d NL hold hN c hi' (K:=wpAny P .any ops Q l (f.setIfInBounds i G)) λm' mu' hw' ti' a' w' D'=>by
     refine ih m' mu' hw' ti' (f.setIfInBounds i G) a' w' (by simp[hs]) aCF (λj A=>?_) ?_ hc';·grind [Er]
     grind
    have u:ops[i]? =J ops[i]:=IC s;have hg0:ops[i].guard=M:=H.guard _ bW
    grind [Region.wanted,wpOp]
   ·subst heq
    have akg:∀j,j<ops.size -5->f.getD j O=G:=λj A=>nJ wI (H.b0 j A) (.inr hr)
    have fin:=c.fin d λk hk=>by
     rw[Qb]at hk;rw[adh V,if_pos hk]
     grind
    exact aeX H hT (by grind) hz hl fin hQ hs wI akg hno hr hc
   ·exfalso
    have h4:i=ops.size -5+1\/i=ops.size -5+2\/i=ops.size -5+3\/i=ops.size -5+4:=V;have bad:∀j,ops.size -5<=j->((Region.before ops).getD i 0).testBit j=G->False:=λj A hb=>by grind [nJ]
    rcases h4 with rfl|rfl|rfl|rfl;·exact bad _ (gM _) H.b1
    ·exact bad _ V H.b2
    ·exact bad _ (gM _) H.b3
    ·exact bad _ V H.b4
 refine wp_region_any hm ?_;obtain⟨T,hw,ti,I,SL,e,lv,hd,old⟩:=Rn;obtain⟨I1,e1⟩:=sN I;obtain⟨I2,e2⟩:=Rk I1 bs;have aCG:∀i b,T i=J b->i<S.length:=λi b h=>(I.lX i b h).1;have r0:∀n j:Nat,(Array.replicate n O).getD j O=O:=λn j=>by rw[DU,aaO];grind
 have hex:(Array.replicate ops.size O).extract 0 (ops.size -5)=Array.replicate (rq ops (ops.size -5)).size O:=by grind
 refine main ops.size 0 T hw ti _ a _ bW (λi o hi hl=>by grind) (λj _=>r0 _ j) ?_ ?_
 ·rw[hex]
  refine⟨w5 _,λj o A he=>?_, ?_,⟨SL.1,λt i o hi u hl=>?_,λt _=>?_⟩, ?_, ?_,λj o t A g _=>?_,λi hi Ed=>?_,e.Yw,hd,λi o hi hl=>?_,by simp⟩;·grind
  ·rw[v.zero]
   show Inv base bA E0.ag (S++bs) _ T hw ti;rw[a1];exact I2
  ·grind
  ·rw[v.zero]
   show RV _ T hw (h_ (S++bs) T) _ _/\eU (bF E0.ag (S++bs) T) ti _ _;rw[a1,tH aCG];exact⟨e2.rv (e1.rv (SL.2 t).1),(SL.2 t).2⟩
  ·rw[v.zero]
   exact(e.trans e1).trans e2
  ·rw[v.zero]
   grind [tH]
  ·obtain⟨z,b1,b2,_⟩:=d.hB j o t A g
   refine⟨?_,z,b1,by rw[v.zero];exact b2⟩;cases hmu:T (S.length+J1 (rq ops (ops.size -5)).toList j)<;>grind
  ·obtain⟨p,q⟩:=old i hi Ed
   refine⟨?_,q⟩;rw[v.zero]
   grind
  grind
 grind
end
end
inductive KV where
 |t (n:Nat)
 |c (v:Q)
abbrev KE:=List (Nat × Q)
def KE.get:KE->Nat->Q
 |[],_=>.U
 |x::r,t=>if x.1=t then x.2 else KE.get r t
def KE.ev(E:KE):KV->Q
 |.t n=>KE.get E n
 |.c v=>v
structure bQ where
 sl:KE
 ag:bV
 nb:Nat
def bQ.put(K:bQ)(d:X_)(v:Q)(ag:bV):bQ:=
 match d with
 |some d=>⟨(d,v)::K.sl,ag,K.nb⟩
 |none=>⟨K.sl,ag,K.nb⟩
inductive Sh where
 |C
 |A (n:Nat)
def dx:Sh->F->Nat->Option Q
 |.A n,l,off=>if off+n<=l.length then J (.A ((sub l off n).map aW))else M
 |.C,l,off=>l[off]?
def aX(S:Z)(sh:Sh)(p:Q):Option Q:=
 match deref S p with
 |some (cs,off)=>dx sh cs off
 |none=>M
inductive EqK where
 |B|P|kO (ts:List bO)|slc|fn|A (ks:List Kd)|no
def pI:EqK->Q->Q->Option Bool
 |.B,.B a,.B b=>J (a==b)
 |.P,.sC,.sC=>J G
 |.P,.sC,.P _ _=>J O
 |.P,.P _ _,.sC=>J O
 |.P,.sC,.ff _ _ _=>J O
 |.P,.ff _ _ _,.sC=>J O
 |.kO _,.c_,.kO _ _=>J O
 |.kO _,.kO _ _,.c_=>J O
 |.kO ts,.kO s (.I k m),.kO u (.I k' n)=>if s≠u then J O else if ts.contains s=G/\k=k' then J (m==n)else M
 |.slc,.aw,.aw=>J G
 |.slc,.aw,.sl r _ es=>if es.length=0/\(r=.N\/r=.X)then M else J O
 |.slc,.sl r _ es,.aw=>if es.length=0/\(r=.N\/r=.X)then M else J O
 |.slc,.aw,.jW _ _ _ _=>J O
 |.slc,.jW _ _ _ _,.aw=>J O
 |.slc,.aw,.cH _ _ _ _ _=>J O
 |.slc,.cH _ _ _ _ _,.aw=>J O
 |.fn,.qC,.qC=>J G
 |.fn,.qC,.fn _ _ _=>J O
 |.fn,.fn _ _ _,.qC=>J O
 |.A ks,.A a,.A b=>GU ks a b
 |_,_,_=>M
def dK(op:BinOp)(k:IntKind)(a:Int)(k':IntKind)(b:Int):Option Q:=
 match op with
 |.shl=>if b<0 then M else J (.I k (k.wrap (a*2^(min b.toNat k.bits))))
 |.shr=>if b<0 then M else J (.I k (a.fdiv (2^(min b.toNat k.bits))))
 |_=>if k≠k' then M else
  match op with
  |.add=>J (.I k (k.wrap (a+b)))
  |.sub=>J (.I k (k.wrap (a -b)))
  |.mul=>J (.I k (k.wrap (a*b)))
  |.quo=>if b=0 then M else J (.I k (k.wrap (a.tdiv b)))
  |.rem=>if b=0 then M else J (.I k (a.tmod b))
  |.and=>J (.I k (k.wrap (gL k.bits a&&&gL k.bits b).toNat))
  |.or=>J (.I k (k.wrap (gL k.bits a|||gL k.bits b).toNat))
  |.xor=>J (.I k (k.wrap (gL k.bits a^^^gL k.bits b).toNat))
  |.andNot=>J (.I k (k.wrap (gL k.bits a&&& ~~~gL k.bits b).toNat))
  |.eql=>J (.B (a==b))
  |.neq=>J (.B (a !=b))
  |.lss=>J (.B (b_ (a<b)))
  |.leq=>J (.B (b_ (a<=b)))
  |.gtr=>J (.B (b_ (a>b)))
  |.geq=>J (.B (b_ (a≥b)))
  |_=>M
def Te(op:BinOp)(a b:List UInt8):Option Q:=
 match op with
 |.add=>if a.length+b.length<=1073741824 then J (.S (a++b))else M
 |.eql=>J (.B (a==b))
 |.neq=>J (.B (!(a==b)))
 |.lss=>J (.B (Op.bytesLess a b))
 |.leq=>J (.B (Op.bytesLess a b||a==b))
 |.gtr=>J (.B (!(Op.bytesLess a b||a==b)))
 |.geq=>J (.B (!(Op.bytesLess a b)))
 |_=>M
def dX(op:BinOp)(q:EqK)(nc:Bool)(x y:Q):Option Q:=
 match x,y with
 |.c_,.c_=>if nc then
  match q,op with
  |.kO _,.eql=>J (.B G)
  |.kO _,.neq=>J (.B O)
  |_,_=>M
  else M
 |.I _ _,.I _ _=>M
 |.S _,.S _=>M
 |x,y=>match op with
  |.eql=>(pI q x y).map .B
  |.neq=>(pI q x y).map λb=>.B (!b)
  |_=>M
def dj:F->List (Nat × Nat × Q)->Option (F)
 |cs,[]=>J cs
 |cs,(off,n,v)::r=>if aU v/\v.cells.length=n/\off+n<=cs.length then dj (aM cs off ((aW v).cells)) r else M
inductive KP where
 |mov (x:KV)|pick (c a b:KV)|bld (z:F) (ps:List (Nat × Nat × KV))|ao7 (x:KV)
 |Qk (op:BinOp) (x y:KV)|Ql (op:BinOp) (x y:KV)|ao8 (op:BinOp) (q:EqK) (nc:Bool) (x y:KV)
 |un (op:UnOp) (x:KV)|cvI (k:IntKind) (x:KV)|cvS (x:KV)|cvB (x:KV)|cvR (x:KV)
 |mki (t:bO) (x:KV)|mkf (f:eS) (a b:List KV)
 |slS (x:KV) (lo hi:Option KV)|slL (sz:Nat) (x:KV) (lo hi:Option KV)|slA (n sz:Nat) (x:KV) (lo hi:Option KV)
 |fad (off:Nat) (x:KV)|fld (sh:Sh) (off:Nat) (x:KV)
 |Mr (sz:Nat) (x i:KV)|IL (n sz:Nat) (x i:KV)|ixS (x i:KV)|ixG (n sz:Nat) (sh:Sh) (x i:KV)
 |ext (x:KV) (i:Nat)
 |ao9 (x:KV)|ao_ (x:KV)|at2 (n:Nat)|at3 (l:List KV)
def at4(s:Q)(lo hi:Option Q):Option Q:=
 match s with
 |.S s=>match kR hi s.length s.length with
  |some h=>match kR lo 0 h with
   |some l=>J (.S ((s.take h).drop l))
   |none=>M
  |none=>M
 |_=>M
def GW(HK:Nat)(x:Q)(lo hi:Option Q):Option Q:=
 match x with
 |.aw=>match kR hi 0 0,kR lo 0 0 with
  |some _,J _=>J .aw
  |_,_=>M
 |.sl r sz es=>if HK≠sz/\es.length≠0 then M else
  match kR hi es.length es.length with
  |some h=>match kR lo 0 h with
   |some l=>if l=0/\h=es.length then J (.sl r sz es)else J (.sl (uj r) sz ((es.take h).drop l))
   |none=>M
  |none=>M
 |.cH i off len cap sz=>if HK≠sz then M else
  match kR hi len len with
  |some h=>match kR lo 0 h with
   |some l=>J (.cH i (if cap=l then off else off+l*sz) (h -l) (cap -l) sz)
   |none=>M
  |none=>M
 |.jW i off len sz=>if HK≠sz then M else
  match kR hi len len with
  |some h=>match kR lo 0 h with
   |some l=>if l=h then J (.sl .N sz [])else J (.jW i (off+l*sz) (h -l) sz)
   |none=>M
  |none=>M
 |_=>M
def qI(n sz:Nat)(x:Q)(lo hi:Option Q):Option Q:=
 match x with
 |.P i off=>match kR hi n n with
  |some h=>match kR lo 0 h with
   |some l=>if sz=0 then M else J (.cH i (if n=l then off else off+l*sz) (h -l) (n -l) sz)
   |none=>M
  |none=>M
 |_=>M
def akq(off:Nat):Q->Option Q
 |.P i o=>J (.P i (o+off))
 |.ff r cs o=>J (.ff r cs (o+off))
 |_=>M
def ae5(sh:Sh)(off:Nat):Q->Option Q
 |.A cs=>dx sh cs off
 |_=>M
def oc(HK:Nat)(x ix:Q):Option Q:=
 match ix with
 |.I _ i=>if i<0 then M else
  match x with
  |.sl r sz es=>if HK=sz then(es[i.toNat]?).map λcs=>.ff (uj r) cs 0 else M
  |.cH b off len _ sz=>if HK=sz/\i.toNat<len then J (.P b (off+i.toNat*sz))else M
  |.jW b off len sz=>if HK=sz/\i.toNat<len then J (.P b (off+i.toNat*sz))else M
  |_=>M
 |_=>M
def jG(n sz:Nat)(x ix:Q):Option Q:=
 match ix with
 |.I _ i=>if i<0 then M else
  match x with
  |.P b off=>if i.toNat<n then J (.P b (off+i.toNat*sz))else M
  |.ff r cs off=>if i.toNat<n then J (.ff r cs (off+i.toNat*sz))else M
  |_=>M
 |_=>M
def apa(x ix:Q):Option Q:=
 match ix with
 |.I _ i=>if i<0 then M else
  match x with
  |.S s=>(s[i.toNat]?).map λb=>.I L b.toNat
  |_=>M
 |_=>M
def N8(n sz:Nat)(sh:Sh)(x ix:Q):Option Q:=
 match ix with
 |.I _ i=>if i<0 then M else
  match x with
  |.A cs=>if i.toNat<n then dx sh cs (i.toNat*sz)else M
  |_=>M
 |_=>M
def nT(k:IntKind):Q->Option Q
 |.I _ n=>J (.I k (k.wrap n))
 |_=>M
def apb:Q->Option Q
 |.S s=>J (.S s)
 |_=>M
def at5:Q->Option Q
 |.I _ n=>J (.S (Utf8.encode n).data.toList)
 |_=>M
def apc:Q->Option Q
 |.aw=>J (.S [])
 |.sl _ sz es=>if sz=1 then(Ck es).map .S else M
 |_=>M
def ae6:Q->Option Q
 |.S s=>J (.I Y s.length)
 |_=>M
def fW:Q->Option Q
 |.aw=>J (.I Y 0)
 |.sl _ _ es=>J (.I Y es.length)
 |.cH _ _ len _ _=>J (.I Y len)
 |.jW _ _ len _=>J (.I Y len)
 |_=>M
def ae7(c a b:Q):Option Q:=
 match c with
 |.B G=>J a
 |.B O=>J b
 |_=>M
def au(op:BinOp)(x y:Q):Option Q:=
 match x,y with
 |.I k a,.I k' b=>dK op k a k' b
 |_,_=>M
def ae8(op:BinOp)(x y:Q):Option Q:=
 match x,y with
 |.S a,.S b=>Te op a b
 |_,_=>M
def ae9(less:Int->Int->Bool)(l:F):Option Q:=
 match l with
 |.I k n::r=>Cl less k n r
 |_=>M
def YH(t:bO)(x:Q):Option Q:=if aU x then J (.kO t (aW x))else M
def rQ(ρ:KV->Q):KP->Option Q
 |.mov x=>J (ρ x)
 |.pick c a b=>ae7 (ρ c) (ρ a) (ρ b)
 |.bld z ps=>(dj z (ps.map λx=>(x.1,x.2.1,ρ x.2.2))).map .A
 |.ao7 x=>g9 (ρ x)
 |.Qk op x y=>au op (ρ x) (ρ y)
 |.Ql op x y=>ae8 op (ρ x) (ρ y)
 |.ao8 op q nc x y=>dX op q nc (ρ x) (ρ y)
 |.un op x=>bU op (ρ x)
 |.cvI k x=>nT k (ρ x)
 |.cvS x=>apb (ρ x)
 |.cvB x=>apc (ρ x)
 |.cvR x=>at5 (ρ x)
 |.mki t x=>YH t (ρ x)
 |.mkf f a b=>J (.fn f (a.map λx=>aW (ρ x)) (b.map λx=>aW (ρ x)))
 |.slS x lo hi=>at4 (ρ x) (lo.map ρ) (hi.map ρ)
 |.slL sz x lo hi=>GW sz (ρ x) (lo.map ρ) (hi.map ρ)
 |.slA n sz x lo hi=>qI n sz (ρ x) (lo.map ρ) (hi.map ρ)
 |.fad off x=>akq off (ρ x)
 |.fld sh off x=>ae5 sh off (ρ x)
 |.Mr sz x i=>oc sz (ρ x) (ρ i)
 |.IL n sz x i=>jG n sz (ρ x) (ρ i)
 |.ixS x i=>apa (ρ x) (ρ i)
 |.ixG n sz sh x i=>N8 n sz sh (ρ x) (ρ i)
 |.ext x i=>bB (ρ x) i
 |.ao9 x=>ae6 (ρ x)
 |.ao_ x=>fW (ρ x)
 |.at2 n=>J (.I Y n)
 |.at3 l=>ae9 (λa b=>b_ (b>a)) (l.map ρ)
inductive GX where
 |p (k:KP)
 |alloc (z:F)|box (n:Nat) (x:KV)|load (sh:Sh) (p:KV)|store (n:Nat) (p x:KV)
 |app (sz:Nat) (s x:KV)|cpy (sz:Nat) (d x:KV)
 |bsl (sz:Nat) (z:F) (len:Nat) (ps:List (Nat × KV))|byt (x:KV)
 |call (f:KV) (args:List KV)
 |akr (sz:Nat) (s x:KV)|mk (sz:Nat) (z:F) (l c:KV)|rng (x:KV)|nxt (p:KV)|bad
 |xt (e:Nat) (args:List KV)
def bd(ag:bV)(nb:Nat)(S:Z)(n:Nat)(p v:Q):Option (bV × Z):=
 match p with
 |.P i off=>match S[i]? with
  |some (.M cs bt O)=>
   if aU v/\v.cells.length=n/\off+n<=cs.length/\(nb<=i\/br (aW v)=G)then
    match lQ ag i bt v with
    |(v',aV,bt')=>J (aV,S.set i (.M (aM cs off v'.cells) bt' O))
   else M
  |_=>M
 |_=>M
def eD(sz:Nat)(ag:bV)(S:Z)(s x:Q):Option (Q × bV × Z):=
 match bZ S x with
 |some (xz,xs)=>
  if xs.length=0 then(match s with|.aw=>J (.aw,ag,S)|.sl r HK es=>J (.sl r HK es,ag,S)|_=>M)else
  if xz≠sz then M else
   match s with
   |.aw=>if xs.length<=1073741824 then J (.sl (.fr ag.length) sz xs,ag++[J xs.length],S)else M
   |.sl r HK es=>if HK≠sz\/es.length+xs.length>1073741824 then M else
    match r with
    |.X=>J (.sl (.fr ag.length) sz (es++xs),ag++[J (es.length+xs.length)],S)
    |.fr k=>if ag[k]? =J (J es.length)then J (.sl (.fr k) sz (es++xs),ag.set k (J (es.length+xs.length)),S)else M
    |.bx i j=>match S[i]? with
     |some (.M cs bt O)=>if bt[j]? =J (J es.length)then J (.sl (.bx i j) sz (es++xs),ag,S.set i (.M cs (bt.set j (J (es.length+xs.length))) O))else M
     |_=>M
    |_=>M
   |.cH i off len cap HK=>if HK≠sz\/len+xs.length<=cap\/len+xs.length>1073741824 then M else
    match bZ S (.cH i off len cap HK)with
    |some (_,es)=>J (.sl (.fr ag.length) sz (es++xs),ag++[J (es.length+xs.length)],S)
    |none=>M
   |_=>M
 |none=>M
def uw(nb:Nat)(S:Z)(sz:Nat)(d x:Q):Option (Q × Z):=
 match bZ S x,AW d with
 |some (xz,xs),J (i,off,len,dz)=>
  if sz=0\/dz≠sz\/(xs.length≠0/\xz≠sz)then M else
  match S[i]? with
  |some (.M cs bt O)=>if off+len*sz<=cs.length/\(nb<=i\/eT xs=G)then
   J (.I Y (min xs.length len),S.set i (.M (aM cs off ((xs.take len).flatten)) bt O))else M
  |_=>M
 |_,_=>M
def Bx(sz:Nat)(S:Z)(s x:Q):Option (Q × Z):=
 match bZ S x,SR s with
 |some (xz,xs),J e=>
  if xs.length=0 then J (e,S)else
  if xz≠sz\/xs.length>1073741824 then M else J (.jW S.length 0 xs.length sz,S++[.M xs.flatten [] O])
 |_,_=>M
def Rt(sz:Nat)(z:F)(S:Z)(l c:Q):Option (Q × Z):=
 match l,c with
 |.I _ l,.I _ c=>if 0<=l/\l<=c/\c<=1073741824 then
  J (.cH S.length 0 l.toNat c.toNat sz,S++[.M (fL c.toNat z).flatten [] O])else M
 |_,_=>M
def Kc(S:Z)(x:Q):Option (Q × Z):=
 match x with
 |.S s=>J (.P S.length 0,S++[.iter s 0])
 |_=>M
def VL:Q->Option Q
 |.S s=>if s.length<=1073741824 then J (.sl .N 1 (s.map λb=>[.I L b.toNat]))else M
 |_=>M
def M4(f:Q)(args:F):Option (eS × F):=
 match f with
 |.fn g first caps=>J (g,first++args++caps)
 |_=>M
def Dq(call:cP)(ag:bV)(S:Z)(f:Q)(args:F):Option (Q × bV × Z):=
 match M4 f args with
 |none=>M
 |some (f,args)=>if uk f=G then
  match args.mapM AX with
  |none=>M
  |some Eh=>match call f Eh S with
   |none=>M
   |some (r,S')=>match aY ag r with
    |(r',aV)=>J (r',aV,S')
  else match args.mapM (bH S)with
  |none=>M
  |some Eh=>match call f Eh (de S args)with
   |none=>M
   |some (r,S')=>match aY ag r with
    |(r',aV)=>J (r',aV,ct S S' args)
def mZ(call:cP)(K:bQ)(S:Z):GX->Option (Q × bV × Z)
 |.p k=>(rQ (KE.ev K.sl) k).map λv=>(v,K.ag,S)
 |.alloc z=>J (.P S.length 0,K.ag,S++[.M z [] O])
 |.box n x=>Cm n K.ag S (KE.ev K.sl x)
 |.load sh p=>(aX S sh (KE.ev K.sl p)).map λv=>(v,K.ag,S)
 |.store n p x=>(bd K.ag K.nb S n (KE.ev K.sl p) (KE.ev K.sl x)).map λr=>(.U,r.1,r.2)
 |.app sz s x=>eD sz K.ag S (KE.ev K.sl s) (KE.ev K.sl x)
 |.cpy sz d x=>(uw K.nb S sz (KE.ev K.sl d) (KE.ev K.sl x)).map λr=>(r.1,K.ag,r.2)
 |.bsl sz z len ps=>(fg sz (fL len z) (ps.map λx=>(x.1,KE.ev K.sl x.2))).map λes=>(.sl .X sz es,K.ag,S)
 |.byt x=>(VL (KE.ev K.sl x)).map λv=>(v,K.ag,S)
 |.call f args=>Dq call K.ag S (KE.ev K.sl f) (args.map (KE.ev K.sl))
 |.akr sz s x=>(Bx sz S (KE.ev K.sl s) (KE.ev K.sl x)).map λr=>(r.1,K.ag,r.2)
 |.mk sz z l c=>(Rt sz z S (KE.ev K.sl l) (KE.ev K.sl c)).map λr=>(r.1,K.ag,r.2)
 |.rng x=>(Kc S (KE.ev K.sl x)).map λr=>(r.1,K.ag,r.2)
 |.nxt p=>(zx S (KE.ev K.sl p)).map λr=>(r.1,K.ag,r.2)
 |.bad=>M
 |.xt e args=>(DT e (args.map (KE.ev K.sl))).map λv=>(v,K.ag,S)
structure KO where
 dst:X_
 gd:Option (Nat × Bool)
 op:GX
def gdK(K:bQ)(g:Option (Nat × Bool)):Option Bool:=
 match g with
 |none=>J G
 |some (t,want)=>match KE.get K.sl t with
  |.B b=>J (b==want)
  |.cQ []=>J O
  |_=>M
def Ke(call:cP)(K:bQ)(S:Z)(o:KO):Option (Q × bQ × Z):=
 match gdK K o.gd with
 |some G=>match mZ call K S o.op with
  |some (v,ag,S')=>J (v,K.put o.dst v ag,S')
  |none=>M
 |some O=>J (.U,K.put o.dst (.cQ []) K.ag,S)
 |none=>M
def ue(call:cP):List KO->bQ->Z->Option (bQ × Z)
 |[],K,S=>J (K,S)
 |o::r,K,S=>match Ke call K S o with
  |some (_,K',S')=>ue call r K' S'
  |none=>M
structure KD where
 o:KO
 eff:Bool
 lo:Nat
 hi:Nat
structure Ee where
 lo:Nat
 hi:Nat
 sh:Sh
 at_:Q
 val:Q
def zJ:List (Nat × F)->bQ->Z->bQ × Z
 |[],K,S=>(K,S)
 |(d,z)::r,K,S=>zJ r (K.put (J d) (.P S.length 0) K.ag) (S++[.M z [] O])
def ldK(K:bQ)(d:KD)(v:Q)(ls:List Ee):List Ee:=
 match gdK K d.o.gd,d.o.op with
 |some G,.load sh p=>⟨d.lo,d.hi,sh,KE.ev K.sl p,v⟩::ls
 |_,_=>ls
def Aq(call:cP):List KD->bQ->Z->List Z->List Ee->Option (bQ × Z × List Z × List Ee)
 |[],K,S,ss,ls=>J (K,S,ss,ls)
 |d::r,K,S,ss,ls=>match Ke call K S d.o with
  |some (v,K',S')=>Aq call r K' S' (if d.eff then ss++[S']else ss) (ldK K d v ls)
  |none=>M
def N9(ss:List Z)(ls:List Ee):Bool:=
 ls.all λl=>((ss.take (l.hi+1)).drop l.lo).all λS=>
  match aX S l.sh l.at_ with
  |some v=>pG v l.val
  |none=>O
def Ms(call:cP)(al:List (Nat × F))(l:List KD)(K:bQ)(S:Z):Option (bQ × Z):=
 match Aq call l (zJ al K S).1 (zJ al K S).2 [(zJ al K S).2] []with
 |none=>M
 |some (K',S',ss,ls)=>if N9 ss ls then J (K',S')else M
def dF:Q->Q
 |.aw=>.sl .N 1 []
 |.sl (.jf i) sz es=>.sl (.jf i) sz es
 |.sl _ _ []=>.sl .N 1 []
 |.sl _ sz es=>.sl .N sz es
 |v=>v
def ej:Q->Q
 |.A cs=>.A (cs.map dF)
 |v=>dF v
def yE:Q->Q
 |.aw=>.aw
 |v=>ej v
def cd:Q->Q
 |.A cs=>.A (cs.map dF)
 |v=>v
inductive KC where
 |skip|ret|exit (id:Nat)
 |ops (l:List KO)
 |draw (al:List (Nat × F)) (l:List KD)
 |Q (a b:KC)|cond (x:KV) (a b:KC)|block (id:Nat) (b:KC)|L (b:KC)
 |dO (l:List Nat) (k:KC)
 |ej (l:List Nat) (k:KC)
 |scope (b:KC)
 |lab
 |bad
 |VM (al:List (Nat × F)) (l:List KD) (k:List KO)
def bQ.dO(l:List Nat)(K:bQ):bQ:=⟨l.map λt=>(t,KE.get K.sl t),K.ag,K.nb⟩
def bQ.ej(l:List Nat)(K:bQ):bQ:=⟨l.foldl (λs t=>(t,am.ej (KE.get s t))::s) K.sl,K.ag,K.nb⟩
def eZ(call:cP):Nat->KC->bQ->Z->Option (Out × bQ × Z)
 |0,_,_,_=>M
 |n+1,c,K,S=>match c with
  |.skip=>J (.normal,K,S)
  |.ret=>J (.R,K,S)
  |.exit id=>J (.E id,K,S)
  |.draw al l=>match Ms call al l K S with
   |some (K',S')=>J (.normal,K',S')
   |none=>M
  |.ops l=>match ue call l K S with
   |some (K',S')=>J (.normal,K',S')
   |none=>M
  |.Q a b=>match eZ call n a K S with
   |some (.normal,K',S')=>eZ call n b K' S'
   |r=>r
  |.cond x a b=>match KE.ev K.sl x with
   |.B G=>eZ call n a K S
   |.B O=>eZ call n b K S
   |_=>M
  |.block id b=>match eZ call n b K S with
   |some (.E Il,K',S')=>if Il=id then J (.normal,K',S')else J (.E Il,K',S')
   |r=>r
  |.L b=>match eZ call n b K S with
   |some (.normal,K',S')=>eZ call n (.L b) K' S'
   |r=>r
  |.dO l k=>eZ call n k (K.dO l) S
  |.ej l k=>eZ call n k (K.ej l) S
  |.scope b=>eZ call n b K S
  |.lab=>J (.normal,K,S)
  |.bad=>M
  |.VM al l k=>eZ call n (.Q (.draw al l) (.ops k)) K S
inductive KR where
 |tmp (t:Nat)
 |C (a:Nat) (sh:Sh)
def IN(K:bQ)(S:Z):List KR->Option (F)
 |[]=>J []
 |.tmp t::r=>(IN K S r).map λl=>KE.get K.sl t::l
 |.C a sh::r=>match aX S sh (KE.get K.sl a),IN K S r with
  |some v,J l=>J (v::l)
  |_,_=>M
structure KF where
 nt:Nat
 body:KC
 res:List KR
def Ar:Nat->F->KE
 |_,[]=>[]
 |n,v::r=>(n,v)::Ar (n+1) r
def By(n:Nat)(S':Z):Bool:=
 (S'.drop n).all λb=>match b with
  |.M cs _ _=>It S'.length (λk=>b_ (n<=k)) cs
  |_=>G
def Tf(f:eS)(r:Q)(S S':Z):Option (Q × Z):=
 if ae_ f=G then(if kK S'.length (λk=>b_ (S.length<=k)) r=G/\By S.length S'=G then J (r,S')else M)
 else if kK S.length (λ_=>O) r=G then J (r,S'.take S.length)
 else match Qf S' S.length r with
  |some r'=>if aF r'=G then J (r',S'.take S.length)else M
  |none=>M
def ds(f:eS)(ag:bV)(vs:F)(S S':Z):Option (Q × Z):=
 if vs.all cI=G then
  (if aF (ck (aO ag (vs.map cd)))=G then J (ck (aO ag (vs.map cd)),S'.take S.length)else Tf f (ck (aO ag (vs.map cd))) S S')
 else M
structure NK where
 dO:eS->Bool
 sO:eS->Option (F->Z->Option (Q × Z))
def rG(nk:NK)(F:cP):cP:=λf args S=>match nk.sO f with
 |some p=>p args S
 |none=>F f (args.map (if nk.dO f=G then yE else ej)) S
def Ex(ay:eS->Option KF)(nk:NK):Nat->eS->F->Z->Option (Q × Z)
 |0,_,_,_=>M
 |n+1,f,args,S=>match ay f with
  |none=>M
  |some k=>if k.nt<args.length then M else match eZ (rG nk (Ex ay nk n)) n k.body ⟨Ar 0 args,[],S.length⟩ S with
   |some (.E _,_,_)=>M
   |some (_,K,S')=>match IN K S' k.res with
    |none=>M
    |some vs=>ds f K.ag vs S S'
   |none=>M
def iO:Operand->KV
 |.tmp t=>.t t
 |.const v=>.c (abF v)
 |.global g=>.c (Ny g)
 |.func f=>.c (.fn f [] [])
def Tg(P:cy)(t:bO):Option Sh:=
 match jU P t with
 |none=>M
 |some n=>if Ci P t then J (.A n)else if n=1 then J .C else M
def afa(P:cy):List bO:=
 (List.range P.types.size).filter λs=>match P.info? s,P.underlying s with
  |some i,J (.int _)=>i.comparable
  |_,_=>O
def afb(P:cy)(t:bO):EqK:=
 match P.underlying t with
 |some .bool=>.B
 |some (.pointer _)=>.P
 |some (.interface _)=>.kO (afa P)
 |some (.slice _)=>.slc
 |some (.func _ _ _)=>.fn
 |some (.array _ _)|some (.struct _)=>if P.eqGuardType P.depth t then .no else match yQ P 9 t with
  |some ks=>.A ks
  |none=>.no
 |_=>.no
def Ey(place:Nat->Option (Nat × Nat)):List (Nat × Operand)->Option (List (Nat × Nat × KV))
 |[]=>J []
 |(i,x)::r=>match place i,Ey place r with
  |some (off,n),J l=>J ((off,n,iO x)::l)
  |_,_=>M
def Th(P:cy)(t:bO)(ar:List (Nat × Operand)):Option GX:=
 match pF P t,P.underlying t with
 |some z,J (.struct fs)=>match fs.toList.mapM λf=>(jU P f.type).map λn=>(f.offset,n)with
  |some Yj=>(Ey (Yj[·]?) ar).map λps=>.p (.bld z ps)
  |none=>M
 |some z,J (.array _ e)=>match jU P e with
  |some sz=>(Ey (λi=>J (i*sz,sz)) ar).map λps=>.p (.bld z ps)
  |none=>M
 |_,_=>M
def Ti(P:cy)(t:bO)(x:Operand)(lo hi:Option Operand):Option GX:=
 match P.underlying t with
 |some .string=>J (.p (.slS (iO x) (lo.map iO) (hi.map iO)))
 |some (.slice e)=>(jU P e).map λsz=>.p (.slL sz (iO x) (lo.map iO) (hi.map iO))
 |some (.array n e)=>(jU P e).map λsz=>.p (.slA n sz (iO x) (lo.map iO) (hi.map iO))
 |_=>M
def afc(P:cy)(op:BinOp)(t:bO)(x y:Operand):Option GX:=
 match P.underlying t with
 |some (.int _)=>J (.p (.Qk op (iO x) (iO y)))
 |some .string=>J (.p (.Ql op (iO x) (iO y)))
 |some _=>J (.p (.ao8 op (afb P t) (tF x||tF y) (iO x) (iO y)))
 |none=>M
def YI(P:cy)(s d:bO)(x:Operand):Option GX:=
 match P.underlying d with
 |some (.int k)=>(P.underlying s).map λ_=>.p (.cvI k (iO x))
 |some .string=>match P.underlying s with
  |some .string=>J (.p (.cvS (iO x)))
  |some (.int _)=>J (.p (.cvR (iO x)))
  |_=>match(nd P s).bind P.underlying with
   |some (.int L)=>J (.p (.cvB (iO x)))
   |_=>M
 |some (.slice e)=>match P.underlying s,P.underlying e with
  |some .string,J (.int L)=>J (.byt (iO x))
  |_,_=>M
 |_=>M
def lenOf(P:cy)(args:Array Operand)(ts:Array bO):Option GX:=
 match ts[0]?,args[0]? with
 |some t,J x=>match P.underlying t with
  |some .string=>J (.p (.ao9 (iO x)))
  |some (.slice _)=>J (.p (.ao_ (iO x)))
  |some (.array n _)=>J (.p (.at2 n))
  |_=>M
 |_,_=>M
def aaW(P:cy)(t:bO)(len:Nat)(ar:List (Nat × Operand)):Option GX:=
 match nd P t with
 |some e=>match jU P e,pF P e with
  |some sz,J z=>if sz≠0/\z.length=sz/\len*sz<=16777216 then J (.bsl sz z len (ar.map λx=>(x.1,iO x.2)))else M
  |_,_=>M
 |none=>M
def Qm(P:cy):Op->Option GX
 |.move x|.assign x=>J (.p (.mov (iO x)))
 |.pick c a b=>J (.p (.pick (iO c) (iO a) (iO b)))
 |.build t ar=>Th P t ar.toList
 |.nilCheck x=>J (.p (.ao7 (iO x)))
 |.binOp op t x y _=>afc P op t x y
 |.unOp op _ x=>J (.p (.un op (iO x)))
 |.convert s d x=>YI P s d x
 |.makeInterface t x=>match P.underlying t with
  |some (.interface _)=>M
  |some _=>J (.p (.mki t (iO x)))
  |none=>M
 |.makeFunc (.func f) first caps=>J (.p (.mkf f (first.toList.map iO) (caps.toList.map iO)))
 |.slice t x lo hi M=>Ti P t x lo hi
 |.fieldAddr t x f=>match J5 P t f with
  |some (off,u)=>match jU P u with
   |some (_+1)=>J (.p (.fad off (iO x)))
   |_=>M
  |none=>M
 |.field t x f=>match J5 P t f with
  |some (off,u)=>(Tg P u).map λsh=>.p (.fld sh off (iO x))
  |none=>M
 |.indexAddr t x i=>match P.underlying t with
  |some (.slice e)=>(jU P e).map λsz=>.p (.Mr sz (iO x) (iO i))
  |some (.array n e)=>(jU P e).map λsz=>.p (.IL n sz (iO x) (iO i))
  |_=>M
 |.index t x i=>match P.underlying t with
  |some .string=>J (.p (.ixS (iO x) (iO i)))
  |some (.array n e)=>match jU P e,Tg P e with
   |some sz,J sh=>J (.p (.ixG n sz sh (iO x) (iO i)))
   |_,_=>M
  |_=>M
 |.extract x i=>J (.p (.ext (iO x) i))
 |.call ⟨.builtin .len,args,ts⟩=>lenOf P args ts
 |.call ⟨.builtin .max,args,_⟩=>J (.p (.at3 (args.toList.map iO)))
 |.buildSlice t len ar=>aaW P t len ar.toList
 |.alloc t=>(pF P t).map .alloc
 |.box t x=>(jU P t).map λn=>.box n (iO x)
 |.load t p=>(Tg P t).map λsh=>.load sh (iO p)
 |.store t p x=>(jU P t).map λn=>.store n (iO p) (iO x)
 |.call ⟨.builtin .append,args,ts⟩=>match Bq P ts,args[0]?,args[1]? with
  |some (_,sz),J s,J x=>J (.app sz (iO s) (iO x))
  |_,_,_=>M
 |.call ⟨.builtin .copy,args,ts⟩=>match((ts[0]?).bind (nd P)).bind (jU P),args[0]?,args[1]? with
  |some sz,J d,J x=>J (.cpy sz (iO d) (iO x))
  |_,_,_=>M
 |.call ⟨.value f,args,_⟩=>match Q7 f with
  |some e=>J (.xt e (args.toList.map iO))
  |none=>J (.call (iO f) (args.toList.map iO))
 |.makeSlice t l c=>match nd P t with
  |some e=>match jU P e,bytesOf P e,pF P e with
   |some sz,J bs,J z=>if bs<=65536/\sz≠0/\z.length=sz then J (.mk sz z (iO l) (iO c))else M
   |_,_,_=>M
  |none=>M
 |.range t x=>match P.underlying t with
  |some .string=>J (.rng (iO x))
  |_=>M
 |.next p G=>J (.nxt (iO p))
 |_=>M
def N_(P:cy)(o:Oper):GX:=
 match An o with
 |some (s,x,ts)=>if ts.size=3 then .bad else match Bq P ts with
  |some (_,sz)=>.akr sz (iO s) (iO x)
  |none=>.bad
 |none=>(Qm P o.op).getD .bad
def Oa(nt:Nat):Option Tmp->Bool
 |some d=>b_ (d<nt)
 |none=>G
def ape(ops:Array Oper)(g:Option (Nat × Bool)):Option (Option (Nat × Bool)):=
 match g with
 |none=>J M
 |some (j,want)=>((ops[j]?).bind (·.dst)).map λd=>J (d,want)
def Tj(P:cy)(nt:Nat)(ops:Array Oper)(o:Oper):Option KO:=
 if Oa nt o.dst=G then
  match ape ops o.guard with
  |some g=>J ⟨o.dst,g,N_ P o⟩
  |none=>M
 else M
def Ho(P:cy)(nt:Nat):List Oper->Option (List (Nat × F))
 |[]=>J []
 |o::r=>match o.op with
  |.alloc t=>match o.dst,pF P t,Ho P nt r with
   |some d,J z,J l=>if d<nt then J ((d,z)::l)else M
   |_,_,_=>M
  |_=>Ho P nt r
def Qn(P:cy)(nt:Nat)(ops:Array Oper)(b:Array Nat):List (Oper × Nat)->Option (List KD)
 |[]=>J []
 |(o,i)::r=>if eh o then Qn P nt ops b r else
  match Tj P nt ops o,Qn P nt ops b r with
  |some k,J l=>J (⟨k,e_ o,lowest ops b i,Gt ops b i⟩::l)
  |_,_=>M
def kP(P:cy)(nt:Nat):Code->Option KC
 |.skip=>J .skip
 |.ret=>J .ret
 |.exit id=>J (.exit id)
 |.region _ ops O=>(ops.toList.mapM (Tj P nt ops)).map .ops
 |.region _ ops G=>if zA ops=G then
  match Ho P nt ops.toList,Qn P nt ops (Region.before ops) ops.toList.zipIdx with
  |some al,J l=>J (.draw al l)
  |_,_=>J .bad
  else match Ta P ops with
   |some F=>if F.q<nt/\F.l<nt then
    match Ho P nt (rq ops (ops.size -5)).toList,Qn P nt (rq ops (ops.size -5)) (Region.before (rq ops (ops.size -5))) (rq ops (ops.size -5)).toList.zipIdx,(Ev F).mapM (Tj P nt (Ev F).toArray)with
    |some al,J l,J k=>J (.VM al l k)
    |_,_,_=>J .bad
    else J .bad
   |none=>J .bad
 |.seq a b=>match kP P nt a,kP P nt b with
  |some a,J b=>J (.Q a b)
  |_,_=>M
 |.cond x a b=>match kP P nt a,kP P nt b with
  |some a,J b=>J (.cond (iO x) a b)
  |_,_=>M
 |.block id b=>(kP P nt b).map (.block id)
 |.loop b=>(kP P nt b).map .L
 |.scope b=>(kP P nt b).map .scope
 |.label _=>J .lab
 |_=>J .bad
def aae:KC->KC
 |.Q a b=>.Q (aae a) (aae b)
 |.cond x a b=>.cond x (aae a) (aae b)
 |.block id b=>.block id (aae b)
 |.L b=>.L (aae b)
 |.scope b=>.scope (aae b)
 |.dO _ k=>aae k
 |.ej _ k=>aae k
 |c=>c
def afd(P:cy):ResultVar->Option KR
 |.tmp t=>J (.tmp t)
 |.cell a t=>(Tg P t).map λsh=>.C a sh
def KOK(P:cy)(fn:Func)(k:KF):Prop:=
 fn.ntmps=k.nt/\fn.params.size<=k.nt/\(fn.body.bind (kP P fn.ntmps))=J (aae k.body)/\fn.results.toList.mapM (afd P)=J k.res
section
theorem Oe{P:cy}{t:bO}{a:Sh}(h:Tg P t=J a)(l:F)(off:Nat):part P t l off=dx a l off:=by grind [Tg,part,dx]
theorem Ob{P:cy}{t:bO}{a:Sh}(h:Tg P t=J a)(S:Z)(p:Q):ya P S t p=aX S a p:=by grind [ya,aX,Oe]
theorem YP{P:cy}{s:bO}(h:(afa P).contains s=G):∃i k,P.info? s=J i/\P.underlying s=J (.int k)/\i.comparable=G:=by grind [afa]
theorem afj{P:cy}{t:bO}{x y:Q}{r:Bool}(h:pI (afb P t) x y=J r):Ir P t x y=J r:=by
 unfold afb at h;unfold Ir;split at h
 ·rename_i a
  simp;unfold pI at h
  grind
 ·rename_i a
  simp;unfold pI at h
  grind
 ·rename_i a
  simp;unfold pI at h
  grind [YP]
 ·rename_i a
  simp;unfold pI at h
  grind
 ·rename_i a
  simp;unfold pI at h
  grind
 ·rename_i a
  simp;split at h;·trivial
  ·rename_i b
   split at h
   ·rename_i d c
    unfold pI at h
    grind
   trivial
 ·rename_i a
  simp;split at h;·trivial
  ·rename_i b
   split at h
   ·rename_i d c
    unfold pI at h
    grind
   trivial
 trivial
def auf(P:cy)(op:BinOp)(t:bO)(c:Bool)(k k':IntKind)(a b:Int):Al P op t c (.I k a) (.I k' b)=dK op k a k' b:=rfl
def aug(P:cy)(op:BinOp)(t:bO)(c:Bool)(a b:List UInt8):Al P op t c (.S a) (.S b)=Te op a b:=rfl
theorem akH{P:cy}{op:BinOp}{t:bO}{a:Bool}{x y r:Q}(h:dX op (afb P t) a x y=J r):Al P op t a x y=J r:=by
 unfold dX at h;split at h
 ·unfold Al
  grind [afb]
 ·cases h
 ·cases h
 ·rename_i d e f
  have c:∀{o},o=(match op with
   |.eql=>(Ir P t x y).map AV.B
   |.neq=>(Ir P t x y).map λb=>.B (!b)
   |_=>M)->Al P op t a x y=o:=by
   rintro o rfl;unfold Al
   grind
  grind [rH,afj]
section
variable{P:cy}{ρ:Operand->Q}{σ:KV->Q}(hρ:∀x,σ (iO x)=ρ x)
include hρ
theorem Rx{b:Nat->Option (Nat × Nat)}:∀{a:List (Nat × Operand)}{ps:List (Nat × Nat × KV)},Ey b a=J ps->∀z,dj z (ps.map λx=>(x.1,x.2.1,σ x.2.2))=fill b z (a.map λx=>(x.1,ρ x.2)):=by intro a;induction a<;>grind [Ey,dj,fill]
theorem Tl(o:Option Operand):(o.map iO).map σ=o.map ρ:=by cases o<;>simp[hρ]
theorem afk(l:List Operand):(l.map iO).map σ=l.map ρ:=by simp[hρ]
theorem akI{o:Op}{k:KP}(h:Qm P o=J (.p k)){v:Q}(a:rQ σ k=J v):dL P ρ o=J v:=by
 unfold Qm at h;split at h;·grind [rQ,dL]
 ·grind [rQ,dL]
 ·grind [rQ,ae7,dL]
 ·rename_i t w
  unfold Th at h;simp only[dL,MV];split at h
  ·rename_i z fs I c
   split at h;case h_2=>cases h
   rename_i l T;simp at h;have⟨ps,j,b⟩:=h;simp only[I,c,T];cases b;simp only[rQ]at a;rw[Rx hρ j]at a;exact a
  ·rename_i z n e I c
   split at h;case h_2=>cases h
   rename_i m g;simp only[rH]at h;have⟨ps,j,b⟩:=h;cases b;simp only[rQ]at a;rw[Rx hρ j]at a;simp_all
  ·cases h
 ·grind [rQ,dL]
 ·rename_i op t x y ty
  unfold afc at h;simp only[dL];split at h
  ·cases h
   simp only[rQ,hρ]at a;unfold au at a;split at a;·rename_i p q;rw[p,q];exact a
   grind
  ·cases h
   simp only[rQ,hρ]at a;unfold ae8 at a;split at a;·rename_i p q;rw[p,q];exact a
   grind
  all_goals grind [rQ,akH]
 ·grind [rQ,dL]
 ·rename_i s d x
  unfold YI at h;simp only[dL,Bp];split at h
  ·rename_i k0 S
   simp only[rH]at h;have⟨u,c,b⟩:=h;cases b;simp only[rQ,hρ]at a;unfold nT at a
   grind
  ·rename_i S
   split at h
   ·rename_i hs
    cases h;simp only[rQ,hρ]at a;unfold apb at a
    grind
   ·rename_i hs
    cases h;simp only[rQ,hρ]at a;unfold at5 at a
    grind
   ·split at h
    ·rename_i b
     cases h;simp only[rQ,hρ]at a;unfold apc at a
     grind
    ·cases h
  all_goals grind
 ·grind [rQ,YH,dL]
 ·rename_i f first E
  cases h;simp_all[rQ,dL,EA]
 ·rename_i t x lo hi
  unfold Ti at h;simp only[dL,MT,Option.map_none];split at h;·grind [rQ,Tl,at4]
  ·rename_i e c
   simp only[rH]at h;have⟨m,g,b⟩:=h;cases b;simp only[rQ,hρ,Tl hρ]at a
   grind [nd,GW]
  ·rename_i n e c
   simp only[rH]at h
   grind [rQ,Tl,qI]
  ·cases h
 ·grind [rQ,dL,oC,akq]
 ·rename_i t x f
  split at h
  ·rename_i off u hf
   simp only[rH]at h;have⟨sh,r,b⟩:=h;cases b;simp only[rQ,hρ]at a;unfold ae5 at a;split at a;all_goals simp_all[dL,MW,Oe]
  ·cases h
 ·rename_i t x i
  simp only[dL,Am];split at h
  ·rename_i e c
   simp only[rH]at h;have⟨m,g,b⟩:=h;cases b;simp only[rQ,hρ]at a;unfold oc at a
   grind
  ·rename_i n e c
   simp only[rH]at h;have⟨m,g,b⟩:=h;cases b;simp only[rQ,hρ]at a;unfold jG at a
   grind
  ·cases h
 ·rename_i t x i
  simp only[dL,MU];split at h
  ·rename_i c
   cases h;simp only[rQ,hρ]at a;unfold apa at a
   grind
  ·rename_i n e c
   split at h;case h_2=>cases h
   rename_i m sh g r;cases h;simp only[rQ,hρ]at a;unfold N8 at a
   grind [Oe]
  ·cases h
 ·grind [rQ,dL]
 ·rename_i A ts
  unfold lenOf at h;simp only[dL];split at h;case h_2=>cases h
  rename_i t x ht hx;simp only[ht,hx,LC];split at h
  ·rename_i c
   cases h;simp only[rQ,hρ]at a;unfold ae6 at a
   grind
  ·rename_i c
   cases h;simp only[rQ,hρ]at a;unfold fW at a
   grind
  all_goals grind [rQ]
 ·grind [rQ,afk,ae9,dL]
 all_goals first
  |(simp[aaW]at h;done)
  |(unfold aaW at h;grind)
  |(simp at h;done)
  |(
    repeat' split at h
    all_goals first|(cases h;done)|(simp at h;done))
  |(cases h;done)
end
end
section
theorem adf{P:cy}{E:Env}{S:Z}{t:bO}{n:Nat}(h:jU P t=J n)(p v:Q):p_ P E S t p v=bd E.ag E.nb S n p v:=by
 cases p with
 |P i a=>simp only[p_,bd,h];rfl
 |_=>simp only[p_,bd]
def aA1{l:Array Operand}{f:Operand->Q}{i:Nat}{x:Operand}(h:l[i]? =J x):(l.map f)[i]? =J (f x):=by simp[h]
theorem auh{P:cy}{call:cP}{E:Env}{K:bQ}{S:Z}(q:∀x,KE.ev K.sl (iO x)=E.ev x)(I:K.ag=E.ag)(hn:K.nb=E.nb){o:Op}{k:GX}(h:Qm P o=J k)
 {r:Q × bV × Z} (g:mZ call K S k=J r):qF P call E S o=J r:=by
 have i:(∃p,k=.p p)->qF P call E S o=J r:=by
  rintro⟨p,rfl⟩;simp only[mZ,rH]at g;obtain⟨v,T,rfl⟩:=g;have:=akI q h T;unfold qF
  grind [dL]
 by_cases hp:∃p,k=.p p;·simp_all
 clear i;have u:∀{p:KP}{x:Prop},J (GX.p p)=J k->x:=by grind
 have j:∀{α:Type}{f:α->KP}{y:Option α}{x:Prop},(y.map λa=>GX.p (f a))=J k->x:=by grind [rH]
 unfold Qm at h;split at h;·exact u h
 ·exact u h
 ·exact u h
 ·grind [Th,rH]
 ·exact u h
 ·grind [afc]
 ·exact u h
 ·
   rename_i s d x;unfold YI at h;split at h;·grind [rH]
   ·grind
   ·rename_i e hd
    split at h
    ·rename_i hs A
     cases h;simp only[mZ,q,rH]at g;obtain⟨v,T,rfl⟩:=g;unfold VL at T;split at T
     ·rename_i s1 hx
      simp only[qF,dL,Bp,hd,hx,rM,MX,hs,A]
      grind
     grind
    ·cases h
   ·cases h
 ·grind
 ·exact u h
 ·unfold Ti at h
  split at h;·exact u h
  ·exact j h
  ·exact j h
  ·cases h
 ·grind
 ·split at h
  ·exact j h
  ·cases h
 ·split at h
  ·exact j h
  ·exact j h
  ·cases h
 ·grind
 ·exact u h
 ·grind [lenOf]
 ·exact u h
 ·
   rename_i t len m;unfold aaW at h;split at h
   ·rename_i e A
    split at h
    ·rename_i sz z w hz
     split at h
     ·rename_i hc
      cases h;simp only[mZ,rH]at g;obtain⟨es,Yd,rfl⟩:=g;simp only[qF,dL,rM,jX,A,w,hz];rw[if_pos hc];have e1:(m.toList.map λx=>(x.1,iO x.2)).map (λx=>(x.1,KE.ev K.sl x.2))=m.toList.map λx=>(x.1,E.ev x.2):=by simp[q]
      grind
     ·cases h
    ·cases h
   ·cases h
 ·
   grind [rH,mZ,qF,dL,rM,m0]
 ·grind [mZ,qF,dL,rM,m0]
 ·grind [rH,mZ,qF,dL,rM,m0,Ob]
 ·grind [rH,mZ,qF,dL,rM,m0,adf]
 ·rename_i b ts
  split at h
  ·rename_i e sz s x h1 h2 h3
   cases h;simp only[mZ,q]at g;simp only[qF,dL,rM,m0,h2,h3,<-I];rw[<-g];simp only[qE,h1,eD];cases bZ S (E.ev x)<;>rfl
  ·cases h
 ·rename_i b ts
  split at h
  ·rename_i sz d x h1 h2 h3
   cases h;simp only[mZ,q]at g;simp only[qF,dL,rM,m0,h2,h3,<-hn,<-I];have:J6 P K.nb S ts (E.ev d) (E.ev x)=uw K.nb S sz (E.ev d) (E.ev x):=by
    unfold J6 uw
    grind
   grind
  ·cases h
 ·
   rename_i f b ts;have e1:(b.toList.map iO).map (KE.ev K.sl)=b.toList.map λx=>E.ev x:=by simp[q]
   cases hx:Q7 f with
   |some e=>
    grind [mZ,qF]
   |none=>
    rw[hx]at h;cases h;simp only[mZ,q]at g
    grind [qF,Eg,callee,Dq,M4]
 ·rename_i t l c
  split at h
  ·rename_i e A
   split at h
   ·rename_i sz bs z w hbs hz
    split at h
    ·rename_i hc
     cases h;simp only[mZ,q]at g;simp only[qF,dL,rM,m0,<-I];rw[<-g];simp only[Nx,A,w,hbs,hz,Rt]
     grind
    ·cases h
   ·cases h
  ·cases h
 ·rename_i t x
  split at h
  ·rename_i hu
   cases h;simp only[mZ,q]at g;simp only[qF,dL,rM,m0,<-I];rw[<-g];simp only[Is,hu,Kc]
   grind
  ·cases h
 all_goals grind [mZ,qF,dL,rM,m0]
def apq{P:cy}{call:cP}{E:Env}{K:bQ}{S:Z}(f:∀x,KE.ev K.sl (iO x)=E.ev x)(e:K.ag=E.ag)(d:K.nb=E.nb){o:Oper}
 {r:Q × bV × Z} (a:mZ call K S (N_ P o)=J r):nR P call E S o=J r:=by
 unfold N_ at a;unfold nR;cases b:An o with
 |some q=>
  grind [mZ,zk,Bx]
 |none=>
  rw[b]at a;simp only at a⊢;cases c:Qm P o.op<;>grind [mZ,auh]
def toE(n:Nat)(K:bQ):Env:=⟨(List.range n).map (KE.get K.sl),K.ag,K.nb⟩
def GY(n:Nat)(K:bQ):Prop:=∀t,n<=t->KE.get K.sl t=.U
theorem acJ{n:Nat}{K:bQ}(h:GY n K)(t:Nat):(toE n K).ca.getD t .U=KE.get K.sl t:=by
 simp only[toE,Bw,yU];rcases oI t n with a|Yb;·simp_all
 ·rw[List.getElem?_eq_none (by simp_all),h t Yb];rfl
theorem adQ{n:Nat}{K:bQ}(h:GY n K)(x:Operand):KE.ev K.sl (iO x)=(toE n K).ev x:=by
 cases x with
 |tmp t=>exact(acJ h t).symm
 |_=>rfl
def adv{n:Nat}{K:bQ}{d:Option Tmp}(a:Oa n d=G)(v:Q)(ag:bV):toE n (K.put d v ag)=(toE n K).put d v ag:=by
 cases d with
 |none=>rfl
 |some d=>
  have a:d<n:=by simpa[Oa]using a
  simp only[toE,bQ.put,Env.put,dS,Env.mk.injEq,and_true];refine A4 λi=>?_
  grind [KE.get]
def YQ{n:Nat}{K:bQ}(h:GY n K){d:Option Tmp}(a:Oa n d=G)(v:Q)(ag:bV):GY n (K.put d v ag):=by
 intro t b;cases d with
 |none=>exact h t b
 |some d=>
  have a:d<n:=by simpa[Oa]using a
  simp only[bQ.put,KE.get];rw[if_neg (λe=>by grind)];exact h t b
def anp{n:Nat}{ops:Array Oper}{K:bQ}(h:GY n K){o:Oper}{g:Option (Nat × Bool)}(a:ape ops o.guard=J g){b:Bool}(d:gdK K g=J b):oo ops (toE n K) o=G/\oD ops (toE n K) o=b:=by unfold ape at a;unfold oo oD;cases c:o.guard<;>grind [gdK,acJ]
section
variable{P:cy}{call:cP}{n:Nat}{ops:Array Oper}
def anq{o:Oper}{e:KO}{K c:bQ}{S S':Z}{v:Q}(h:Tj P n ops o=J e)(w:GY n K)(b:Ke call K S e=J (v,c,S')):
 GY n c/\c.nb=K.nb/\oo ops (toE n K) o=G/\
 ((oD ops (toE n K) o=G/\gdK K e.gd=J G/\∃ag,nR P call (toE n K) S o=J (v,ag,S')/\toE n c=(toE n K).put o.dst v ag)\/
  (oD ops (toE n K) o=O/\gdK K e.gd=J O/\S'=S/\toE n c=(toE n K).put o.dst (.cQ []) (toE n K).ag)):=by
 unfold Tj at h;split at h;case isFalse=>cases h
 rename_i d;split at h;case h_2=>cases h
 rename_i g j;cases h;unfold Ke at b;simp only at b;split at b
 ·rename_i a
  have⟨f,i⟩:=anp w j a;split at b;case h_2=>cases b
  rename_i m ag l k;cases b;refine⟨YQ w d _ _, ?_,f,.inl ⟨i,a,ag, ?_,adv d _ _⟩⟩;·cases o.dst<;>rfl
  ·exact apq (λx=>adQ w x) rfl rfl k
 ·rename_i a
  have⟨f,i⟩:=anp w j a;cases b;refine⟨YQ w d _ _, ?_,f,.inr ⟨i,a,rfl,adv d _ _⟩⟩;cases o.dst<;>rfl
 grind
def mapM_cons{α β:Type}{f:α->Option β}{a:α}{l:List α}{m:List β}(h:(a::l).mapM f=J m):∃b r,f a=J b/\l.mapM f=J r/\m=b::r:=by
 rw[EC]at h;cases c:f a with
 |none=>simp_all
 |some b=>
  cases d:l.mapM f<;>simp_all
def Tm:∀{l:List Oper}{c:List KO}{K a:bQ}{S S':Z},l.mapM (Tj P n ops)=J c->GY n K->ue call c K S=J (a,S')->
 GY n a/\a.nb=K.nb/\yC P call ops l (toE n K) S=J (toE n a,S'):=by
 intro l;induction l with
 |nil=>
  intro c K a S S' h w b;simp at h;subst h;simp only[ue]at b;cases b;trivial
 |cons o l p=>
  intro c K a S S' h w b;obtain⟨q,r,d,k,rfl⟩:=mapM_cons h;simp only[ue]at b;split at b;case h_2=>cases b
  rename_i v g i e;have⟨s,f,j,m⟩:=anq d w e
  grind [yC]
def apr:∀{l:List Oper}{e:List (Nat × F)}{K:bQ}{S:Z},Ho P n l=J e->GY n K->
 GY n (zJ e K S).1/\(zJ e K S).1.nb=K.nb/\rN P l (toE n K) S=J (toE n (zJ e K S).1,(zJ e K S).2):=by
 intro l;induction l with
 |nil=>
  intro e K S h w;simp[Ho]at h;subst h;trivial
 |cons o l q=>
  intro e K S h w;unfold Ho at h;unfold rN;split at h
  ·rename_i t m
   simp only[m];split at h;case h_2=>cases h
   rename_i d z j k p g;split at h;case isFalse=>cases h
   rename_i i;cases h;have f:Oa n (J d)=G:=by simpa[Oa]using i
   have⟨a,b,c⟩:=q (K:=K.put (J d) (.P S.length 0) K.ag) (S:=S++[.M z [] O]) g (YQ w f _ _);simp only[zJ,p];refine⟨a,b, ?_⟩;rw[<-c,adv f,k];rfl
  simp_all
def aps(P:cy)(b:Array Nat)(ops:Array Oper)(ls:List Af)(kls:List Ee):Prop:=
 ∀l∈ls,∃k∈kls,k.lo=lowest ops b l.idx/\k.hi=Gt ops b l.idx/\Tg P l.type=J k.sh/\k.at_=l.at_/\k.val=l.val
def akJ{o:Op}{k:GX}(h:Qm P o=J k){t:bO}{p:Operand}(b:o=.load t p):∃a,Tg P t=J a/\k=.load a (iO p):=by grind [Qm,rH]
def aui:∀{l:List (Oper × Nat)}{E:List KD}{K u:bQ}{S S':Z}{I m:List Z}{j e:List Ee}{ls:List Af},Qn P n ops (Region.before ops) l=J E->GY n K->aps P (Region.before ops) ops ls j->
 Aq call E K S I j=J (u,S',m,e)->
 GY n u/\u.nb=K.nb/\∃s,aps P (Region.before ops) ops s e/\td P call ops l (toE n K) S I ls=J (toE n u,S',m,s):=by
 intro l;induction l with
 |nil=>
  intro E K u S S' I m j e ls h w A r;simp[Qn]at h;subst h;simp only[Aq]at r;cases r;exact⟨w,rfl,ls,A,rfl⟩
 |cons x l ih=>
  have⟨o,i⟩:=x;intro E K u S S' I m j e ls h w A r;unfold Qn at h;unfold td;split at h;·grind
  ·rename_i ha
   rw[if_neg ha];split at h;case h_2=>cases h
   rename_i ko kr h1 h2;cases h;simp only[Aq]at r;split at r;case h_2=>cases r
   rename_i v K1 S1 h3;have⟨w1,nb1,gt,hc⟩:=anq h1 w h3;rw[if_pos gt];have hop:∃g,ko=⟨o.dst,g,N_ P o⟩:=by grind [Tj]
   obtain⟨g,rfl⟩:=hop;have z:∀t p,o.op=.load t p->gdK K g=J G->∃k,Qm P o.op=J k/\N_ P o=k:=by intro t p f hg;have aJu:An o=M:=NU (by simp[e_,f]);cases hk:Qm P o.op<;>grind [N_,Ke,mZ]
   generalize N_ P o=k at h1 h3 z r;rcases hc with⟨g1,T,ag,e3,e4⟩|⟨g1,T,e3,e4⟩
   ·rw[if_pos g1,e3]
    have hl2:aps P (Region.before ops) ops (match o.op with|.load t p=>⟨i,t,(toE n K).ev p,v⟩::ls|_=>ls) (ldK K ⟨⟨o.dst,g,k⟩,e_ o,lowest ops (Region.before ops) i,Gt ops (Region.before ops) i⟩ v j):=by
     by_cases hld:∃t p,o.op=.load t p
     ·have⟨t,p,f⟩:=hld
      have⟨k',hk,hk'⟩:=z t p f T;subst hk';obtain⟨sh,hsh,rfl⟩:=akJ hk f;rw[f];simp only[ldK,T];intro x hx;rcases Of.1 hx with rfl|hx;·grind [List.mem_cons_self,adQ]
      ·have⟨y,hy,q⟩:=A x hx
       grind
     ·have e1:(match o.op with|.load t p=>(⟨i,t,(toE n K).ev p,v⟩:Af)::ls|_=>ls)=ls:=by simp_all
      rw[e1];intro x hx;have⟨y,hy,q⟩:=A x hx
      grind [ldK]
    have⟨a,b,s,c,d⟩:=ih h2 w1 hl2 r
    grind
   grind [ldK]
def M6{g:List (Nat × F)}{h:List KD}{K b:bQ}{S S':Z}(o:Ho P n ops.toList=J g)(p:Qn P n ops (Region.before ops) ops.toList.zipIdx=J h)(w:GY n K)
 (a:Ms call g h K S=J (b,S')):GY n b/\b.nb=K.nb/\Ej P call ops (toE n K) S=J (toE n b,S'):=by
 unfold Ms at a;split at a;·cases a
 rename_i u v ss ls m;split at a;case isFalse=>cases a
 rename_i q;cases a;have⟨s,e,i⟩:=apr (K:=K) (S:=S) o w;have⟨t,f,r,d,j⟩:=aui p s (ls:=[]) (λl d=>by simp at d) m;refine⟨t,f.trans e, ?_⟩;unfold Ej;simp only[i,j];rw[if_pos];unfold Iu;simp;intro l c x hx;have⟨k,T,y,z,A,E,I⟩:=d l c
 grind [N9,Ob]
end
end
section
section
variable{w:cw}{mu:oV}{hw:Nat->Nat}{lk:Nat->Prop}
theorem RV.dF{a:Q}{v:bC}(h:RV w mu hw lk a v):RV w mu hw lk (dF a) v:=by
 unfold am.dF;split;·cases h;exact .emp 1 M 0
 ·exact h
 ·cases h with
  |emp _ p c=>exact .emp 1 p c
  |zB _ p=>exact .emp 1 p 0
  |sl _ _ _ b o d c f e A t y m k l=>
   exact .sl .N 1 [] b o d c f ⟨e.1,e.2.1,by simp⟩ (by simp) (by simp) (by simp) (by simp) (by simp) (by simp)
 ·rename_i r E s g _
  cases h with
  |emp _ p c=>trivial
  |zB _ p=>trivial
  |sl _ _ _ b o d c f e A t y m k l=>
   refine .sl .N E s b o d c f e (by simp) (by simp) (by simp) m (λi n j a u x=>?_) l;obtain⟨p,q,z⟩:=k i n j a u x;refine⟨p, ?_,z⟩;cases r<;>first|exact absurd rfl (g _)|exact q
 ·exact h
theorem afl{a:Q}(h:nf a=G):nf (dF a)=G:=by unfold am.dF;split<;>first|rfl|exact h
def RV.ej{a:Q}{v:bC}(h:RV w mu hw lk a v):RV w mu hw lk (ej a) v:=by
 unfold am.ej;split
 ·rename_i b
  cases h with
  |agg _ f d e=>
   have:=RV.agg (w:=w) (mu:=mu) (hw:=hw) (lk:=lk) (b.map am.dF) f (λj a c=>by
    grind [afl]) (λj a c=>by
    grind [dF])
   simp_all
 ·exact h.dF
def RV.yE{a:Q}{v:bC}(h:RV w mu hw lk a v):RV w mu hw lk (yE a) v:=by
 unfold am.yE;split;·exact h
 ·exact h.ej
theorem RV.cd{a:Q}{v:bC}(h:RV w mu hw lk a v):RV w mu hw lk (cd a) v:=by
 unfold am.cd;split;·exact h.ej
 ·exact h
theorem gO.dF{b:oG}{ti:Id->TI}{a:Q}{v:bC}(h:gO b ti a v):gO b ti (am.dF a) v:=by unfold am.dF;split<;>first|trivial|exact h
theorem eU.dF{b:oG}{ti:Id->TI}{a:Q}{v:bC}(h:eU b ti a v):eU b ti (am.dF a) v:=by unfold am.dF;split<;>first|trivial|exact h
def eU.ej{b:oG}{ti:Id->TI}{a:Q}{v:bC}(h:eU b ti a v):eU b ti (am.ej a) v:=by
 unfold am.ej;split;·trivial
 ·exact h.dF
def eU.yE{b:oG}{ti:Id->TI}{a:Q}{v:bC}(h:eU b ti a v):eU b ti (am.yE a) v:=by
 unfold am.yE;split;·trivial
 ·exact h.ej
theorem eU.cd{b:oG}{ti:Id->TI}{a:Q}{v:bC}(h:eU b ti a v):eU b ti (am.cd a) v:=by
 unfold am.cd;split;·trivial
 ·exact h
end
section
variable{P:cy}
structure HV(P:cy)(nk:NK):Prop where
 sim:∀f p,nk.sO f=J p->pv P λg args S=>if g=f then p args S else M
 old:∀f p,nk.sO f=J p->mw λg args S=>if g=f then p args S else M
def VP{F:cP}{nk:NK}(s:HV P nk)(h:pv P F):pv P (rG nk F):=by
 intro f c S r d e base bA w mu hw m b I q k;unfold rG at e;split at e
 ·rename_i p o
  exact s.sim f p o f c S r d (by grind) base bA w mu hw m b I q k
 ·refine h f _ S r d e base bA w mu hw m b I (by simp_all) λj a l=>?_
  simp only[yU,rH]at l;obtain⟨y,t,rfl⟩:=l;obtain⟨v,n,g,i⟩:=k j y t;refine⟨v,n, ?_⟩;split;·exact⟨g.yE,i.yE⟩
  ·exact⟨g.ej,i.ej⟩
def LN{F:cP}{nk:NK}(d:HV P nk)(h:mw F):mw (rG nk F):=by
 intro f a S r b e;unfold rG at e;split at e
 ·rename_i p c
  exact d.old f p c f a S r b (by grind)
 ·exact h f _ S r b e
def aa0{n:Nat}{c:Code}{l:List KO}(h:kP P n c=J (.ops l)):∃id ops,c=.region id ops O/\ops.toList.mapM (Tj P n ops)=J l:=by
 cases c with
 |region id ops d=>
  cases d<;>grind [kP,rH]
 |_=>simp only[kP]at h<;>(first|(cases h;done)|((repeat' split at h)<;>cases h)|simp_all)
def VT{n:Nat}{c:Code}{a:List (Nat × F)}{l:List KD}(h:kP P n c=J (.draw a l)):
 ∃id ops,c=.region id ops G/\zA ops=G/\Ho P n ops.toList=J a/\Qn P n ops (Region.before ops) ops.toList.zipIdx=J l:=by
 cases c with
 |region id ops d=>
  cases d<;>grind [kP,rH]
 |_=>simp only[kP]at h<;>(first|(cases h;done)|((repeat' split at h)<;>cases h)|simp_all)
def aa1{n:Nat}{c:Code}{x y:KC}(h:kP P n c=J (.Q x y)):∃a b,c=.seq a b/\kP P n a=J x/\kP P n b=J y:=by
 cases c with
 |seq a b=>
  grind [kP]
 |region id e d=>
  cases d<;>simp only[kP]at h;all_goals grind [rH]
 |_=>simp only[kP]at h<;>(first|(cases h;done)|((repeat' split at h)<;>cases h)|simp_all)
def VU{n:Nat}{c:Code}{z:KV}{x y:KC}(h:kP P n c=J (.cond z x y)):∃t a b,c=.cond t a b/\iO t=z/\kP P n a=J x/\kP P n b=J y:=by
 cases c with
 |cond t a b=>
  grind [kP]
 |region id e d=>
  cases d<;>simp only[kP]at h;all_goals grind [rH]
 |_=>simp only[kP]at h<;>(first|(cases h;done)|((repeat' split at h)<;>cases h)|simp_all)
def Ry{n:Nat}{c:Code}{id:Nat}{x:KC}(h:kP P n c=J (.block id x)):∃a,c=.block id a/\kP P n a=J x:=by
 cases c with
 |block b a=>
  grind [kP,rH]
 |region id e d=>
  cases d<;>simp only[kP]at h;all_goals grind [rH]
 |_=>simp only[kP]at h<;>(first|(cases h;done)|((repeat' split at h)<;>cases h)|simp_all)
def VV{n:Nat}{c:Code}{x:KC}(h:kP P n c=J (.L x)):∃a,c=.loop a/\kP P n a=J x:=by
 cases c with
 |loop a=>
  grind [kP,rH]
 |region id b d=>
  cases d<;>simp only[kP]at h;all_goals grind [rH]
 |_=>simp only[kP]at h<;>(first|(cases h;done)|((repeat' split at h)<;>cases h)|simp_all)
def VW{n:Nat}{c:Code}{a:List (Nat × bD)}{l:List KD}{k:List KO}(h:kP P n c=J (.VM a l k)):
 ∃id ops F,c=.region id ops G/\Ta P ops=J F/\F.q<n/\F.l<n/\Ho P n (rq ops (ops.size -5)).toList=J a/\
  Qn P n (rq ops (ops.size -5)) (Region.before (rq ops (ops.size -5))) (rq ops (ops.size -5)).toList.zipIdx=J l/\(Ev F).mapM (Tj P n (Ev F).toArray)=J k:=by
 cases c with
 |region id ops d=>
  cases d<;>grind [kP,rH]
 |_=>simp only[kP]at h<;>(first|(cases h;done)|((repeat' split at h)<;>cases h)|simp_all)
def VX{call:cP}{n:Nat}{d:List (Nat × F)}{l:List KD}{k:List KO}{K a:bQ}{S S':Z}{o:Out}(h:eZ call n (.Q (.draw d l) (.ops k)) K S=J (o,a,S')):
 o=.normal/\∃b c,Ms call d l K S=J (b,c)/\ue call k b c=J (a,S'):=by
 match n,h with
 |0,h=>trivial
 |1,h=>trivial
 |n+2,h=>
  grind [eZ]
theorem Rz{n:Nat}{c:Code}{x:KC}(h:kP P n c=J (.scope x)):∃a,c=.scope a/\kP P n a=J x:=by
 cases c with
 |scope a=>
  grind [kP,rH]
 |region id b d=>
  cases d<;>simp only[kP]at h;all_goals grind [rH]
 |_=>simp only[kP]at h<;>(first|(cases h;done)|((repeat' split at h)<;>cases h)|simp_all)
def akK{n:Nat}{c:Code}(h:kP P n c=J .lab):∃l,c=.label l:=by
 cases c with
 |label l=>simp
 |region id a d=>
  cases d<;>simp only[kP]at h;all_goals grind [rH]
 |_=>simp only[kP]at h<;>(first|(cases h;done)|((repeat' split at h)<;>cases h)|simp_all)
def Og{n:Nat}{c:Code}{x:KC}(h:kP P n c=J x):(x=.skip->c=.skip)/\(x=.ret->c=.ret)/\(∀id,x=.exit id->c=.exit id):=by
 refine⟨λe=>?_,λe=>?_,λid e=>?_⟩<;>subst e<;>cases c with
 |region id a d=>
  cases d<;>simp only[kP]at h;all_goals grind [rH]
 |_=>simp only[kP]at h<;>(first|(cases h;rfl;done)|(cases h;done)|((repeat' split at h)<;>cases h)|(simp only[rH]at h;obtain⟨_,_,h⟩:=h;cases h))
def VY(l:List Nat)(s:KE)(t:Nat):KE.get (l.map λt=>(t,KE.get s t)) t=KE.get s t\/KE.get (l.map λt=>(t,KE.get s t)) t=.U:=by induction l<;>grind [KE.get]
def VZ(l:List Nat):∀(s:KE)(t:Nat),∃k:Nat,KE.get (l.foldl (λs t=>(t,am.ej (KE.get s t))::s) s) t=Nat.rec (KE.get s t) (λ_ x=>am.ej x) k:=by
 induction l with
 |nil=>intro s t;exact⟨0,rfl⟩
 |cons d l b=>
  intro s t;rw[List.foldl_cons];obtain⟨k,a⟩:=b ((d,am.ej (KE.get s d))::s) t;rw[a];simp only[KE.get];by_cases e:d=t
  ·subst e
   rw[if_pos rfl];refine⟨k+1, ?_⟩;clear a;induction k with
   |zero=>rfl
   |succ k c=>simp_all
  ·rw[if_neg e];grind
theorem YR:am.ej .U=.U:=rfl
def Tn{n:Nat}{K:bQ}(h:GY n K)(l:List Nat):GY n (K.dO l):=by
 intro t a;rcases VY l K.sl t with e|e;·exact e.trans (h t a)
 ·exact e
def To{n:Nat}{K:bQ}(h:GY n K)(l:List Nat):GY n (K.ej l):=by
 intro t b;obtain⟨k,a⟩:=VZ l K.sl t;refine a.trans ?_;rw[h t b];clear a;induction k with
 |zero=>rfl
 |succ k c=>grind [YR]
section
variable{base:Nat}{bA:Nat->Prop}{S0:Z}{w0:cw}{mu0:oV}{hw0:Nat->Nat}{ti0:Id->TI}
def V0{n:Nat}{K c:bQ}{S:Z}{a:Act}{w:cw}(b:Vk base bA S0 w0 mu0 hw0 ti0 (toE n K) S a w)(s:GY n K)(d:GY n c)(o:c.ag=K.ag)
 (m:∀t,KE.get c.sl t=.U\/∃k:Nat,KE.get c.sl t=Nat.rec (KE.get K.sl t) (λ_ x=>am.ej x) k):Vk base bA S0 w0 mu0 hw0 ti0 (toE n c) S a w:=by
 obtain⟨mu,hw,r,I,f,e,u,j,l⟩:=b;have i:(toE n c).ag=(toE n K).ag:=o;refine⟨mu,hw,r,by simp_all,⟨?_,λt=>?_⟩,e,by simp_all,j,l⟩
 ·have:=f.1
  simpa[toE]using this
 ·obtain⟨p,q⟩:=f.2 t
  rw[i,acJ d];rw[acJ s]at p q;rcases m t with h|⟨k,h⟩;·rw[h];exact⟨.undef _,trivial⟩
  ·rw[h]
   clear h;induction k with
   |zero=>trivial
   |succ k g=>exact⟨g.1.ej,g.2.ej⟩
def VO{call:cP}{r:Nat}(hm:P.follows .mixedOrders=G)(NL:pv P call)(hold:mw call)(hN:Bs P):∀(n:Nat),
 (∀(kc:KC)(c:Code)(K:bQ)(S:Z)(o:Out)(j:bQ)(S':Z)(a:Act)(w:cw)(Q:Exit->Act->cw->Prop),kP P r c=J (aae kc)->GY r K->eZ call n kc K S=J (o,j,S')->Vk base bA S0 w0 mu0 hw0 ti0 (toE r K) S a w->
  (∀g w',GY r j->Vk base bA S0 w0 mu0 hw0 ti0 (toE r j) S' g w'->Q (Tp o) g w')->c.wp P Q a w)/\
 (∀(kb:KC)(b:Code)(K:bQ)(S:Z)(o:Out)(j:bQ)(S':Z)(a:Act)(w:cw)(Q:Exit->Act->cw->Prop),kP P r b=J (aae kb)->GY r K->eZ call n (.L kb) K S=J (o,j,S')->Vk base bA S0 w0 mu0 hw0 ti0 (toE r K) S a w->
  (∀g w',GY r j->Vk base bA S0 w0 mu0 hw0 ti0 (toE r j) S' g w'->Q (Tp o) g w')->Code.rounds P b Q n a w):=by
 intro n;induction n with
 |zero=>grind [eZ]
 |succ n ih=>
  obtain⟨A,d⟩:=ih;have B1:∀(kb:KC)(b:Code)(K:bQ)(S:Z)(o:Out)(j:bQ)(S':Z)(a:Act)(w:cw)(Q:Exit->Act->cw->Prop),kP P r b=J (aae kb)->GY r K->eZ call (n+1) (.L kb) K S=J (o,j,S')->Vk base bA S0 w0 mu0 hw0 ti0 (toE r K) S a w->
   (∀g w',GY r j->Vk base bA S0 w0 mu0 hw0 ti0 (toE r j) S' g w'->Q (Tp o) g w')->Code.rounds P b Q (n+1) a w:=by
   intro kb b K S o j S' a w Q s m h R hQ;rw[rounds_succ];simp only[eZ]at h;split at h
   ·rename_i K1 S1 T
    exact A kb b K S .normal K1 S1 a w _ s m T R λg w' i u=>d kb b K1 S1 o j S' g w' Q s i h u hQ
   ·rename_i hne
    refine A kb b K S o j S' a w _ s m h R λg w' i u=>?_;have:=hQ g w' i u;cases o with
    |normal=>simp_all
    |E id=>exact this
    |R=>exact this
  refine⟨?_,B1⟩;intro kc c K S o j S' a w Q s m h R hQ;cases kc with
  |skip=>
   obtain rfl:=(Og s).1 rfl;simp only[eZ]at h;cases h;exact wp_skip (hQ a w m R)
  |ret=>
   obtain rfl:=(Og s).2.1 rfl;simp only[eZ]at h;cases h;exact wp_ret (hQ a w m R)
  |exit id=>
   obtain rfl:=(Og s).2.2 id rfl;simp only[eZ]at h;cases h;exact wp_exit (hQ a w m R)
  |ops l=>
   obtain⟨id,ops,rfl,hl⟩:=aa0 s;simp only[eZ]at h;split at h
   ·rename_i K1 S1 T
    cases h;obtain⟨w1,_,e1⟩:=Tm hl m T;exact V1 (aoO NL hold hN _ (toE r K) S a w _ _ e1 R λg w' u=>hQ g w' w1 u)
   ·cases h
  |draw al l=>
   obtain⟨id,ops,rfl,hr,ha,hl⟩:=VT s;simp only[eZ]at h;split at h
   ·rename_i K1 S1 T
    cases h;obtain⟨w1,_,e1⟩:=M6 ha hl m T;exact akj hm hN NL hold id ops (toE r K) S _ _ hr e1 base bA S0 w0 mu0 hw0 ti0 a w Q R λg w' u=>hQ g w' w1 u
   ·cases h
  |Q x y=>
   obtain⟨p,q,rfl,T,h2⟩:=aa1 (x:=aae x) (y:=aae y) s;simp only[eZ]at h;refine wp_seq ?_;split at h
   ·rename_i K1 S1 h3
    exact A x p K S .normal K1 S1 a w _ T m h3 R λg w' i u=>A y q K1 S1 o j S' g w' Q h2 i h u hQ
   ·rename_i hne
    refine A x p K S o j S' a w _ T m h R λg w' i u=>?_;have:=hQ g w' i u;cases o with
    |normal=>simp_all
    |E id=>exact this
    |R=>exact this
  |cond z x y=>
   obtain⟨t,p,q,rfl,rfl,T,h2⟩:=VU (x:=aae x) (y:=aae y) s;simp only[eZ,adQ m]at h;have hx:∀b,(toE r K).ev t=.B b->a.eval t=.bool b:=by intro b hb;obtain⟨mu,hw,ti,I,SL,_⟩:=R;have:=(SL.eval (E:=toE r K) (a:=a) I.zE t).1;rw[hb]at this;generalize hv:a.eval t=v at this;cases this;rfl
   grind [wp_cond_true,wp_cond_false]
  |block id x=>
   obtain⟨p,rfl,T⟩:=Ry (x:=aae x) s;simp only[eZ]at h;refine wp_block ?_;split at h;·grind [Tp,Exit.inBlock]
   ·rename_i hne
    refine A x p K S o j S' a w _ T m h R λg w' i u=>?_;have:=hQ g w' i u;cases o with
    |normal=>exact this
    |E id=>simp_all
    |R=>exact this
  |L x=>
   obtain⟨p,rfl,T⟩:=VV (x:=aae x) s;exact wp_loop_rounds (n+1) (B1 x p K S o j S' a w Q T m h R hQ)
  |dO l k=>
   simp only[eZ]at h;refine A k c (K.dO l) S o j S' a w Q s (Tn m l) h (V0 R m (Tn m l) rfl λt=>?_) hQ;rcases VY l K.sl t with e|e;·exact .inr ⟨0,e⟩
   ·exact .inl e
  |ej l k=>
   simp only[eZ]at h;exact A k c (K.ej l) S o j S' a w Q s (To m l) h (V0 R m (To m l) rfl λt=>.inr (VZ l K.sl t)) hQ
  |scope x=>
   obtain⟨p,rfl,T⟩:=Rz (x:=aae x) s;simp only[eZ]at h;refine wp_scope_straight (A x p K S o j S' a w _ T m h R λg w' i u=>?_);have:=hQ g w' i u;cases o<;>exact this
  |lab=>
   obtain⟨l,rfl⟩:=akK s;simp only[eZ]at h;cases h;exact wp_label (hQ a w m R)
  |bad=>trivial
  |VM al l k=>
   obtain⟨id,ops,f,rfl,hF,hq,hl,T,h2,h3⟩:=VW s;simp only[eZ]at h;obtain⟨rfl,K1,S1,r1,r2⟩:=VX h;obtain⟨w1,_,e1⟩:=M6 T h2 m r1;obtain⟨w2,_,e2⟩:=Tm h3 w1 r2;exact YC hm hN NL hold (VI hF) e1 e2 (by simpa[toE]using hq) (by simpa[toE]using hl) R λg w' u=>hQ g w' w2 u
end
def LM{call:cP}{g:Nat}(T:mw call):∀(n:Nat)(kc:KC)(c:Code)(K:bQ)(S:Z)(o:Out)(i:bQ)(S':Z),kP P g c=J (aae kc)->GY g K->K.nb<=S.length->eZ call n kc K S=J (o,i,S')->
 GY g i/\i.nb=K.nb/\gP K.nb S S':=by
 intro n;induction n with
 |zero=>nofun
 |succ n A=>
  intro kc c K S o i S' m s b h;have two:∀(x y:KC)(p q:Code)(f:bQ)(j:Z),kP P g p=J (aae x)->kP P g q=J (aae y)->eZ call n x K S=J (.normal,f,j)->eZ call n y f j=J (o,i,S')->GY g i/\i.nb=K.nb/\gP K.nb S S':=by intro x y p q f j r e2 d u;obtain⟨a0,a1,a2⟩:=A _ _ _ _ _ _ _ r s b d;obtain⟨b0,b1,b2⟩:=A _ _ _ _ _ _ _ e2 a0 (by rw[a1];exact uv b a2.len) u;exact⟨b0,b1.trans a1,a2.trans (a1▸b2)⟩
  cases kc with
  |skip=>grind [eZ,gP.refl]
  |ret=>grind [eZ,gP.refl]
  |exit id=>grind [eZ,gP.refl]
  |ops l=>
   obtain⟨id,ops,rfl,hl⟩:=aa0 m;simp only[eZ]at h;split at h
   ·rename_i f j d
    cases h;obtain⟨I,e,r⟩:=Tm hl s d;exact⟨I,e,(RC T _ (toE g K) _ _ _ b r).2⟩
   ·cases h
  |draw al l=>
   obtain⟨id,ops,rfl,hr,ha,hl⟩:=VT m;simp only[eZ]at h;split at h
   ·rename_i f j d
    cases h;obtain⟨I,e,r⟩:=M6 ha hl s d;exact⟨I,e,(Oh T (E:=toE g K) b r).2⟩
   ·cases h
  |Q x y=>
   obtain⟨p,q,rfl,d,u⟩:=aa1 (x:=aae x) (y:=aae y) m;simp only[eZ]at h;split at h
   ·rename_i f j v
    exact two x y p q f j d u v h
   grind
  |cond z x y=>
   obtain⟨t,p,q,rfl,rfl,d,u⟩:=VU (x:=aae x) (y:=aae y) m;simp only[eZ]at h;split at h;·grind
   ·grind
   ·cases h
  |block id x=>
   obtain⟨p,rfl,d⟩:=Ry (x:=aae x) m;simp only[eZ]at h;split at h
   ·rename_i Il f j v
    split at h<;>cases h<;>exact A _ _ _ _ _ _ _ d s b v
   grind
  |L x=>
   obtain⟨p,rfl,d⟩:=VV (x:=aae x) m;simp only[eZ]at h;split at h;all_goals grind
  |dO l k=>
   simp only[eZ]at h;exact A k c (K.dO l) S o i S' m (Tn s l) b h
  |ej l k=>
   simp only[eZ]at h;exact A k c (K.ej l) S o i S' m (To s l) b h
  |scope x=>
   grind [Rz,aae,eZ]
  |lab=>grind [eZ,gP.refl]
  |bad=>trivial
  |VM al l k=>
   obtain⟨id,ops,a,rfl,hF,hq,hl,d,u,v⟩:=VW m;simp only[eZ]at h;obtain⟨rfl,f,j,r1,r2⟩:=VX h;obtain⟨I,e,r⟩:=M6 d u s r1;obtain⟨w2,nb2,e2⟩:=Tm v I r2;have k1:=Oh T (E:=toE g K) b r;have k2:=(RC T _ (toE g f) _ _ _ (by show f.nb<=_;rw[e];exact uv b k1.2.len) e2).2;exact⟨w2,nb2.trans e,k1.2.trans (by simp_all)⟩
end
end
section
section
variable{P:cy}
theorem Kf:∀(l:F)(n t:Nat),KE.get (Ar n l) t=if n<=t/\t<n+l.length then l.getD (t -n) .U else .U:=by intro l;induction l<;>grind [Ar,KE.get]
def at6{n:Nat}{K:bQ}(g:GY n K){fn:Func}{S:Z}:∀{l:List ResultVar}{a:List KR},l.mapM (afd P)=J a->Iv P fn (toE n K) S l=IN K S a:=by
 intro l;induction l with
 |nil=>intro a h;simp at h;subst h;rfl
 |cons r l e=>
  intro a h;obtain⟨f,b,c,d,rfl⟩:=mapM_cons h;cases r<;>grind [afd,Iv,IN,acJ,rH,Ob]
def Oc{f:eS}{ag:bV}{a:F}{S S1 S':Z}{r:Q}(h:ds f ag a S S1=J (r,S')):a.all cI=G/\
 ((aF (ck (aO ag (a.map cd)))=G/\r=ck (aO ag (a.map cd))/\S'=S1.take S.length)\/
  (kK S1.length (λk=>b_ (S.length<=k)) r=G/\By S.length S1=G/\r=ck (aO ag (a.map cd))/\S'=S1)\/
  (kK S.length (λ_=>O) r=G/\r=ck (aO ag (a.map cd))/\S'=S1.take S.length)\/
  (Qf S1 S.length (ck (aO ag (a.map cd)))=J r/\aF r=G/\S'=S1.take S.length)):=by
 unfold ds at h;split at h;case isFalse=>cases h
 rename_i b;refine⟨b, ?_⟩;split at h;all_goals grind [Tf]
theorem Ru{m a:Nat}{q q':Nat->Bool}(c:m<=a)(d:∀k,k<m->q k=G->q' k=G){r:Q}(h:kK m q r=G):kK a q' r=G:=by
 have f:∀v,zy m q v=G->zy a q' v=G:=by
  intro v e;cases v with
  |sl r j g=>
   cases r<;>grind [J7,zy,Iz]
  |cQ b=>trivial
  |_=>exact Iz c d _ e
 by_cases i:∃b,r=.cQ b;·grind [kK]
 simp_all[kK]
def ac8{w:eS->Option KF}{nk:NK}(E:HV P nk)(u:∀f k,w f=J k->∃fn,P.funcs[f]? =J fn/\KOK P fn k):∀n,mw (Ex w nk n):=by
 intro n;induction n with
 |zero=>nofun
 |succ n ih=>
  intro f j S r g h;unfold Ex at h;split at h;·cases h
  rename_i k hk;have⟨fn,hf,hnt,v,hb,YJ⟩:=u f k hk;cases y:fn.body with
  |none=>simp_all
  |some c=>
   simp only[y,Option.bind_some]at hb;split at h;·cases h
   rename_i hlen;have T:GY fn.ntmps ⟨Ar 0 j,[],S.length⟩:=by
    intro t ht
    grind [Kf]
   split at h;·cases h
   ·rename_i o K1 S1 hne h1
    split at h;·cases h
    rename_i vs0 Tk;have⟨_,nb,b⟩:=LM (LN E ih) _ _ _ _ _ _ _ _ hb T (gM S.length) h1;have kl:=b.len
    have drop:(∀m q,S.length<=m->kK m q r=G)->g=S1.take S.length->S.length<=g.length/\kK g.length (λk=>b_ (S.length<=k)) r=G/\gP S.length S g/\aaM S.length g:=by
     intro v d;subst d;refine⟨by grind,v _ _ (by grind),⟨by grind,λa m q hm I i s p l A hd d=>?_⟩,λi s p l A d=>?_⟩
     ·have x:S1[i]? =J (.M s p l):=by grind
      exact b.old a m q hm I i s p l A hd x
     simp_all
    obtain⟨_,⟨v,rfl,d⟩|⟨z,e,_,rfl⟩|⟨v,_,d⟩|⟨_,v,d⟩⟩:=Oc h;·grind [sP]
    ·refine⟨kl,z,b,λi s p l A d=>?_⟩
     unfold By at e;rw[zG]at e;have:=e (.M s p l) (by
      refine gS (i:=i -S.length) ?_
      grind)
     omega
    all_goals grind [Ru,sP]
   ·cases h
section
variable{base:Nat}{bA:Nat->Prop}{S1:Z}{w':cw}{mu rI:oV}{yD hw2:Nat->Nat}{lk1 lk2:Nat->Prop}{n0:Nat}
def ac9{d:Nat}{x b:Q}(h:GV S1 n0 d x=J b):(∀sz es,x≠.sl .gB sz es)/\(∀a,x≠.cQ a):=by cases d<;>grind [GV,br]
def YK{u:bV}{x:Q}(h:br x=G):dw u x=(x,u):=by
 cases x with
 |sl r b a=>cases r<;>first|rfl|trivial
 |_=>rfl
def YL{u:bV}{x:Q}(h:∀sz es,x≠.sl .gB sz es):dw u x=(x,u):=by
 cases x with
 |sl r sz es=>cases r<;>first|rfl|simp_all
 |_=>rfl
def VN{a:oG}{ti:Id->TI}{x:Q}{v:bC}(h:br x=G):gO a ti x v:=by
 cases x with
 |sl r c b=>cases r<;>first|trivial|simp[br]at h
 |cQ d=>trivial
 |_=>trivial
def Rv(d:∀r v,lt n0 (λ_=>G) r=G->RV w' rI yD lk1 r v->RV w' mu hw2 lk2 r v)(c:∀v f x,RV w' rI yD lk1 v x->GV S1 n0 12 v=J f->RV w' mu hw2 lk2 f x){u:bV}{x b:Q}(h:Vo S1 n0 x=J b):
 (dw u b).2=(dw u x).2/\(∀v,RV w' rI yD lk1 (dw u x).1 v->RV w' mu hw2 lk2 (dw u b).1 v)/\(∀e ti v,gO e ti (dw u x).1 v->gO e ti (dw u b).1 v)/\cI b=G:=by
 unfold Vo at h;split at h
 ·rename_i a
  simp at h;subst h
  have i:lt n0 (λ_=>G) (dw u x).1=G:=by
   unfold pfr at a
   grind [dw,lt,Nz,qd,zI]
  refine⟨rfl,λv=>d _ v i,λ_ _ _ h=>h, ?_⟩;unfold pfr at a;split at a;·rfl
  ·cases x<;>first|rfl|trivial
 ·have⟨a,_⟩:=zm _ _ _ h
  have⟨g,k⟩:=ac9 h;rw[YK a,YL g];refine⟨rfl,λv j=>c _ _ _ j h,λ_ _ _ _=>VN a, ?_⟩;cases b<;>first|rfl|trivial
def ac_(d:∀r v,lt n0 (λ_=>G) r=G->RV w' rI yD lk1 r v->RV w' mu hw2 lk2 r v)(c:∀v f x,RV w' rI yD lk1 v x->GV S1 n0 12 v=J f->RV w' mu hw2 lk2 f x):
 ∀(l l':F)(u:bV),l.mapM (Vo S1 n0)=J l'->(fG u l').2=(fG u l).2/\(fG u l').1.length=(fG u l).1.length/\
  ∀(j:Nat)(b:Q),(fG u l').1[j]? =J b->∃a,(fG u l).1[j]? =J a/\(∀v,RV w' rI yD lk1 a v->RV w' mu hw2 lk2 b v)/\∀e ti v,gO e ti a v->gO e ti b v:=by
 intro l;induction l with
 |nil=>grind [fG]
 |cons x l o=>
  intro l' u h;obtain⟨p,r,g,n,rfl⟩:=mapM_cons h;have⟨i,k,m,_⟩:=Rv d c (u:=u) g
  grind [fG]
def ada(d:∀r v,lt n0 (λ_=>G) r=G->RV w' rI yD lk1 r v->RV w' mu hw2 lk2 r v)(c:∀v o x,RV w' rI yD lk1 v x->GV S1 n0 12 v=J o->RV w' mu hw2 lk2 o x){x b:Q}(h:Qf S1 n0 x=J b):
 (aY [] b).2=(aY [] x).2/\(∀v,RV w' rI yD lk1 (aY [] x).1 v->RV w' mu hw2 lk2 (aY [] b).1 v)/\(∀i ti v,eU i ti (aY [] x).1 v->eU i ti (aY [] b).1 v):=by
 by_cases T:∃m,x=.cQ m
 ·obtain⟨m,rfl⟩:=T
  simp only[Qf,rH]at h;obtain⟨l',S,rfl⟩:=h;have⟨w,z,A⟩:=ac_ d c m l' [] S;simp only[aY];refine⟨w,λv hv=>?_,λi ti v l k e j a y n hy=>?_⟩
  ·cases hv with
   |cQ _ f g=>
    rw[<-z];refine .cQ _ f λj a n=>?_
    grind
  ·have⟨p,E,_,I⟩:=A j a n
   exact I _ _ _ (l k e j p y E hy)
 ·have hx:Qf S1 n0 x=Vo S1 n0 x:=by cases x<;>first|rfl|simp_all
  rw[hx]at h;have⟨q,s,t,a4⟩:=Rv d c (u:=[]) h;rw[(by cases x<;>first|rfl|trivial:aY [] x=dw [] x),(by cases b<;>first|rfl|trivial:aY [] b=dw [] b)];exact⟨q,s,λi ti v l=>eU.of1 (t i ti v (l.to1 (N6 [] x (by cases x<;>first|rfl|trivial|simp[Vo,pfr,br,GV]at h))))⟩
end
def YM{ay:eS->Option KF}{nk:NK}{n:Nat}(hm:P.follows .mixedOrders=G)(hN:Bs P)(hpr:HV P nk)(at8:∀f k,ay f=J k->∃fn,P.funcs[f]? =J fn/\KOK P fn k)
 (IH:pv P (Ex ay nk n)):pv P (Ex ay nk (n+1)):=by
 intro f args S r S' h base bA w mu hw ti Q8 I hlen at9;have hold:=LN hpr (ac8 hpr at8 n);unfold Ex at h;split at h;·cases h
 rename_i k hk;have⟨fn,hf,hnt,hp,Ye,YJ⟩:=at8 f k hk;obtain⟨c,hb⟩:∃c,fn.body=J c:=by cases hbd:fn.body<;>simp_all
 simp only[hb,Option.bind_some]at Ye;split at h;·cases h
 rename_i hal;have wf0:GY fn.ntmps ⟨Ar 0 args,[],S.length⟩:=by
  intro t ht
  grind [Kf]
 split at h;·cases h
 ·rename_i o u S1 hne h1
  split at h;·cases h
  rename_i vs0 Tk;have⟨hnt,afe⟩:=Oc h;clear h;generalize hvv:vs0.map cd=vs at afe;refine⟨⟨fn,c,hf,hb⟩,calls_of_wp hf hb ?_⟩;have⟨wf1,_,d⟩:=LM hold _ _ _ _ _ _ _ _ Ye wf0 (gM S.length) h1;have Yf:Iv P fn (toE fn.ntmps u) S1 fn.results.toList=J vs0:=by rw[at6 wf1 YJ];exact Tk
  refine(VO (base:=base) (bA:=bA) (S0:=S) (w0:=w) (mu0:=mu) (hw0:=hw) (ti0:=ti) hm (VP hpr IH) hold hN n).1 _ c _ S o u S1 _ w _ Ye wf0 h1 ?_ ?_
  ·refine⟨mu,hw,ti,I,⟨?_,λt=>?_⟩,Ext.refl _ _ _ _ _ _,kM.refl _ _,rfl,λi h _=>⟨rfl,h⟩⟩
   ·simp[toE];omega
   rw[acJ wf0];show RV _ _ _ _ (KE.get (Ar 0 args) t) _/\eU _ _ (KE.get (Ar 0 args) t) _;rw[Kf];by_cases Ed:t<args.length
   ·rw[ifP]
    have⟨v,hv,hr,hfl⟩:=at9 t args[t] bW;have e1:args.getD (t -0) .U=args[t]:=by grind
    have e2:(Q8++Array.replicate (fn.ntmps -Q8.size) undef).getD t undef=v:=by rw[DU,Array.getElem?_append_left V,hv];rfl
    rw[e1,e2];trivial
   ·rw[tQ]
    exact⟨.undef _,trivial⟩
  ·intro a' w' wf' R
   have⟨rI,yD,J2,I1,SL,e,lv,hd,hole⟩:=R;have gi:a'.defers=[]/\∃v,(results fn a'.tmps).run P w'=.ok v w'/\aaK P base bA S w mu hw ti r S' (.returned v) w':=by
    refine⟨hd, ?_⟩;have⟨ys,r1,r2',r3'⟩:=akt (fn:=fn) I1 SL _ _ Yf;have r2:vs.length=ys.length:=by grind
    have r3:∀(j:Nat)(x:Q)(v:bC),vs[j]? =J x->ys[j]? =J v->RV w' rI yD (h_ S1 rI) x v/\eU (bF u.ag S1 rI) J2 x v:=by intro j x v hx hv;rw[<-hvv]at hx;simp at hx;obtain⟨y,hy,rfl⟩:=hx;have⟨p,q⟩:=r3' j y v hy hv;exact⟨p.cd,q.cd⟩
    have aub:∀x∈vs,cI x=G:=by intro x hx;rw[<-hvv]at hx;simp only[yF]at hx;obtain⟨y,hy,rfl⟩:=hx;rw[zG]at hnt;have:=hnt y hy;cases y<;>first|exact this|rfl
    have⟨ks,tp,T,_,l2,a2⟩:=adb (S:=S1) (w:=w') (mu:=rI) (hw:=yD) (ti:=J2) vs ys u.ag [] [] (⟨rfl,λm g h=>by simp at h,λm m' k h=>by simp at h,λk g h=>h,λm k h=>by simp at h⟩) r2 (λj x v hx hv=>by have⟨p,q⟩:=r3 j x v hx hv;exact⟨p,q.to1 (aub x (gS hx))⟩);rw[As]at T a2
    have hm:(fn.results.mapM (λr=>match r with
     |.tmp t=>pure (a'.tmps.getD t undef)
     |.cell a0 t=>do loadVar t (<-asAddr (a'.tmps.getD a0 undef)):ResultVar->Sem bC)).run P w'=.ok ys.toArray w':=by
     rw[Array.mapM_eq_mapM_toList,Sem.run_map]
     grind [Result.andThen]
    have YJ:(results fn a'.tmps).run P w'=.ok (if h:ys.toArray.size=1 then ys.toArray[0]else .tuple ys.toArray) w':=by unfold results;rw[Sem.run_bind];exact(congrArg (λz=>Result.andThen z _) hm).trans rfl
    have fin:(aY [] (ck (aO u.ag vs))).2=(fG [] (aO u.ag vs)).2/\
     RV w' rI yD (h_ S1 rI) (aY [] (ck (aO u.ag vs))).1 (if h:ys.toArray.size=1 then ys.toArray[0]else .tuple ys.toArray)/\
     eU (bF (fG [] (aO u.ag vs)).2 S1 rI) (zH J2 ks) (aY [] (ck (aO u.ag vs))).1 (if h:ys.toArray.size=1 then ys.toArray[0]else .tuple ys.toArray):=by
     have A:ys.length≠1->ck (aO u.ag vs)=.cQ (aO u.ag vs)->(aY [] (ck (aO u.ag vs))).2=(fG [] (aO u.ag vs)).2/\
      RV w' rI yD (h_ S1 rI) (aY [] (ck (aO u.ag vs))).1 (if h:ys.toArray.size=1 then ys.toArray[0]else .tuple ys.toArray)/\
      eU (bF (fG [] (aO u.ag vs)).2 S1 rI) (zH J2 ks) (aY [] (ck (aO u.ag vs))).1 (if h:ys.toArray.size=1 then ys.toArray[0]else .tuple ys.toArray):=by
      intro hl1 apf;rw[apf,dif_neg V];simp only[aY];refine⟨trivial, ?_, ?_⟩
      ·have hR:=RV.cQ (w:=w') (mu:=rI) (hw:=yD) (lk:=h_ S1 rI) (fG [] (aO u.ag vs)).1 (λj=>ys.getD j undef) (λj x hj=>by grind)
       have e0:((List.range (fG [] (aO u.ag vs)).1.length).map λj=>ys.getD j undef).toArray=ys.toArray:=by grind
       grind
      ·intro arr auc j x y hx hy
       grind
     cases Tk:vs with
     |nil=>
      rw[Tk]at A r2;exact A (by grind) rfl
     |cons x l=>
      cases hl0:l with
      |cons x' l'=>
       rw[Tk,hl0]at A r2;exact A (by grind) rfl
      |nil=>
       rw[Tk,hl0]at a2 r2 l2;have hnx:=aub x (by grind);obtain⟨y,rfl⟩:∃y,ys=[y]:=by cases ys<;>grind
       have hg:=N4 u.ag x hnx;have ht:aY [] (bq u.ag x).1=dw [] (bq u.ag x).1:=by
        cases hx:(bq u.ag x).1 with
        |cQ l=>rw[hx]at hg;trivial
        |_=>rfl
       have apf:ck (aO u.ag [x])=(bq u.ag x).1:=rfl;have⟨p,q⟩:=a2 0 (dw [] (bq u.ag x).1).1 y rfl rfl;rw[apf,ht];exact⟨rfl,p,eU.of1 q⟩
    have⟨g1,g2,g3⟩:=fin;rw[<-g1]at T g3;have⟨I2,lv2⟩:=YE I1 lv T;have⟨q1,q2,q3,q4,q5,q6⟩:=ae0 I I2 e lv2 hole d
    have one:∀(x:Q)(y:bC),lt S.length (λ_=>G) x=G->gO (bF (aY [] (ck (aO u.ag vs))).2 S1 rI) (zH J2 ks) x y->
     gO (bF (aY [] (ck (aO u.ag vs))).2 (S1.take S.length) mu) (zH J2 ks) x y:=by
     intro x y hx hf1;cases x with
     |sl rr sz es=>
      cases rr with
      |fr k=>
       trivial
      |bx i j=>
       have⟨o',c1,c2⟩:=hf1;have hi:i<S.length:=by grind [lt,Nz]
       exact⟨o',by grind,c2⟩
      |_=>exact hf1
     |_=>exact hf1
    have ade:∀(s:Q)(y:bC),lt S.length (λ_=>G) s=G->eU (bF (aY [] (ck (aO u.ag vs))).2 S1 rI) (zH J2 ks) s y->
     eU (bF (aY [] (ck (aO u.ag vs))).2 (S1.take S.length) mu) (zH J2 ks) s y:=by
     intro s y Ye g3;cases s with
     |cQ l=>
      intro arr auc j x y hx hy;exact one x y (ur (by trivial) hx) (g3 arr auc j x y hx hy)
     |sl rr sz es=>exact one (.sl rr sz es) _ Ye g3
     |_=>trivial
    rcases afe with⟨hp,rfl,rfl⟩|⟨_,_,rfl,rfl⟩|⟨hp,rfl,rfl⟩|⟨hfz,hp,rfl⟩
    ·have Ye:=MY (sP hp S.length (λ_=>G))
     exact⟨_,YJ,_,rfl,mu,_,zH J2 ks,q1,q2,q3,q4 _ _ Ye g2,ade _ _ Ye g3,λi a b=>⟨q6 i a b,a⟩⟩
    ·exact⟨_,YJ,_,rfl,rI,yD,zH J2 ks,I2,e,lv2,g2,g3,hole⟩
    ·have Ye:=MY (Ru (gM _) (λk _ h=>by rfl) hp (q':=λ_=>G))
     exact⟨_,YJ,_,rfl,mu,_,zH J2 ks,q1,q2,q3,q4 _ _ Ye g2,ade _ _ Ye g3,λi a b=>⟨q6 i a b,a⟩⟩
    ·have Ye:=MY (sP hp S.length (λ_=>G))
     have⟨t1,t2,t3⟩:=ada (n0:=S.length) (mu:=mu) (lk2:=h_ (S1.take S.length) mu) q4 (λv v' x hv hf=>ao3 I2 _ _ _ _ hv hf) hfz;refine⟨_,YJ,_,rfl,mu,_,zH J2 ks, ?_,q2, ?_,t2 _ g2, ?_,λi a b=>⟨q6 i a b,a⟩⟩;·grind
     all_goals grind
   cases o with
   |normal=>exact gi
   |R=>exact gi
   |E id=>simp_all
 ·cases h
def YN{b:eS->Option KF}{nk:NK}(e:P.follows .mixedOrders=G)(d:Bs P)(c:HV P nk)(a:∀f k,b f=J k->∃fn,P.funcs[f]? =J fn/\KOK P fn k):∀n,pv P (Ex b nk n):=by
 intro n;induction n with
 |zero=>nofun
 |succ n g=>exact YM e d c a g
end
end
@[simp]abbrev ez(d s:Nat):KO:=⟨J d,M,.p (.mov (.t s))⟩
@[simp]abbrev cz(d:Nat)(p:KP):KO:=⟨J d,M,.p p⟩
@[simp]abbrev dY(d:Nat)(k:GX):KO:=⟨J d,M,k⟩
@[simp]abbrev GB(k:GX):KO:=⟨M,M,k⟩
@[simp]abbrev q_x(d g s:Nat):KO:=⟨J d,J (g,G),.p (.mov (.t s))⟩
@[simp]abbrev Mt(d g s:Nat):KO:=⟨J d,J (g,O),.p (.mov (.t s))⟩
@[simp]abbrev Ce(d g:Nat)(p:KP):KO:=⟨J d,J (g,G),.p p⟩
@[simp]abbrev pJ(d g:Nat)(p:KP):KO:=⟨J d,J (g,O),.p p⟩
@[simp]abbrev RG(d g:Nat)(k:GX):KO:=⟨J d,J (g,G),k⟩
@[simp]abbrev DW(d g:Nat)(k:GX):KO:=⟨J d,J (g,O),k⟩
@[simp]abbrev yG(n:Int):KV:=.c (.I Y n)
@[simp]abbrev q_c(f:eS):KV:=.c (.fn f [] [])
theorem arb:Tryz.prog.funcs.all (λa=> !(a.name== "runtime.NumGoroutine"))=G:=by kernel_rfl
def abU{a b c:bC}{d:qS}(h:d.size=3)(e:d[0]? =J a)(f:d[1]? =J b)(g:d[2]? =J c):d= #[a,b,c]:=by grind
def Z5:qS->Sem bC:=λargs=>do
 let(x,y,b) <-Extern.MathBitsCarry.three "Sub64" args
 pure (Extern.MathBitsCarry.pair ((x+Extern.MathBitsCarry.m64 -y -b)%Extern.MathBitsCarry.m64) (if x<y+b then 1 else 0))
def Z6{P:cy}(x y c:Int)(f:0<=x)(g:0<=y)(n:y<18446744073709551616)(d:0<=c)(l:c<=1)(w:cw):
 (Z5 #[.int U x,.int U y,.int U c]).run P w=
  .ok (.tuple #[.int U ((x+18446744073709551616 -y -c)%18446744073709551616),.int U (if x<y+c then 1 else 0)]) w:=by
 have e:∀k:Nat,k<=1->(Z5 #[.int U x,.int U y,.int U (k:Int)]).run P w=
  .ok (Extern.MathBitsCarry.pair ((x.toNat+Extern.MathBitsCarry.m64 -y.toNat -k)%Extern.MathBitsCarry.m64) (if x.toNat<y.toNat+k then 1 else 0)) w:=by
  intro k m;have:k=0\/k=1:=V;rcases this with rfl|rfl<;>rfl
 obtain⟨k,rfl⟩:=Y_ d;rw[e k V];obtain⟨a,rfl⟩:=Y_ f;obtain⟨b,rfl⟩:=Y_ g;have i:(((a+2^64 -b -k)%2^64:Nat):Int)=((a:Int)+2^64 -b -k)%2^64:=V;have j:((if a<b+k then 1 else 0:Nat):Int)=if(a:Int)<b+k then 1 else 0:=by by_cases h:a<b+k;all_goals grind
 simp_all[Extern.MathBitsCarry.pair,Extern.MathBitsCarry.m64]
def xv0{l:F}{r:Q}(h:DT 0 l=J r):∃x y c,l=[.I U x,.I U y,.I U c]/\(0<=x/\0<=y/\0<=c/\c<=1)/\r=.cQ [.I U ((x+y+c)%18446744073709551616),.I U ((x+y+c)/18446744073709551616)]:=by
 match l,h with
 |[.I U x,.I U y,.I U c],h=>
  grind [DT]
def xv1{l:F}{r:Q}(h:DT 1 l=J r):∃x y c,l=[.I U x,.I U y,.I U c]/\(0<=x/\0<=y/\y<18446744073709551616/\0<=c/\c<=1)/\r=.cQ [.I U ((x+18446744073709551616 -y -c)%18446744073709551616),.I U (if x<y+c then 1 else 0)]:=by
 match l,h with
 |[.I U x,.I U y,.I U c],h=>
  simp only[DT]at h;split at h;all_goals grind
def named:Bs Tryz.prog:=by
 refine⟨λf S h=>?_,λf e s r vs w mu T lk g h d=>?_⟩;·grind [arb]
 ·unfold aka at g
  split at g
  ·rename_i n
   cases g;subst n;obtain⟨x,y,c,rfl,t,rfl⟩:=xv0 h;have⟨E,i,o⟩:=d.2 0 _ rfl;have⟨I,k,p⟩:=d.2 1 _ rfl;have⟨P,l,q⟩:=d.2 2 _ rfl;cases o;cases p;cases q;obtain rfl:=abU (by simpa using d.1.symm) i k l;refine⟨.tuple #[.int U ((x+y+c)%2^64),.int U ((x+y+c)/2^64)], ?_, ?_, ?_⟩
   ·rw[run_callFunc_extern (e:=add64Entry) Tryz.func163 rfl rfl (by kernel_rfl) (by kernel_rfl)]
    simp_all[run_add64]
   ·refine RV.cQ _ (λj=>if j=0 then .int U ((x+y+c)%2^64)else .int U ((x+y+c)/2^64)) λj a b=>?_
    match j,b with
    |0,b=>cases b;exact .int _ _
    |1,b=>cases b;exact .int _ _
   ·intro v A m e j a z b u
    match j,b with
    |0,b=>cases b;trivial
    |1,b=>cases b;trivial
  split at g
  ·rename_i n
   cases g;subst n;obtain⟨x,y,c,rfl,t,rfl⟩:=xv1 h;have⟨E,i,o⟩:=d.2 0 _ rfl;have⟨I,k,p⟩:=d.2 1 _ rfl;have⟨P,l,q⟩:=d.2 2 _ rfl;cases o;cases p;cases q;obtain rfl:=abU (by simpa using d.1.symm) i k l;refine⟨.tuple #[.int U ((x+2^64 -y -c)%2^64),.int U (if x<y+c then 1 else 0)], ?_, ?_, ?_⟩
   ·rw[run_callFunc_extern (e:=Z5) Tryz.func227 rfl rfl (by kernel_rfl) (by kernel_rfl)]
    simp_all[Z6]
   ·refine RV.cQ _ (λj=>if j=0 then .int U ((x+2^64 -y -c)%2^64)else .int U (if x<y+c then 1 else 0)) λj a b=>?_
    match j,b with
    |0,b=>cases b;exact .int _ _
    |1,b=>cases b;exact .int _ _
   ·intro v A m e j a z b u
    match j,b with
    |0,b=>cases b;trivial
    |1,b=>cases b;trivial
  grind
end Go.Proofs.YtiaklhkdbokkhaaGreat.am
